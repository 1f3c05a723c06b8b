/- Own work. This text shows: numbers are handed out; last timestamps; keys. -/
import Derived.Test.YtcipamnhmeplkaaGreatDoorL1
set_option linter.unusedVariables false
set_option linter.unusedSimpArgs false
namespace Go.AM.J
open Go Go.AM

theorem next_spec (h : Heap) (xs : List Int) (b n : Nat) (hd : DH h xs b) (hb : b < 1000000) (h6 : 6 < h.next) (h0 : 0 < n) (h1 : n < 1000) (Q : AV → Heap → Prop)
    (hq : ∀ (j : Nat) h', j < n → Only [6] h h' → DH h' xs (b + 1) → Q (.int .i64 (j : Int)) h') : C 12 [.ptr 6 0, .int .i64 (n : Int)] h Q := by
  obtain ⟨a, ha, hd⟩ := hd
  refine vw_start sysJ fn12 rfl ?_
  (repeat (first
    | refine vi_op rfl rfl rfl rfl rfl ?_
    | refine vi_inc rfl rfl (by omega) ?_
    | refine vi_dec rfl rfl (by omega) ?_
    | refine vi_not rfl rfl ?_
    | refine vi_load rfl rfl (by assumption) rfl ?_
    | refine vi_storeL rfl rfl rfl rfl rfl ?_
    | refine vi_nil ?_ | refine sq_seq ?_ | refine sw_seq ?_ | refine sw_items ?_ | refine sw_ret ?_ | refine sq_seq_r ?_ | refine sq_seq_x ?_ | refine sw_skip ?_ | refine sw_exit ?_
    | refine sw_block ?_ | refine sq_block ?_ | refine sq_block_r ?_ | refine sq_block_x ?_ | refine sq_block_o rfl ?_ | refine vq_loop_x ?_ | refine vq_loop_r ?_ | refine vi_chk rfl rfl rfl rfl ?_ | refine vi_chkload rfl rfl (by assumption) rfl rfl ?_ | refine vi_off rfl ?_ | refine vi_calloff rfl ?_ | refine vi_chkoff rfl ?_))
  refine vw_cond _ rfl (fun hc => ?_) (fun hc => ?_)
  · (repeat (first
    | refine vi_op rfl rfl rfl rfl rfl ?_
    | refine vi_inc rfl rfl (by omega) ?_
    | refine vi_dec rfl rfl (by omega) ?_
    | refine vi_not rfl rfl ?_
    | refine vi_load rfl rfl (by assumption) rfl ?_
    | refine vi_storeL rfl rfl rfl rfl rfl ?_
    | refine vi_nil ?_ | refine sq_seq ?_ | refine sw_seq ?_ | refine sw_items ?_ | refine sw_ret ?_ | refine sq_seq_r ?_ | refine sq_seq_x ?_ | refine sw_skip ?_ | refine sw_exit ?_
    | refine sw_block ?_ | refine sq_block ?_ | refine sq_block_r ?_ | refine sq_block_x ?_ | refine sq_block_o rfl ?_ | refine vq_loop_x ?_ | refine vq_loop_r ?_ | refine vi_chk rfl rfl rfl rfl ?_ | refine vi_chkload rfl rfl (by assumption) rfl rfl ?_ | refine vi_off rfl ?_ | refine vi_calloff rfl ?_ | refine vi_chkoff rfl ?_))
    refine vq_end rfl ?_
    exact hq 0 h h0 (.refl _ _) ⟨a, by omega, hd⟩
  · have hlt : a < xs.length := by
      simp only [decide_eq_false_iff_not, List.length_map, slen] at hc
      omega
    (repeat (first
    | refine vi_op rfl rfl rfl rfl rfl ?_
    | refine vi_inc rfl rfl (by omega) ?_
    | refine vi_dec rfl rfl (by omega) ?_
    | refine vi_not rfl rfl ?_
    | refine vi_load rfl rfl (by assumption) rfl ?_
    | refine vi_storeL rfl rfl rfl rfl rfl ?_
    | refine vi_nil ?_ | refine sq_seq ?_ | refine sw_seq ?_ | refine sw_items ?_ | refine sw_ret ?_ | refine sq_seq_r ?_ | refine sq_seq_x ?_ | refine sw_skip ?_ | refine sw_exit ?_
    | refine sw_block ?_ | refine sq_block ?_ | refine sq_block_r ?_ | refine sq_block_x ?_ | refine sq_block_o rfl ?_ | refine vq_loop_x ?_ | refine vq_loop_r ?_ | refine vi_chk rfl rfl rfl rfl ?_ | refine vi_chkload rfl rfl (by assumption) rfl rfl ?_ | refine vi_off rfl ?_ | refine vi_calloff rfl ?_ | refine vi_chkoff rfl ?_))
    refine vi_store rfl rfl rfl rfl rfl hd rfl ?_
    have hd2 := Heap.get_set_same h 6 (.cells [.vs .unk (xs.map (.int .i64)), .int .i64 ((a + 1 : Nat) : Int)])
    have hx : (xs.map (AV.int .i64))[a]? = some (.int .i64 xs[a]) := by simp [hlt]
    (repeat (first
    | refine vi_op rfl rfl rfl rfl rfl ?_
    | refine vi_inc rfl rfl (by omega) ?_
    | refine vi_dec rfl rfl (by omega) ?_
    | refine vi_not rfl rfl ?_
    | refine vi_load rfl rfl (by assumption) rfl ?_
    | refine vi_storeL rfl rfl rfl rfl rfl ?_
    | refine vi_nil ?_ | refine sq_seq ?_ | refine sw_seq ?_ | refine sw_items ?_ | refine sw_ret ?_ | refine sq_seq_r ?_ | refine sq_seq_x ?_ | refine sw_skip ?_ | refine sw_exit ?_
    | refine sw_block ?_ | refine sq_block ?_ | refine sq_block_r ?_ | refine sq_block_x ?_ | refine sq_block_o rfl ?_ | refine vq_loop_x ?_ | refine vq_loop_r ?_ | refine vi_chk rfl rfl rfl rfl ?_ | refine vi_chkload rfl rfl (by assumption) rfl rfl ?_ | refine vi_off rfl ?_ | refine vi_calloff rfl ?_ | refine vi_chkoff rfl ?_))
    refine vi_iaddr rfl rfl rfl hx rfl ?_
    (repeat (first
    | refine vi_op rfl rfl rfl rfl rfl ?_
    | refine vi_inc rfl rfl (by omega) ?_
    | refine vi_dec rfl rfl (by omega) ?_
    | refine vi_not rfl rfl ?_
    | refine vi_load rfl rfl (by assumption) rfl ?_
    | refine vi_storeL rfl rfl rfl rfl rfl ?_
    | refine vi_nil ?_ | refine sq_seq ?_ | refine sw_seq ?_ | refine sw_items ?_ | refine sw_ret ?_ | refine sq_seq_r ?_ | refine sq_seq_x ?_ | refine sw_skip ?_ | refine sw_exit ?_
    | refine sw_block ?_ | refine sq_block ?_ | refine sq_block_r ?_ | refine sq_block_x ?_ | refine sq_block_o rfl ?_ | refine vq_loop_x ?_ | refine vq_loop_r ?_ | refine vi_chk rfl rfl rfl rfl ?_ | refine vi_chkload rfl rfl (by assumption) rfl rfl ?_ | refine vi_off rfl ?_ | refine vi_calloff rfl ?_ | refine vi_chkoff rfl ?_))
    refine vi_call sysJ rfl rfl ?_
    refine pick_spec _ _ _ h0 h1 _ fun j hj => ?_
    (repeat (first
    | refine vi_op rfl rfl rfl rfl rfl ?_
    | refine vi_inc rfl rfl (by omega) ?_
    | refine vi_dec rfl rfl (by omega) ?_
    | refine vi_not rfl rfl ?_
    | refine vi_load rfl rfl (by assumption) rfl ?_
    | refine vi_storeL rfl rfl rfl rfl rfl ?_
    | refine vi_nil ?_ | refine sq_seq ?_ | refine sw_seq ?_ | refine sw_items ?_ | refine sw_ret ?_ | refine sq_seq_r ?_ | refine sq_seq_x ?_ | refine sw_skip ?_ | refine sw_exit ?_
    | refine sw_block ?_ | refine sq_block ?_ | refine sq_block_r ?_ | refine sq_block_x ?_ | refine sq_block_o rfl ?_ | refine vq_loop_x ?_ | refine vq_loop_r ?_ | refine vi_chk rfl rfl rfl rfl ?_ | refine vi_chkload rfl rfl (by assumption) rfl rfl ?_ | refine vi_off rfl ?_ | refine vi_calloff rfl ?_ | refine vi_chkoff rfl ?_))
    refine vq_end rfl ?_
    exact hq j _ hj ((Only.refl _ h).set (.inl (by simp))) ⟨a + 1, by omega, hd2⟩

theorem more_spec (h : Heap) (xs : List Int) (b : Nat) (hd : DH h xs b) (Q : AV → Heap → Prop)
    (hq : ∀ t : Bool, Q (.bool t) h) : C 7 [.ptr 6 0] h Q := by
  obtain ⟨a, ha, hd⟩ := hd
  refine vw_start sysJ fn7 rfl ?_
  (repeat (first
    | refine vi_op rfl rfl rfl rfl rfl ?_
    | refine vi_inc rfl rfl (by omega) ?_
    | refine vi_dec rfl rfl (by omega) ?_
    | refine vi_not rfl rfl ?_
    | refine vi_load rfl rfl (by assumption) rfl ?_
    | refine vi_storeL rfl rfl rfl rfl rfl ?_
    | refine vi_nil ?_ | refine sq_seq ?_ | refine sw_seq ?_ | refine sw_items ?_ | refine sw_ret ?_ | refine sq_seq_r ?_ | refine sq_seq_x ?_ | refine sw_skip ?_ | refine sw_exit ?_
    | refine sw_block ?_ | refine sq_block ?_ | refine sq_block_r ?_ | refine sq_block_x ?_ | refine sq_block_o rfl ?_ | refine vq_loop_x ?_ | refine vq_loop_r ?_ | refine vi_chk rfl rfl rfl rfl ?_ | refine vi_chkload rfl rfl (by assumption) rfl rfl ?_ | refine vi_off rfl ?_ | refine vi_calloff rfl ?_ | refine vi_chkoff rfl ?_))
  refine vq_end rfl ?_
  exact hq _

theorem blast_spec (h : Heap) (v m1 m2 : AV) (bk : List (List Wr)) (hb : BV v bk) (hg : h.get 5 = some (.cells [v, m1, m2])) (Q : AV → Heap → Prop)
    (hq : Q (.int .i64 (bk.length : Int)) h) : C 11 [.ptr 5 0] h Q := by
  refine vw_start sysJ fn11 rfl ?_
  (repeat (first
    | refine vi_op rfl rfl rfl rfl rfl ?_
    | refine vi_inc rfl rfl (by omega) ?_
    | refine vi_dec rfl rfl (by omega) ?_
    | refine vi_not rfl rfl ?_
    | refine vi_load rfl rfl (by assumption) rfl ?_
    | refine vi_storeL rfl rfl rfl rfl rfl ?_
    | refine vi_nil ?_ | refine sq_seq ?_ | refine sw_seq ?_ | refine sw_items ?_ | refine sw_ret ?_ | refine sq_seq_r ?_ | refine sq_seq_x ?_ | refine sw_skip ?_ | refine sw_exit ?_
    | refine sw_block ?_ | refine sq_block ?_ | refine sq_block_r ?_ | refine sq_block_x ?_ | refine sq_block_o rfl ?_ | refine vq_loop_x ?_ | refine vq_loop_r ?_ | refine vi_chk rfl rfl rfl rfl ?_ | refine vi_chkload rfl rfl (by assumption) rfl rfl ?_ | refine vi_off rfl ?_ | refine vi_calloff rfl ?_ | refine vi_chkoff rfl ?_))
  refine vi_lenV rfl rfl hb.slen ?_
  (repeat (first
    | refine vi_op rfl rfl rfl rfl rfl ?_
    | refine vi_inc rfl rfl (by omega) ?_
    | refine vi_dec rfl rfl (by omega) ?_
    | refine vi_not rfl rfl ?_
    | refine vi_load rfl rfl (by assumption) rfl ?_
    | refine vi_storeL rfl rfl rfl rfl rfl ?_
    | refine vi_nil ?_ | refine sq_seq ?_ | refine sw_seq ?_ | refine sw_items ?_ | refine sw_ret ?_ | refine sq_seq_r ?_ | refine sq_seq_x ?_ | refine sw_skip ?_ | refine sw_exit ?_
    | refine sw_block ?_ | refine sq_block ?_ | refine sq_block_r ?_ | refine sq_block_x ?_ | refine sq_block_o rfl ?_ | refine vq_loop_x ?_ | refine vq_loop_r ?_ | refine vi_chk rfl rfl rfl rfl ?_ | refine vi_chkload rfl rfl (by assumption) rfl rfl ?_ | refine vi_off rfl ?_ | refine vi_calloff rfl ?_ | refine vi_chkoff rfl ?_))
  refine vq_end rfl ?_
  exact hq

theorem jlast_spec (h : Heap) (n : Nat) (m1 m2 : AV) (hg : h.get 2 = some (.cells [.int .u64 (n : Int), m1, m2])) (Q : AV → Heap → Prop)
    (hq : Q (.int .u64 (n : Int)) h) : C 10 [.ptr 2 0] h Q := by
  refine vw_start sysJ fn10 rfl ?_
  (repeat (first
    | refine vi_op rfl rfl rfl rfl rfl ?_
    | refine vi_inc rfl rfl (by omega) ?_
    | refine vi_dec rfl rfl (by omega) ?_
    | refine vi_not rfl rfl ?_
    | refine vi_load rfl rfl (by assumption) rfl ?_
    | refine vi_storeL rfl rfl rfl rfl rfl ?_
    | refine vi_nil ?_ | refine sq_seq ?_ | refine sw_seq ?_ | refine sw_items ?_ | refine sw_ret ?_ | refine sq_seq_r ?_ | refine sq_seq_x ?_ | refine sw_skip ?_ | refine sw_exit ?_
    | refine sw_block ?_ | refine sq_block ?_ | refine sq_block_r ?_ | refine sq_block_x ?_ | refine sq_block_o rfl ?_ | refine vq_loop_x ?_ | refine vq_loop_r ?_ | refine vi_chk rfl rfl rfl rfl ?_ | refine vi_chkload rfl rfl (by assumption) rfl rfl ?_ | refine vi_off rfl ?_ | refine vi_calloff rfl ?_ | refine vi_chkoff rfl ?_))
  refine vq_end rfl ?_
  exact hq

theorem when_spec (h : Heap) (v m2 : AV) (es : List (AV × AV × Nat)) (c : Nat) (key : List UInt8) (f : Option AV) (hg : h.get 2 = some (.cells [v, .mp 0, m2])) (h0 : h.get 0 = some (.map es c)) (hf : mfind (.str key) es = some f) (Q : AV → Heap → Prop)
    (hq : Q (match f with | some v => v | none => .int .u64 0).erR h) : C 14 [.ptr 2 0, .str key] h Q := by
  refine vw_start sysJ fn14 rfl ?_
  (repeat (first
    | refine vi_op rfl rfl rfl rfl rfl ?_
    | refine vi_inc rfl rfl (by omega) ?_
    | refine vi_dec rfl rfl (by omega) ?_
    | refine vi_not rfl rfl ?_
    | refine vi_load rfl rfl (by assumption) rfl ?_
    | refine vi_storeL rfl rfl rfl rfl rfl ?_
    | refine vi_nil ?_ | refine sq_seq ?_ | refine sw_seq ?_ | refine sw_items ?_ | refine sw_ret ?_ | refine sq_seq_r ?_ | refine sq_seq_x ?_ | refine sw_skip ?_ | refine sw_exit ?_
    | refine sw_block ?_ | refine sq_block ?_ | refine sq_block_r ?_ | refine sq_block_x ?_ | refine sq_block_o rfl ?_ | refine vq_loop_x ?_ | refine vq_loop_r ?_ | refine vi_chk rfl rfl rfl rfl ?_ | refine vi_chkload rfl rfl (by assumption) rfl rfl ?_ | refine vi_off rfl ?_ | refine vi_calloff rfl ?_ | refine vi_chkoff rfl ?_))
  refine vi_lookupE f rfl rfl rfl h0 rfl hf rfl ?_
  (repeat (first
    | refine vi_op rfl rfl rfl rfl rfl ?_
    | refine vi_inc rfl rfl (by omega) ?_
    | refine vi_dec rfl rfl (by omega) ?_
    | refine vi_not rfl rfl ?_
    | refine vi_load rfl rfl (by assumption) rfl ?_
    | refine vi_storeL rfl rfl rfl rfl rfl ?_
    | refine vi_nil ?_ | refine sq_seq ?_ | refine sw_seq ?_ | refine sw_items ?_ | refine sw_ret ?_ | refine sq_seq_r ?_ | refine sq_seq_x ?_ | refine sw_skip ?_ | refine sw_exit ?_
    | refine sw_block ?_ | refine sq_block ?_ | refine sq_block_r ?_ | refine sq_block_x ?_ | refine sq_block_o rfl ?_ | refine vq_loop_x ?_ | refine vq_loop_r ?_ | refine vi_chk rfl rfl rfl rfl ?_ | refine vi_chkload rfl rfl (by assumption) rfl rfl ?_ | refine vi_off rfl ?_ | refine vi_calloff rfl ?_ | refine vi_chkoff rfl ?_))
  refine vq_end rfl ?_
  cases f <;> exact hq

theorem keys_spec (h : Heap) (Q : AV → Heap → Prop) (hq : Q (.vs .exact ([[0], [0, 0], [0, 1], [0, 255], [1], [97], [97, 0], [97, 0, 1], [97, 98], [98], [122, 122], [255], [255, 255]].map AV.str)) h) : C 6 [] h Q := by
  refine vw_start sysJ fn6 rfl ?_
  (repeat (first
    | refine vi_op rfl rfl rfl rfl rfl ?_
    | refine vi_inc rfl rfl (by omega) ?_
    | refine vi_dec rfl rfl (by omega) ?_
    | refine vi_not rfl rfl ?_
    | refine vi_load rfl rfl (by assumption) rfl ?_
    | refine vi_storeL rfl rfl rfl rfl rfl ?_
    | refine vi_nil ?_ | refine sq_seq ?_ | refine sw_seq ?_ | refine sw_items ?_ | refine sw_ret ?_ | refine sq_seq_r ?_ | refine sq_seq_x ?_ | refine sw_skip ?_ | refine sw_exit ?_
    | refine sw_block ?_ | refine sq_block ?_ | refine sq_block_r ?_ | refine sq_block_x ?_ | refine sq_block_o rfl ?_ | refine vq_loop_x ?_ | refine vq_loop_r ?_ | refine vi_chk rfl rfl rfl rfl ?_ | refine vi_chkload rfl rfl (by assumption) rfl rfl ?_ | refine vi_off rfl ?_ | refine vi_calloff rfl ?_ | refine vi_chkoff rfl ?_))
  refine vq_end rfl ?_
  exact hq
end Go.AM.J
