/- Own work. This text shows: a batch and the verdict that is due. -/
import Derived.Test.YtcipamnhmeplkaaGreatDoorL9
set_option linter.unusedVariables false
set_option linter.unusedSimpArgs false
namespace Go.AM.J
open Go Go.AM

theorem Low.refl (R : List Nat) (h : Heap) : Low R h h := ⟨Nat.le_refl _, fun _ _ _ => rfl⟩
def dqL : List Int := [1, 1, 1, 0, -1, 2]
def dsL : List Int := [0, 0, -1, -2, -9, 1]
theorem dq_get {i : Nat} (hi : i < 6) : (dqL.map (AV.int .i64))[i]? = some (.int .i64 (dqL.getD i 0)) := by
  have h1 : dqL.length = 6 := rfl
  rw [List.getElem?_map, List.getD_eq_getElem?_getD, List.getElem?_eq_getElem (by omega)]; rfl
theorem ds_get {i : Nat} (hi : i < 6) : (dsL.map (AV.int .i64))[i]? = some (.int .i64 (dsL.getD i 0)) := by
  have h1 : dsL.length = 6 := rfl
  rw [List.getElem?_map, List.getD_eq_getElem?_getD, List.getElem?_eq_getElem (by omega)]; rfl
theorem dq_b : ∀ i, i < 6 → -1 ≤ dqL.getD i 0 ∧ dqL.getD i 0 ≤ 2 := by decide
theorem ds_b : ∀ i, i < 6 → -9 ≤ dsL.getD i 0 ∧ dsL.getD i 0 ≤ 1 := by decide
theorem max_av (x : Int) : AV.int .i64 (if x > 0 then x else 0) = AV.int .i64 ((x.toNat : Nat) : Int) := by
  congr 1; split <;> omega

set_option maxHeartbeats 4000000 in
theorem asks_spec (h : Heap) (bk : List (List Wr)) (sm : Sm) (xs : List Int) (b rb : Nat) (hw : WH h bk sm) (hd : DH h xs b) (hb : bk.length < 500) (hgb : ∀ x ∈ bk, Good x) (h7 : 7 ≤ h.next) (hb2 : b < 50000) (hrb : rb < 10000) (hr : ∀ c x, sm c = some x → x.1 ≤ rb)
    (Q : AV → Heap → Prop) (hq : ∀ c r s ws h', Good ws → r ≤ rb + 2 → Low [3, 4, 5, 6] h h' → WH h' (step bk sm c r s ws).2.1 (step bk sm c r s ws).2.2 → DH h' xs (b + 30) → Q (.tup [.agg (bcells c r s ws), verAV (step bk sm c r s ws).1]) h') :
    C 8 [.ptr 5 0, .ptr 6 0] h Q := by
  refine vw_start sysJ fn8 rfl ?_
  (repeat (first
    | refine vi_op rfl rfl rfl rfl rfl ?_
    | refine vi_inc rfl rfl (by omega) ?_
    | refine vi_dec rfl rfl (by omega) ?_
    | refine vi_not rfl rfl ?_
    | refine vi_load rfl rfl (by assumption) rfl ?_
    | refine vi_storeL rfl rfl rfl rfl rfl ?_
    | refine vi_nil ?_ | refine sq_seq ?_ | refine sw_seq ?_ | refine sw_items ?_ | refine sw_ret ?_ | refine sq_seq_r ?_ | refine sq_seq_x ?_ | refine sw_skip ?_ | refine sw_exit ?_
    | refine sw_block ?_ | refine sq_block ?_ | refine sq_block_r ?_ | refine sq_block_x ?_ | refine sq_block_o rfl ?_ | refine vq_loop_x ?_ | refine vq_loop_r ?_ | refine vi_chk rfl rfl rfl rfl ?_ | refine vi_chkload rfl rfl (by assumption) rfl rfl ?_ | refine vi_off rfl ?_ | refine vi_calloff rfl ?_ | refine vi_chkoff rfl ?_))
  refine vi_call sysJ rfl rfl ?_
  refine next_spec _ xs b 3 hd (by omega) (by omega) (by omega) (by omega) _ fun c h1 hc o1 d1 => ?_
  have n1 := o1.next
  have w1 := hw.keep o1 h7 (by simp)
  obtain ⟨⟨v1, hv1, hbt1⟩, ⟨ls, c3, gl1, hkl, hfl⟩, _⟩ := w1
  (repeat (first
    | refine vi_op rfl rfl rfl rfl rfl ?_
    | refine vi_inc rfl rfl (by omega) ?_
    | refine vi_dec rfl rfl (by omega) ?_
    | refine vi_not rfl rfl ?_
    | refine vi_load rfl rfl (by assumption) rfl ?_
    | refine vi_storeL rfl rfl rfl rfl rfl ?_
    | refine vi_nil ?_ | refine sq_seq ?_ | refine sw_seq ?_ | refine sw_items ?_ | refine sw_ret ?_ | refine sq_seq_r ?_ | refine sq_seq_x ?_ | refine sw_skip ?_ | refine sw_exit ?_
    | refine sw_block ?_ | refine sq_block ?_ | refine sq_block_r ?_ | refine sq_block_x ?_ | refine sq_block_o rfl ?_ | refine vq_loop_x ?_ | refine vq_loop_r ?_ | refine vi_chk rfl rfl rfl rfl ?_ | refine vi_chkload rfl rfl (by assumption) rfl rfl ?_ | refine vi_off rfl ?_ | refine vi_calloff rfl ?_ | refine vi_chkoff rfl ?_))
  refine vi_lookupE _ rfl rfl rfl gl1 rfl (hfl c) (lk_last1 _) ?_
  generalize hold : (sm c).getD (0, ⟨0, 0⟩) = old
  have hob : old.1 ≤ rb := by
    rw [← hold]
    cases hs : sm c with
    | none => exact Nat.zero_le _
    | some x => exact hr c x hs
  (repeat (first
    | refine vi_op rfl rfl rfl rfl rfl ?_
    | refine vi_inc rfl rfl (by omega) ?_
    | refine vi_dec rfl rfl (by omega) ?_
    | refine vi_not rfl rfl ?_
    | refine vi_load rfl rfl (by assumption) rfl ?_
    | refine vi_storeL rfl rfl rfl rfl rfl ?_
    | refine vi_nil ?_ | refine sq_seq ?_ | refine sw_seq ?_ | refine sw_items ?_ | refine sw_ret ?_ | refine sq_seq_r ?_ | refine sq_seq_x ?_ | refine sw_skip ?_ | refine sw_exit ?_
    | refine sw_block ?_ | refine sq_block ?_ | refine sq_block_r ?_ | refine sq_block_x ?_ | refine sq_block_o rfl ?_ | refine vq_loop_x ?_ | refine vq_loop_r ?_ | refine vi_chk rfl rfl rfl rfl ?_ | refine vi_chkload rfl rfl (by assumption) rfl rfl ?_ | refine vi_off rfl ?_ | refine vi_calloff rfl ?_ | refine vi_chkoff rfl ?_))
  refine vi_call sysJ rfl rfl ?_
  refine next_spec _ xs _ 6 d1 (by omega) (by omega) (by omega) (by omega) _ fun q h2 hq6 o2 d2 => ?_
  have n2 := o2.next
  have w2 := hw.keep (o1.trans o2 (fun r hr => hr) (fun r hr => hr)) h7 (by simp)
  have ⟨⟨v2, hv2, hbt2⟩, ⟨ls2, c32, gl2, hkl2, hfl2⟩, _⟩ := w2
  (repeat (first
    | refine vi_op rfl rfl rfl rfl rfl ?_
    | refine vi_inc rfl rfl (by omega) ?_
    | refine vi_dec rfl rfl (by omega) ?_
    | refine vi_not rfl rfl ?_
    | refine vi_load rfl rfl (by assumption) rfl ?_
    | refine vi_storeL rfl rfl rfl rfl rfl ?_
    | refine vi_nil ?_ | refine sq_seq ?_ | refine sw_seq ?_ | refine sw_items ?_ | refine sw_ret ?_ | refine sq_seq_r ?_ | refine sq_seq_x ?_ | refine sw_skip ?_ | refine sw_exit ?_
    | refine sw_block ?_ | refine sq_block ?_ | refine sq_block_r ?_ | refine sq_block_x ?_ | refine sq_block_o rfl ?_ | refine vq_loop_x ?_ | refine vq_loop_r ?_ | refine vi_chk rfl rfl rfl rfl ?_ | refine vi_chkload rfl rfl (by assumption) rfl rfl ?_ | refine vi_off rfl ?_ | refine vi_calloff rfl ?_ | refine vi_chkoff rfl ?_))
  refine vi_chklookup _ rfl rfl rfl gl2 rfl (hfl2 c) (by rw [lk_last1, hold]) rfl ?_
  refine vi_iaddr rfl rfl rfl (dq_get hq6) rfl ?_
  have hqb := dq_b q hq6
  (repeat (first
    | refine vi_op rfl rfl rfl rfl rfl ?_
    | refine vi_inc rfl rfl (by omega) ?_
    | refine vi_dec rfl rfl (by omega) ?_
    | refine vi_not rfl rfl ?_
    | refine vi_load rfl rfl (by assumption) rfl ?_
    | refine vi_storeL rfl rfl rfl rfl rfl ?_
    | refine vi_nil ?_ | refine sq_seq ?_ | refine sw_seq ?_ | refine sw_items ?_ | refine sw_ret ?_ | refine sq_seq_r ?_ | refine sq_seq_x ?_ | refine sw_skip ?_ | refine sw_exit ?_
    | refine sw_block ?_ | refine sq_block ?_ | refine sq_block_r ?_ | refine sq_block_x ?_ | refine sq_block_o rfl ?_ | refine vq_loop_x ?_ | refine vq_loop_r ?_ | refine vi_chk rfl rfl rfl rfl ?_ | refine vi_chkload rfl rfl (by assumption) rfl rfl ?_ | refine vi_off rfl ?_ | refine vi_calloff rfl ?_ | refine vi_chkoff rfl ?_))
  refine vi_add rfl rfl rfl rfl (by omega) (by omega) ?_
  generalize hr0 : (old.1 : Int) + dqL.getD q 0 = r0
  have hmx := max_av r0
  (repeat (first
    | refine vi_opE rfl rfl rfl rfl rfl (by assumption) ?_
    | refine vi_op rfl rfl rfl rfl rfl ?_
    | refine vi_inc rfl rfl (by omega) ?_
    | refine vi_dec rfl rfl (by omega) ?_
    | refine vi_not rfl rfl ?_
    | refine vi_load rfl rfl (by assumption) rfl ?_
    | refine vi_storeL rfl rfl rfl rfl rfl ?_
    | refine vi_nil ?_ | refine sq_seq ?_ | refine sw_seq ?_ | refine sw_items ?_ | refine sw_ret ?_ | refine sq_seq_r ?_ | refine sq_seq_x ?_ | refine sw_skip ?_ | refine sw_exit ?_
    | refine sw_block ?_ | refine sq_block ?_ | refine sq_block_r ?_ | refine sq_block_x ?_ | refine sq_block_o rfl ?_ | refine vq_loop_x ?_ | refine vq_loop_r ?_ | refine vi_chk rfl rfl rfl rfl ?_ | refine vi_chkload rfl rfl (by assumption) rfl rfl ?_ | refine vi_off rfl ?_ | refine vi_calloff rfl ?_ | refine vi_chkoff rfl ?_))
  refine vi_call sysJ rfl rfl ?_
  refine blast_spec h2 v2 _ _ bk hbt2.bv hv2 _ ?_
  (repeat (first
    | refine vi_op rfl rfl rfl rfl rfl ?_
    | refine vi_inc rfl rfl (by omega) ?_
    | refine vi_dec rfl rfl (by omega) ?_
    | refine vi_not rfl rfl ?_
    | refine vi_load rfl rfl (by assumption) rfl ?_
    | refine vi_storeL rfl rfl rfl rfl rfl ?_
    | refine vi_nil ?_ | refine sq_seq ?_ | refine sw_seq ?_ | refine sw_items ?_ | refine sw_ret ?_ | refine sq_seq_r ?_ | refine sq_seq_x ?_ | refine sw_skip ?_ | refine sw_exit ?_
    | refine sw_block ?_ | refine sq_block ?_ | refine sq_block_r ?_ | refine sq_block_x ?_ | refine sq_block_o rfl ?_ | refine vq_loop_x ?_ | refine vq_loop_r ?_ | refine vi_chk rfl rfl rfl rfl ?_ | refine vi_chkload rfl rfl (by assumption) rfl rfl ?_ | refine vi_off rfl ?_ | refine vi_calloff rfl ?_ | refine vi_chkoff rfl ?_))
  refine vi_call sysJ rfl rfl ?_
  refine next_spec _ xs _ 6 d2 (by omega) (by omega) (by omega) (by omega) _ fun q3 h3 hq3 o3 d3 => ?_
  have n3 := o3.next
  (repeat (first
    | refine vi_op rfl rfl rfl rfl rfl ?_
    | refine vi_inc rfl rfl (by omega) ?_
    | refine vi_dec rfl rfl (by omega) ?_
    | refine vi_not rfl rfl ?_
    | refine vi_load rfl rfl (by assumption) rfl ?_
    | refine vi_storeL rfl rfl rfl rfl rfl ?_
    | refine vi_nil ?_ | refine sq_seq ?_ | refine sw_seq ?_ | refine sw_items ?_ | refine sw_ret ?_ | refine sq_seq_r ?_ | refine sq_seq_x ?_ | refine sw_skip ?_ | refine sw_exit ?_
    | refine sw_block ?_ | refine sq_block ?_ | refine sq_block_r ?_ | refine sq_block_x ?_ | refine sq_block_o rfl ?_ | refine vq_loop_x ?_ | refine vq_loop_r ?_ | refine vi_chk rfl rfl rfl rfl ?_ | refine vi_chkload rfl rfl (by assumption) rfl rfl ?_ | refine vi_off rfl ?_ | refine vi_calloff rfl ?_ | refine vi_chkoff rfl ?_))
  refine vi_iaddr rfl rfl rfl (ds_get hq3) rfl ?_
  have hsb := ds_b q3 hq3
  (repeat (first
    | refine vi_op rfl rfl rfl rfl rfl ?_
    | refine vi_inc rfl rfl (by omega) ?_
    | refine vi_dec rfl rfl (by omega) ?_
    | refine vi_not rfl rfl ?_
    | refine vi_load rfl rfl (by assumption) rfl ?_
    | refine vi_storeL rfl rfl rfl rfl rfl ?_
    | refine vi_nil ?_ | refine sq_seq ?_ | refine sw_seq ?_ | refine sw_items ?_ | refine sw_ret ?_ | refine sq_seq_r ?_ | refine sq_seq_x ?_ | refine sw_skip ?_ | refine sw_exit ?_
    | refine sw_block ?_ | refine sq_block ?_ | refine sq_block_r ?_ | refine sq_block_x ?_ | refine sq_block_o rfl ?_ | refine vq_loop_x ?_ | refine vq_loop_r ?_ | refine vi_chk rfl rfl rfl rfl ?_ | refine vi_chkload rfl rfl (by assumption) rfl rfl ?_ | refine vi_off rfl ?_ | refine vi_calloff rfl ?_ | refine vi_chkoff rfl ?_))
  refine vi_add rfl rfl rfl rfl (by omega) (by omega) ?_
  generalize hs0 : (bk.length : Int) + dsL.getD q3 0 = s0
  have hmx2 := max_av s0
  (repeat (first
    | refine vi_opE rfl rfl rfl rfl rfl (by assumption) ?_
    | refine vi_op rfl rfl rfl rfl rfl ?_
    | refine vi_inc rfl rfl (by omega) ?_
    | refine vi_dec rfl rfl (by omega) ?_
    | refine vi_not rfl rfl ?_
    | refine vi_load rfl rfl (by assumption) rfl ?_
    | refine vi_storeL rfl rfl rfl rfl rfl ?_
    | refine vi_nil ?_ | refine sq_seq ?_ | refine sw_seq ?_ | refine sw_items ?_ | refine sw_ret ?_ | refine sq_seq_r ?_ | refine sq_seq_x ?_ | refine sw_skip ?_ | refine sw_exit ?_
    | refine sw_block ?_ | refine sq_block ?_ | refine sq_block_r ?_ | refine sq_block_x ?_ | refine sq_block_o rfl ?_ | refine vq_loop_x ?_ | refine vq_loop_r ?_ | refine vi_chk rfl rfl rfl rfl ?_ | refine vi_chkload rfl rfl (by assumption) rfl rfl ?_ | refine vi_off rfl ?_ | refine vi_calloff rfl ?_ | refine vi_chkoff rfl ?_))
  refine vi_call sysJ rfl rfl ?_
  refine batch_spec _ xs _ d3 (by omega) (by omega) _ fun ws h4 hgd o4 d4 => ?_
  have n4 := o4.next
  (repeat (first
    | refine vi_op rfl rfl rfl rfl rfl ?_
    | refine vi_inc rfl rfl (by omega) ?_
    | refine vi_dec rfl rfl (by omega) ?_
    | refine vi_not rfl rfl ?_
    | refine vi_load rfl rfl (by assumption) rfl ?_
    | refine vi_storeL rfl rfl rfl rfl rfl ?_
    | refine vi_nil ?_ | refine sq_seq ?_ | refine sw_seq ?_ | refine sw_items ?_ | refine sw_ret ?_ | refine sq_seq_r ?_ | refine sq_seq_x ?_ | refine sw_skip ?_ | refine sw_exit ?_
    | refine sw_block ?_ | refine sq_block ?_ | refine sq_block_r ?_ | refine sq_block_x ?_ | refine sq_block_o rfl ?_ | refine vq_loop_x ?_ | refine vq_loop_r ?_ | refine vi_chk rfl rfl rfl rfl ?_ | refine vi_chkload rfl rfl (by assumption) rfl rfl ?_ | refine vi_off rfl ?_ | refine vi_calloff rfl ?_ | refine vi_chkoff rfl ?_))
  refine vi_call sysJ rfl rfl ?_
  refine next_spec _ xs _ 12 d4 (by omega) (by omega) (by omega) (by omega) _ fun q5 h5 hq5 o5 d5 => ?_
  have n5 := o5.next
  have o05 : Only [6] h h5 := (((o1.trans o2 (fun r hr => hr) (fun r hr => hr)).trans o3 (fun r hr => hr) (fun r hr => hr)).trans o4 (fun r hr => hr) (fun r hr => hr)).trans o5 (fun r hr => hr) (fun r hr => hr)
  have w5 := hw.keep o05 h7 (by simp)
  have hrr : r0.toNat ≤ rb + 2 := by omega
  clear hmx hmx2
  (repeat (first
    | refine vi_op rfl rfl rfl rfl rfl ?_
    | refine vi_inc rfl rfl (by omega) ?_
    | refine vi_dec rfl rfl (by omega) ?_
    | refine vi_not rfl rfl ?_
    | refine vi_load rfl rfl (by assumption) rfl ?_
    | refine vi_storeL rfl rfl rfl rfl rfl ?_
    | refine vi_nil ?_ | refine sq_seq ?_ | refine sw_seq ?_ | refine sw_items ?_ | refine sw_ret ?_ | refine sq_seq_r ?_ | refine sq_seq_x ?_ | refine sw_skip ?_ | refine sw_exit ?_
    | refine sw_block ?_ | refine sq_block ?_ | refine sq_block_r ?_ | refine sq_block_x ?_ | refine sq_block_o rfl ?_ | refine vq_loop_x ?_ | refine vq_loop_r ?_ | refine vi_chk rfl rfl rfl rfl ?_ | refine vi_chkload rfl rfl (by assumption) rfl rfl ?_ | refine vi_off rfl ?_ | refine vi_calloff rfl ?_ | refine vi_chkoff rfl ?_))
  refine vw_cond _ rfl (fun hz => ?_) (fun hz => ?_)
  · (repeat (first
    | refine vi_op rfl rfl rfl rfl rfl ?_
    | refine vi_inc rfl rfl (by omega) ?_
    | refine vi_dec rfl rfl (by omega) ?_
    | refine vi_not rfl rfl ?_
    | refine vi_load rfl rfl (by assumption) rfl ?_
    | refine vi_storeL rfl rfl rfl rfl rfl ?_
    | refine vi_nil ?_ | refine sq_seq ?_ | refine sw_seq ?_ | refine sw_items ?_ | refine sw_ret ?_ | refine sq_seq_r ?_ | refine sq_seq_x ?_ | refine sw_skip ?_ | refine sw_exit ?_
    | refine sw_block ?_ | refine sq_block ?_ | refine sq_block_r ?_ | refine sq_block_x ?_ | refine sq_block_o rfl ?_ | refine vq_loop_x ?_ | refine vq_loop_r ?_ | refine vi_chk rfl rfl rfl rfl ?_ | refine vi_chkload rfl rfl (by assumption) rfl rfl ?_ | refine vi_off rfl ?_ | refine vi_calloff rfl ?_ | refine vi_chkoff rfl ?_))
    refine vi_call sysJ rfl rfl ?_
    refine says_nil _ c r0.toNat s0.toNat _ rfl _ ?_
    have hst : step bk sm c r0.toNat s0.toNat [] = (⟨0, 50⟩, bk, sm) := by unfold step; rw [if_pos rfl]
    (repeat (first
    | refine vi_op rfl rfl rfl rfl rfl ?_
    | refine vi_inc rfl rfl (by omega) ?_
    | refine vi_dec rfl rfl (by omega) ?_
    | refine vi_not rfl rfl ?_
    | refine vi_load rfl rfl (by assumption) rfl ?_
    | refine vi_storeL rfl rfl rfl rfl rfl ?_
    | refine vi_nil ?_ | refine sq_seq ?_ | refine sw_seq ?_ | refine sw_items ?_ | refine sw_ret ?_ | refine sq_seq_r ?_ | refine sq_seq_x ?_ | refine sw_skip ?_ | refine sw_exit ?_
    | refine sw_block ?_ | refine sq_block ?_ | refine sq_block_r ?_ | refine sq_block_x ?_ | refine sq_block_o rfl ?_ | refine vq_loop_x ?_ | refine vq_loop_r ?_ | refine vi_chk rfl rfl rfl rfl ?_ | refine vi_chkload rfl rfl (by assumption) rfl rfl ?_ | refine vi_off rfl ?_ | refine vi_calloff rfl ?_ | refine vi_chkoff rfl ?_))
    refine vi_cvU rfl rfl (by omega) (by omega) ?_
    (repeat (first
    | refine vi_op rfl rfl rfl rfl rfl ?_
    | refine vi_inc rfl rfl (by omega) ?_
    | refine vi_dec rfl rfl (by omega) ?_
    | refine vi_not rfl rfl ?_
    | refine vi_load rfl rfl (by assumption) rfl ?_
    | refine vi_storeL rfl rfl rfl rfl rfl ?_
    | refine vi_nil ?_ | refine sq_seq ?_ | refine sw_seq ?_ | refine sw_items ?_ | refine sw_ret ?_ | refine sq_seq_r ?_ | refine sq_seq_x ?_ | refine sw_skip ?_ | refine sw_exit ?_
    | refine sw_block ?_ | refine sq_block ?_ | refine sq_block_r ?_ | refine sq_block_x ?_ | refine sq_block_o rfl ?_ | refine vq_loop_x ?_ | refine vq_loop_r ?_ | refine vi_chk rfl rfl rfl rfl ?_ | refine vi_chkload rfl rfl (by assumption) rfl rfl ?_ | refine vi_off rfl ?_ | refine vi_calloff rfl ?_ | refine vi_chkoff rfl ?_))
    refine vi_cvU rfl rfl (by omega) (by omega) ?_
    (repeat (first
    | refine vi_op rfl rfl rfl rfl rfl ?_
    | refine vi_inc rfl rfl (by omega) ?_
    | refine vi_dec rfl rfl (by omega) ?_
    | refine vi_not rfl rfl ?_
    | refine vi_load rfl rfl (by assumption) rfl ?_
    | refine vi_storeL rfl rfl rfl rfl rfl ?_
    | refine vi_nil ?_ | refine sq_seq ?_ | refine sw_seq ?_ | refine sw_items ?_ | refine sw_ret ?_ | refine sq_seq_r ?_ | refine sq_seq_x ?_ | refine sw_skip ?_ | refine sw_exit ?_
    | refine sw_block ?_ | refine sq_block ?_ | refine sq_block_r ?_ | refine sq_block_x ?_ | refine sq_block_o rfl ?_ | refine vq_loop_x ?_ | refine vq_loop_r ?_ | refine vi_chk rfl rfl rfl rfl ?_ | refine vi_chkload rfl rfl (by assumption) rfl rfl ?_ | refine vi_off rfl ?_ | refine vi_calloff rfl ?_ | refine vi_chkoff rfl ?_))
    refine vi_cvU rfl rfl (by omega) (by omega) ?_
    (repeat (first
    | refine vi_op rfl rfl rfl rfl rfl ?_
    | refine vi_inc rfl rfl (by omega) ?_
    | refine vi_dec rfl rfl (by omega) ?_
    | refine vi_not rfl rfl ?_
    | refine vi_load rfl rfl (by assumption) rfl ?_
    | refine vi_storeL rfl rfl rfl rfl rfl ?_
    | refine vi_nil ?_ | refine sq_seq ?_ | refine sw_seq ?_ | refine sw_items ?_ | refine sw_ret ?_ | refine sq_seq_r ?_ | refine sq_seq_x ?_ | refine sw_skip ?_ | refine sw_exit ?_
    | refine sw_block ?_ | refine sq_block ?_ | refine sq_block_r ?_ | refine sq_block_x ?_ | refine sq_block_o rfl ?_ | refine vq_loop_x ?_ | refine vq_loop_r ?_ | refine vi_chk rfl rfl rfl rfl ?_ | refine vi_chkload rfl rfl (by assumption) rfl rfl ?_ | refine vi_off rfl ?_ | refine vi_calloff rfl ?_ | refine vi_chkoff rfl ?_))
    refine vq_end rfl ?_
    have := hq c r0.toNat s0.toNat [] h5 ⟨by simp, fun w hw => (nomatch hw), fun i a b h => by simp at h⟩ hrr ((Only.low o05 h7).trans (.refl _ _) (fun r hr => by simp at hr ⊢; omega) (fun r hr => hr))
    rw [hst] at this
    exact this w5 (d5.mono (by omega))
  · (repeat (first
    | refine vi_op rfl rfl rfl rfl rfl ?_
    | refine vi_inc rfl rfl (by omega) ?_
    | refine vi_dec rfl rfl (by omega) ?_
    | refine vi_not rfl rfl ?_
    | refine vi_load rfl rfl (by assumption) rfl ?_
    | refine vi_storeL rfl rfl rfl rfl rfl ?_
    | refine vi_nil ?_ | refine sq_seq ?_ | refine sw_seq ?_ | refine sw_items ?_ | refine sw_ret ?_ | refine sq_seq_r ?_ | refine sq_seq_x ?_ | refine sw_skip ?_ | refine sw_exit ?_
    | refine sw_block ?_ | refine sq_block ?_ | refine sq_block_r ?_ | refine sq_block_x ?_ | refine sq_block_o rfl ?_ | refine vq_loop_x ?_ | refine vq_loop_r ?_ | refine vi_chk rfl rfl rfl rfl ?_ | refine vi_chkload rfl rfl (by assumption) rfl rfl ?_ | refine vi_off rfl ?_ | refine vi_calloff rfl ?_ | refine vi_chkoff rfl ?_))
    refine vi_call sysJ rfl rfl ?_
    refine says_spec _ bk sm w5 hb hgb (by omega) c r0.toNat s0.toNat ws hgd _ fun h6 o6 w6 => ?_
    generalize hst : step bk sm c r0.toNat s0.toNat ws = res at w6
    (repeat (first
    | refine vi_op rfl rfl rfl rfl rfl ?_
    | refine vi_inc rfl rfl (by omega) ?_
    | refine vi_dec rfl rfl (by omega) ?_
    | refine vi_not rfl rfl ?_
    | refine vi_load rfl rfl (by assumption) rfl ?_
    | refine vi_storeL rfl rfl rfl rfl rfl ?_
    | refine vi_nil ?_ | refine sq_seq ?_ | refine sw_seq ?_ | refine sw_items ?_ | refine sw_ret ?_ | refine sq_seq_r ?_ | refine sq_seq_x ?_ | refine sw_skip ?_ | refine sw_exit ?_
    | refine sw_block ?_ | refine sq_block ?_ | refine sq_block_r ?_ | refine sq_block_x ?_ | refine sq_block_o rfl ?_ | refine vq_loop_x ?_ | refine vq_loop_r ?_ | refine vi_chk rfl rfl rfl rfl ?_ | refine vi_chkload rfl rfl (by assumption) rfl rfl ?_ | refine vi_off rfl ?_ | refine vi_calloff rfl ?_ | refine vi_chkoff rfl ?_))
    refine vi_cvU rfl rfl (by omega) (by omega) ?_
    (repeat (first
    | refine vi_op rfl rfl rfl rfl rfl ?_
    | refine vi_inc rfl rfl (by omega) ?_
    | refine vi_dec rfl rfl (by omega) ?_
    | refine vi_not rfl rfl ?_
    | refine vi_load rfl rfl (by assumption) rfl ?_
    | refine vi_storeL rfl rfl rfl rfl rfl ?_
    | refine vi_nil ?_ | refine sq_seq ?_ | refine sw_seq ?_ | refine sw_items ?_ | refine sw_ret ?_ | refine sq_seq_r ?_ | refine sq_seq_x ?_ | refine sw_skip ?_ | refine sw_exit ?_
    | refine sw_block ?_ | refine sq_block ?_ | refine sq_block_r ?_ | refine sq_block_x ?_ | refine sq_block_o rfl ?_ | refine vq_loop_x ?_ | refine vq_loop_r ?_ | refine vi_chk rfl rfl rfl rfl ?_ | refine vi_chkload rfl rfl (by assumption) rfl rfl ?_ | refine vi_off rfl ?_ | refine vi_calloff rfl ?_ | refine vi_chkoff rfl ?_))
    refine vi_cvU rfl rfl (by omega) (by omega) ?_
    (repeat (first
    | refine vi_op rfl rfl rfl rfl rfl ?_
    | refine vi_inc rfl rfl (by omega) ?_
    | refine vi_dec rfl rfl (by omega) ?_
    | refine vi_not rfl rfl ?_
    | refine vi_load rfl rfl (by assumption) rfl ?_
    | refine vi_storeL rfl rfl rfl rfl rfl ?_
    | refine vi_nil ?_ | refine sq_seq ?_ | refine sw_seq ?_ | refine sw_items ?_ | refine sw_ret ?_ | refine sq_seq_r ?_ | refine sq_seq_x ?_ | refine sw_skip ?_ | refine sw_exit ?_
    | refine sw_block ?_ | refine sq_block ?_ | refine sq_block_r ?_ | refine sq_block_x ?_ | refine sq_block_o rfl ?_ | refine vq_loop_x ?_ | refine vq_loop_r ?_ | refine vi_chk rfl rfl rfl rfl ?_ | refine vi_chkload rfl rfl (by assumption) rfl rfl ?_ | refine vi_off rfl ?_ | refine vi_calloff rfl ?_ | refine vi_chkoff rfl ?_))
    refine vi_cvU rfl rfl (by omega) (by omega) ?_
    (repeat (first
    | refine vi_op rfl rfl rfl rfl rfl ?_
    | refine vi_inc rfl rfl (by omega) ?_
    | refine vi_dec rfl rfl (by omega) ?_
    | refine vi_not rfl rfl ?_
    | refine vi_load rfl rfl (by assumption) rfl ?_
    | refine vi_storeL rfl rfl rfl rfl rfl ?_
    | refine vi_nil ?_ | refine sq_seq ?_ | refine sw_seq ?_ | refine sw_items ?_ | refine sw_ret ?_ | refine sq_seq_r ?_ | refine sq_seq_x ?_ | refine sw_skip ?_ | refine sw_exit ?_
    | refine sw_block ?_ | refine sq_block ?_ | refine sq_block_r ?_ | refine sq_block_x ?_ | refine sq_block_o rfl ?_ | refine vq_loop_x ?_ | refine vq_loop_r ?_ | refine vi_chk rfl rfl rfl rfl ?_ | refine vi_chkload rfl rfl (by assumption) rfl rfl ?_ | refine vi_off rfl ?_ | refine vi_calloff rfl ?_ | refine vi_chkoff rfl ?_))
    refine vq_end rfl ?_
    have := hq c r0.toNat s0.toNat ws h6 hgd hrr ((Only.low o05 h7).trans o6 (fun r hr => by simp at hr ⊢; omega) (fun r hr => by simp at hr ⊢; omega))
    rw [hst] at this
    exact this w6 ((d5.mono (by omega)).keepL o6 (by simp))
end Go.AM.J
