/- Own work. This text shows: a batch is made out of numbers. -/
import Derived.Test.YtcipamnhmeplkaaGreatDoorL2
import Derived.Test.YtcipamnhmeplkaaGreatDoorL1
import Derived.Test.YtcipamnhmeplkaaGreatDoorAm7
set_option linter.unusedVariables false
set_option linter.unusedSimpArgs false
namespace Go.AM.J
open Go Go.AM

def keysL : List (List UInt8) := [[0], [0, 0], [0, 1], [0, 255], [1], [97], [97, 0], [97, 0, 1], [97, 98], [98], [122, 122], [255], [255, 255]]
def valsL : List (List UInt8) := [[], [120], [0, 255], [97, 32, 118, 97, 108, 117, 101, 32, 111, 102, 32, 102, 111, 114, 116, 121, 32, 98, 121, 116, 101, 115, 44, 32, 111, 114, 32, 97, 32, 102, 101, 119, 32, 98, 121, 116, 101, 115, 32, 108, 101, 115, 115]]
theorem keys_order : ∀ i, i < 13 → ∀ j, j < 13 → i < j → bytesLt (keysL.getD i []) (keysL.getD j []) = true := by decide
theorem keys_len : ∀ i, i < 13 → 0 < (keysL.getD i []).length ∧ (keysL.getD i []).length ≤ 64 := by decide
theorem vals_len : ∀ i, i < 4 → (valsL.getD i []).length ≤ 256 := by decide
theorem keys_get {i : Nat} (hi : i < 13) : (keysL.map AV.str)[i]? = some (.str (keysL.getD i [])) := by
  have h1 : keysL.length = 13 := rfl
  rw [List.getElem?_map, List.getD_eq_getElem?_getD, List.getElem?_eq_getElem (by omega)]; rfl
theorem vals_get {i : Nat} (hi : i < 4) : (valsL.map AV.str)[i]? = some (.str (valsL.getD i [])) := by
  have h1 : valsL.length = 4 := rfl
  rw [List.getElem?_map, List.getD_eq_getElem?_getD, List.getElem?_eq_getElem (by omega)]; rfl

/-- the last key is one before a place -/
def Upto (ws : List Wr) (a : Nat) : Prop := ∀ w, ws.getLast? = some w → ∃ j, j < a ∧ j < 13 ∧ w.key = keysL.getD j []
theorem Good.snoc {ws : List Wr} {a : Nat} {w : Wr} (hg : Good ws) (hu : Upto ws a) (hl : ws.length < 4) (ha : a < 13) (hk : w.key = keysL.getD a []) (hv : w.val.length ≤ 256) (hgo : w.gone = true → w.val = []) : Good (ws ++ [w]) := by
  refine ⟨by simp; omega, fun x hx => ?_, fun i x y hx hy => ?_⟩
  · rcases List.mem_append.1 hx with hx | hx
    · exact hg.each x hx
    · simp at hx; subst hx
      rw [hk]
      exact ⟨(keys_len a ha).1, (keys_len a ha).2, hv, hgo⟩
  · have hylt := (List.getElem?_eq_some_iff.1 hy).1
    simp at hylt
    have hx' : ws[i]? = some x := by rw [← hx, List.getElem?_append_left (by omega)]
    by_cases hi : i + 1 < ws.length
    · exact hg.order i x y hx' (by rw [← hy, List.getElem?_append_left hi])
    · have hyw : y = w := by
        rw [List.getElem?_append_right (by omega)] at hy
        have : i + 1 - ws.length = 0 := by omega
        rw [this] at hy; simp at hy; exact hy.symm
      subst hyw
      have hlast : ws.getLast? = some x := by
        rw [List.getLast?_eq_getElem?, ← hx']; congr 1; omega
      obtain ⟨j, h1, h2, h3⟩ := hu x hlast
      rw [h3, hk]
      exact keys_order j h2 a ha h1
theorem Upto.snoc {ws : List Wr} {a b : Nat} {w : Wr} (ha : a < 13) (hk : w.key = keysL.getD a []) (hb : a < b) : Upto (ws ++ [w]) b := fun x hx => by
  simp at hx; subst hx
  exact ⟨a, hb, ha, hk⟩

/-- a row of writes that grows -/
def OT (h0 h : Heap) (v : AV) (ws : List Wr) : Prop := (v = .nils ∧ ws = []) ∨ ∃ t, v = .vs (.tok t ws.length) (ws.map Wr.av) ∧ h0.next ≤ t ∧ t < h.next ∧ h.get t = some (.tip ws.length 3)
theorem OT.keep {h0 h h' : Heap} {v : AV} {ws : List Wr} {R : List Nat} (k : OT h0 h v ws) (o : Only R h h') (hR : ∀ r ∈ R, r < h0.next) : OT h0 h' v ws := by
  rcases k with k | ⟨t, e, h1, h2, h3⟩
  · exact .inl k
  · exact .inr ⟨t, e, h1, Nat.lt_of_lt_of_le h2 o.next, by rw [o.same t h2 (fun m => by have := hR t m; omega)]; exact h3⟩
theorem hdSz_map (ws : List Wr) : hdSz 3 (ws.map Wr.av) = true := by cases ws <;> rfl
def baT (v : AV) (a n : Nat) : List (Nat × AV) := [(0, .ptr 6 0), (3, .vs .exact (keysL.map AV.str)), (4, v), (5, .int .i64 (a : Nat)), (6, .int .i64 (n : Nat))]

theorem batch_end {h0 h : Heap} {D : List Nat} {l : List Item} {d : Option Nat} {B : V} {R : Env → Heap → Prop} {x y : Opd} {v : AV} {ws : List Wr} {w : Wr}
    (hx : valV B x = some v) (ho : OT h0 h v ws) (hy : valV B y = some (.vs .exact [w.av])) (hl : ws.length < 1000) (hn : h0.next ≤ h.next)
    (kk : ∀ v' h', OT h0 h' v' (ws ++ [w]) → Only [] h h' ∨ (∃ t, h0.next ≤ t ∧ Only [t] h h') → SI D C l R (toEnv (consD d v' B)) h') : SI D C (.op d none (.append 3 true false false x y) :: l) R (toEnv B) h := by
  rcases ho with ⟨rfl, rfl⟩ | ⟨t, rfl, h1, h2, h3⟩
  · refine vi_append_nil rfl hx hy rfl rfl (by simp) (by simp) ?_
    refine kk _ _ (.inr ⟨h.next, rfl, hn, Nat.lt_succ_self _, Heap.get_new_same _ _⟩) (.inl (Only.refl _ h).new)
  · refine vi_append_tok rfl hx h3 (hdSz_map ws) hy rfl rfl (by simp; omega) (by simp) ?_
    refine kk _ _ (.inr ⟨t, by simp; rfl, h1, h2, by rw [Heap.get_set_same]; simp⟩) (.inr ⟨t, h1, (Only.refl _ h).set (.inl (by simp))⟩)
theorem Only.of_new {R : List Nat} {h0 h h' : Heap} (a : Only R h0 h) (b : Only [] h h' ∨ (∃ t, h0.next ≤ t ∧ Only [t] h h')) : Only R h0 h' := by
  rcases b with b | ⟨t, h1, b⟩
  · exact a.trans b (fun r hr => hr) (fun r hr => nomatch hr)
  · refine ⟨Nat.le_trans a.next b.next, fun r hr hn => ?_⟩
    rw [b.same r (Nat.lt_of_lt_of_le hr a.next) (by simp; omega), a.same r hr hn]

set_option maxHeartbeats 4000000 in
theorem batch_spec (h : Heap) (xs : List Int) (b : Nat) (hd : DH h xs b) (hb : b < 100000) (h7 : 7 ≤ h.next) (Q : AV → Heap → Prop)
    (hq : ∀ ws h', Good ws → Only [6] h h' → DH h' xs (b + 20) → Q (encB ws) h') : C 22 [.ptr 6 0] h Q := by
  refine vw_start sysJ fn22 rfl ?_
  (repeat (first
    | refine vi_op rfl rfl rfl rfl rfl ?_
    | refine vi_inc rfl rfl (by omega) ?_
    | refine vi_dec rfl rfl (by omega) ?_
    | refine vi_not rfl rfl ?_
    | refine vi_load rfl rfl (by assumption) rfl ?_
    | refine vi_storeL rfl rfl rfl rfl rfl ?_
    | refine vi_nil ?_ | refine sq_seq ?_ | refine sw_seq ?_ | refine sw_items ?_ | refine sw_ret ?_ | refine sq_seq_r ?_ | refine sq_seq_x ?_ | refine sw_skip ?_ | refine sw_exit ?_
    | refine sw_block ?_ | refine sq_block ?_ | refine sq_block_r ?_ | refine sq_block_x ?_ | refine sq_block_o rfl ?_ | refine vq_loop_x ?_ | refine vq_loop_r ?_ | refine vi_chk rfl rfl rfl rfl ?_ | refine vi_chkload rfl rfl (by assumption) rfl rfl ?_ | refine vi_off rfl ?_ | refine vi_calloff rfl ?_ | refine vi_chkoff rfl ?_))
  refine vi_call sysJ rfl rfl ?_
  refine keys_spec _ _ ?_
  (repeat (first
    | refine vi_op rfl rfl rfl rfl rfl ?_
    | refine vi_inc rfl rfl (by omega) ?_
    | refine vi_dec rfl rfl (by omega) ?_
    | refine vi_not rfl rfl ?_
    | refine vi_load rfl rfl (by assumption) rfl ?_
    | refine vi_storeL rfl rfl rfl rfl rfl ?_
    | refine vi_nil ?_ | refine sq_seq ?_ | refine sw_seq ?_ | refine sw_items ?_ | refine sw_ret ?_ | refine sq_seq_r ?_ | refine sq_seq_x ?_ | refine sw_skip ?_ | refine sw_exit ?_
    | refine sw_block ?_ | refine sq_block ?_ | refine sq_block_r ?_ | refine sq_block_x ?_ | refine sq_block_o rfl ?_ | refine vq_loop_x ?_ | refine vq_loop_r ?_ | refine vi_chk rfl rfl rfl rfl ?_ | refine vi_chkload rfl rfl (by assumption) rfl rfl ?_ | refine vi_off rfl ?_ | refine vi_calloff rfl ?_ | refine vi_chkoff rfl ?_))
  refine vi_call sysJ rfl rfl ?_
  refine next_spec _ xs b 10 hd (by omega) (by omega) (by omega) (by omega) _ fun a h1 ha o1 d1 => ?_
  (repeat (first
    | refine vi_op rfl rfl rfl rfl rfl ?_
    | refine vi_inc rfl rfl (by omega) ?_
    | refine vi_dec rfl rfl (by omega) ?_
    | refine vi_not rfl rfl ?_
    | refine vi_load rfl rfl (by assumption) rfl ?_
    | refine vi_storeL rfl rfl rfl rfl rfl ?_
    | refine vi_nil ?_ | refine sq_seq ?_ | refine sw_seq ?_ | refine sw_items ?_ | refine sw_ret ?_ | refine sq_seq_r ?_ | refine sq_seq_x ?_ | refine sw_skip ?_ | refine sw_exit ?_
    | refine sw_block ?_ | refine sq_block ?_ | refine sq_block_r ?_ | refine sq_block_x ?_ | refine sq_block_o rfl ?_ | refine vq_loop_x ?_ | refine vq_loop_r ?_ | refine vi_chk rfl rfl rfl rfl ?_ | refine vi_chkload rfl rfl (by assumption) rfl rfl ?_ | refine vi_off rfl ?_ | refine vi_calloff rfl ?_ | refine vi_chkoff rfl ?_))
  refine vi_call sysJ rfl rfl ?_
  have n1 := o1.next
  refine next_spec _ xs (b + 1) 4 d1 (by omega) (by omega) (by omega) (by omega) _ fun m h2 hm o2 d2 => ?_
  have n2 := o2.next
  (repeat (first
    | refine vi_op rfl rfl rfl rfl rfl ?_
    | refine vi_inc rfl rfl (by omega) ?_
    | refine vi_dec rfl rfl (by omega) ?_
    | refine vi_not rfl rfl ?_
    | refine vi_load rfl rfl (by assumption) rfl ?_
    | refine vi_storeL rfl rfl rfl rfl rfl ?_
    | refine vi_nil ?_ | refine sq_seq ?_ | refine sw_seq ?_ | refine sw_items ?_ | refine sw_ret ?_ | refine sq_seq_r ?_ | refine sq_seq_x ?_ | refine sw_skip ?_ | refine sw_exit ?_
    | refine sw_block ?_ | refine sq_block ?_ | refine sq_block_r ?_ | refine sq_block_x ?_ | refine sq_block_o rfl ?_ | refine vq_loop_x ?_ | refine vq_loop_r ?_ | refine vi_chk rfl rfl rfl rfl ?_ | refine vi_chkload rfl rfl (by assumption) rfl rfl ?_ | refine vi_off rfl ?_ | refine vi_calloff rfl ?_ | refine vi_chkoff rfl ?_))
  refine vi_add rfl rfl rfl (c := ((m + 1 : Nat) : Int)) (by omega) (by omega) (by omega) ?_
  (repeat (first
    | refine vi_op rfl rfl rfl rfl rfl ?_
    | refine vi_inc rfl rfl (by omega) ?_
    | refine vi_dec rfl rfl (by omega) ?_
    | refine vi_not rfl rfl ?_
    | refine vi_load rfl rfl (by assumption) rfl ?_
    | refine vi_storeL rfl rfl rfl rfl rfl ?_
    | refine vi_nil ?_ | refine sq_seq ?_ | refine sw_seq ?_ | refine sw_items ?_ | refine sw_ret ?_ | refine sq_seq_r ?_ | refine sq_seq_x ?_ | refine sw_skip ?_ | refine sw_exit ?_
    | refine sw_block ?_ | refine sq_block ?_ | refine sq_block_r ?_ | refine sq_block_x ?_ | refine sq_block_o rfl ?_ | refine vq_loop_x ?_ | refine vq_loop_r ?_ | refine vi_chk rfl rfl rfl rfl ?_ | refine vi_chkload rfl rfl (by assumption) rfl rfl ?_ | refine vi_off rfl ?_ | refine vi_calloff rfl ?_ | refine vi_chkoff rfl ?_))
  have o12 : Only [6] h h2 := o1.trans o2 (fun r hr => hr) (fun r hr => hr)
  refine vw_loop sysJ (fun n B h' => ∃ v ws a, Good ws ∧ Upto ws a ∧ OT h h' v ws ∧ ws.length + n ≤ 4 ∧ a < 100 ∧ Only [6] h h' ∧ DH h' xs (b + 2 + 3 * (4 - n)) ∧ B = mkV (baT v a n)) (baT .nils a (m + 1)) (m + 1) ⟨rfl, rfl, rfl, rfl, rfl, trivial⟩
    ⟨.nils, [], a, ⟨by simp, fun w hw => (nomatch hw), fun i a b h => by simp at h⟩, fun w hw => by simp at hw, .inl ⟨rfl, rfl⟩, by simp; omega, by omega, o12, d2.mono (by omega), rfl⟩ ?_
  rintro n B h' ⟨v, ws, a, hgd, hup, hot, hle, ha', ho, hdh, rfl⟩
  have n3 := ho.next
  cases n with
  | zero =>
    (repeat (first
    | refine vi_op rfl rfl rfl rfl rfl ?_
    | refine vi_inc rfl rfl (by omega) ?_
    | refine vi_dec rfl rfl (by omega) ?_
    | refine vi_not rfl rfl ?_
    | refine vi_load rfl rfl (by assumption) rfl ?_
    | refine vi_storeL rfl rfl rfl rfl rfl ?_
    | refine vi_nil ?_ | refine sq_seq ?_ | refine sw_seq ?_ | refine sw_items ?_ | refine sw_ret ?_ | refine sq_seq_r ?_ | refine sq_seq_x ?_ | refine sw_skip ?_ | refine sw_exit ?_
    | refine sw_block ?_ | refine sq_block ?_ | refine sq_block_r ?_ | refine sq_block_x ?_ | refine sq_block_o rfl ?_ | refine vq_loop_x ?_ | refine vq_loop_r ?_ | refine vi_chk rfl rfl rfl rfl ?_ | refine vi_chkload rfl rfl (by assumption) rfl rfl ?_ | refine vi_off rfl ?_ | refine vi_calloff rfl ?_ | refine vi_chkoff rfl ?_))
    refine vw_condF rfl ?_
    (repeat (first
    | refine vi_op rfl rfl rfl rfl rfl ?_
    | refine vi_inc rfl rfl (by omega) ?_
    | refine vi_dec rfl rfl (by omega) ?_
    | refine vi_not rfl rfl ?_
    | refine vi_load rfl rfl (by assumption) rfl ?_
    | refine vi_storeL rfl rfl rfl rfl rfl ?_
    | refine vi_nil ?_ | refine sq_seq ?_ | refine sw_seq ?_ | refine sw_items ?_ | refine sw_ret ?_ | refine sq_seq_r ?_ | refine sq_seq_x ?_ | refine sw_skip ?_ | refine sw_exit ?_
    | refine sw_block ?_ | refine sq_block ?_ | refine sq_block_r ?_ | refine sq_block_x ?_ | refine sq_block_o rfl ?_ | refine vq_loop_x ?_ | refine vq_loop_r ?_ | refine vi_chk rfl rfl rfl rfl ?_ | refine vi_chkload rfl rfl (by assumption) rfl rfl ?_ | refine vi_off rfl ?_ | refine vi_calloff rfl ?_ | refine vi_chkoff rfl ?_))
    refine vq_end rfl ?_
    have : (IRFn.out i22 (resultV [v])) = encB ws := by
      rcases hot with ⟨rfl, rfl⟩ | ⟨t, rfl, _⟩ <;> rfl
    rw [this]
    exact hq ws h' hgd ho (hdh.mono (by omega))
  | succ n =>
    have hg : AV.bool (decide (((n + 1 : Nat) : Int) > 0)) = AV.bool true := by
      congr 1; exact decide_eq_true (by omega)
    (repeat (first
    | refine vi_opE rfl rfl rfl rfl rfl (by assumption) ?_
    | refine vi_op rfl rfl rfl rfl rfl ?_
    | refine vi_inc rfl rfl (by omega) ?_
    | refine vi_dec rfl rfl (by omega) ?_
    | refine vi_not rfl rfl ?_
    | refine vi_load rfl rfl (by assumption) rfl ?_
    | refine vi_storeL rfl rfl rfl rfl rfl ?_
    | refine vi_nil ?_ | refine sq_seq ?_ | refine sw_seq ?_ | refine sw_items ?_ | refine sw_ret ?_ | refine sq_seq_r ?_ | refine sq_seq_x ?_ | refine sw_skip ?_ | refine sw_exit ?_
    | refine sw_block ?_ | refine sq_block ?_ | refine sq_block_r ?_ | refine sq_block_x ?_ | refine sq_block_o rfl ?_ | refine vq_loop_x ?_ | refine vq_loop_r ?_ | refine vi_chk rfl rfl rfl rfl ?_ | refine vi_chkload rfl rfl (by assumption) rfl rfl ?_ | refine vi_off rfl ?_ | refine vi_calloff rfl ?_ | refine vi_chkoff rfl ?_))
    refine vw_cond _ rfl (fun hc => ?_) (fun hc => ?_)
    · have hlt : a < 13 := by
        have hc' : ((a : Nat) : Int) < ((keysL.map AV.str).length : Int) := of_decide_eq_true hc
        have : (keysL.map AV.str).length = 13 := rfl
        omega
      (repeat (first
    | refine vi_op rfl rfl rfl rfl rfl ?_
    | refine vi_inc rfl rfl (by omega) ?_
    | refine vi_dec rfl rfl (by omega) ?_
    | refine vi_not rfl rfl ?_
    | refine vi_load rfl rfl (by assumption) rfl ?_
    | refine vi_storeL rfl rfl rfl rfl rfl ?_
    | refine vi_nil ?_ | refine sq_seq ?_ | refine sw_seq ?_ | refine sw_items ?_ | refine sw_ret ?_ | refine sq_seq_r ?_ | refine sq_seq_x ?_ | refine sw_skip ?_ | refine sw_exit ?_
    | refine sw_block ?_ | refine sq_block ?_ | refine sq_block_r ?_ | refine sq_block_x ?_ | refine sq_block_o rfl ?_ | refine vq_loop_x ?_ | refine vq_loop_r ?_ | refine vi_chk rfl rfl rfl rfl ?_ | refine vi_chkload rfl rfl (by assumption) rfl rfl ?_ | refine vi_off rfl ?_ | refine vi_calloff rfl ?_ | refine vi_chkoff rfl ?_))
      refine vi_iaddr rfl rfl rfl (keys_get hlt) rfl ?_
      (repeat (first
    | refine vi_op rfl rfl rfl rfl rfl ?_
    | refine vi_inc rfl rfl (by omega) ?_
    | refine vi_dec rfl rfl (by omega) ?_
    | refine vi_not rfl rfl ?_
    | refine vi_load rfl rfl (by assumption) rfl ?_
    | refine vi_storeL rfl rfl rfl rfl rfl ?_
    | refine vi_nil ?_ | refine sq_seq ?_ | refine sw_seq ?_ | refine sw_items ?_ | refine sw_ret ?_ | refine sq_seq_r ?_ | refine sq_seq_x ?_ | refine sw_skip ?_ | refine sw_exit ?_
    | refine sw_block ?_ | refine sq_block ?_ | refine sq_block_r ?_ | refine sq_block_x ?_ | refine sq_block_o rfl ?_ | refine vq_loop_x ?_ | refine vq_loop_r ?_ | refine vi_chk rfl rfl rfl rfl ?_ | refine vi_chkload rfl rfl (by assumption) rfl rfl ?_ | refine vi_off rfl ?_ | refine vi_calloff rfl ?_ | refine vi_chkoff rfl ?_))
      refine vi_call sysJ rfl rfl ?_
      refine next_spec _ xs _ 4 hdh (by omega) (by omega) (by omega) (by omega) _ fun q h3 hq4 o3 d3 => ?_
      have n4 := o3.next
      (repeat (first
    | refine vi_op rfl rfl rfl rfl rfl ?_
    | refine vi_inc rfl rfl (by omega) ?_
    | refine vi_dec rfl rfl (by omega) ?_
    | refine vi_not rfl rfl ?_
    | refine vi_load rfl rfl (by assumption) rfl ?_
    | refine vi_storeL rfl rfl rfl rfl rfl ?_
    | refine vi_nil ?_ | refine sq_seq ?_ | refine sw_seq ?_ | refine sw_items ?_ | refine sw_ret ?_ | refine sq_seq_r ?_ | refine sq_seq_x ?_ | refine sw_skip ?_ | refine sw_exit ?_
    | refine sw_block ?_ | refine sq_block ?_ | refine sq_block_r ?_ | refine sq_block_x ?_ | refine sq_block_o rfl ?_ | refine vq_loop_x ?_ | refine vq_loop_r ?_ | refine vi_chk rfl rfl rfl rfl ?_ | refine vi_chkload rfl rfl (by assumption) rfl rfl ?_ | refine vi_off rfl ?_ | refine vi_calloff rfl ?_ | refine vi_chkoff rfl ?_))
      refine vi_iaddr rfl rfl rfl (vals_get hq4) rfl ?_
      (repeat (first
    | refine vi_op rfl rfl rfl rfl rfl ?_
    | refine vi_inc rfl rfl (by omega) ?_
    | refine vi_dec rfl rfl (by omega) ?_
    | refine vi_not rfl rfl ?_
    | refine vi_load rfl rfl (by assumption) rfl ?_
    | refine vi_storeL rfl rfl rfl rfl rfl ?_
    | refine vi_nil ?_ | refine sq_seq ?_ | refine sw_seq ?_ | refine sw_items ?_ | refine sw_ret ?_ | refine sq_seq_r ?_ | refine sq_seq_x ?_ | refine sw_skip ?_ | refine sw_exit ?_
    | refine sw_block ?_ | refine sq_block ?_ | refine sq_block_r ?_ | refine sq_block_x ?_ | refine sq_block_o rfl ?_ | refine vq_loop_x ?_ | refine vq_loop_r ?_ | refine vi_chk rfl rfl rfl rfl ?_ | refine vi_chkload rfl rfl (by assumption) rfl rfl ?_ | refine vi_off rfl ?_ | refine vi_calloff rfl ?_ | refine vi_chkoff rfl ?_))
      refine vi_call sysJ rfl rfl ?_
      refine next_spec _ xs _ 5 d3 (by omega) (by omega) (by omega) (by omega) _ fun q5 h4 hq5 o4 d4 => ?_
      have n5 := o4.next
      have hot4 : OT h h4 v ws := (hot.keep o3 (by simp; omega)).keep o4 (by simp; omega)
      have ho4 : Only [6] h h4 := (ho.trans o3 (fun r hr => hr) (fun r hr => hr)).trans o4 (fun r hr => hr) (fun r hr => hr)
      (repeat (first
    | refine vi_op rfl rfl rfl rfl rfl ?_
    | refine vi_inc rfl rfl (by omega) ?_
    | refine vi_dec rfl rfl (by omega) ?_
    | refine vi_not rfl rfl ?_
    | refine vi_load rfl rfl (by assumption) rfl ?_
    | refine vi_storeL rfl rfl rfl rfl rfl ?_
    | refine vi_nil ?_ | refine sq_seq ?_ | refine sw_seq ?_ | refine sw_items ?_ | refine sw_ret ?_ | refine sq_seq_r ?_ | refine sq_seq_x ?_ | refine sw_skip ?_ | refine sw_exit ?_
    | refine sw_block ?_ | refine sq_block ?_ | refine sq_block_r ?_ | refine sq_block_x ?_ | refine sq_block_o rfl ?_ | refine vq_loop_x ?_ | refine vq_loop_r ?_ | refine vi_chk rfl rfl rfl rfl ?_ | refine vi_chkload rfl rfl (by assumption) rfl rfl ?_ | refine vi_off rfl ?_ | refine vi_calloff rfl ?_ | refine vi_chkoff rfl ?_))
      refine vw_cond _ rfl (fun hz => ?_) (fun hz => ?_)
      · (repeat (first
    | refine vi_op rfl rfl rfl rfl rfl ?_
    | refine vi_inc rfl rfl (by omega) ?_
    | refine vi_dec rfl rfl (by omega) ?_
    | refine vi_not rfl rfl ?_
    | refine vi_load rfl rfl (by assumption) rfl ?_
    | refine vi_storeL rfl rfl rfl rfl rfl ?_
    | refine vi_nil ?_ | refine sq_seq ?_ | refine sw_seq ?_ | refine sw_items ?_ | refine sw_ret ?_ | refine sq_seq_r ?_ | refine sq_seq_x ?_ | refine sw_skip ?_ | refine sw_exit ?_
    | refine sw_block ?_ | refine sq_block ?_ | refine sq_block_r ?_ | refine sq_block_x ?_ | refine sq_block_o rfl ?_ | refine vq_loop_x ?_ | refine vq_loop_r ?_ | refine vi_chk rfl rfl rfl rfl ?_ | refine vi_chkload rfl rfl (by assumption) rfl rfl ?_ | refine vi_off rfl ?_ | refine vi_calloff rfl ?_ | refine vi_chkoff rfl ?_))
        refine vi_iaddr rfl rfl rfl (keys_get hlt) rfl ?_
        (repeat (first
    | refine vi_op rfl rfl rfl rfl rfl ?_
    | refine vi_inc rfl rfl (by omega) ?_
    | refine vi_dec rfl rfl (by omega) ?_
    | refine vi_not rfl rfl ?_
    | refine vi_load rfl rfl (by assumption) rfl ?_
    | refine vi_storeL rfl rfl rfl rfl rfl ?_
    | refine vi_nil ?_ | refine sq_seq ?_ | refine sw_seq ?_ | refine sw_items ?_ | refine sw_ret ?_ | refine sq_seq_r ?_ | refine sq_seq_x ?_ | refine sw_skip ?_ | refine sw_exit ?_
    | refine sw_block ?_ | refine sq_block ?_ | refine sq_block_r ?_ | refine sq_block_x ?_ | refine sq_block_o rfl ?_ | refine vq_loop_x ?_ | refine vq_loop_r ?_ | refine vi_chk rfl rfl rfl rfl ?_ | refine vi_chkload rfl rfl (by assumption) rfl rfl ?_ | refine vi_off rfl ?_ | refine vi_calloff rfl ?_ | refine vi_chkoff rfl ?_))
        have hgd' := hgd.snoc (w := ⟨keysL.getD a [], [], true⟩) hup (by omega) hlt rfl (by simp) (fun _ => rfl)
        refine batch_end (w := ⟨keysL.getD a [], [], true⟩) rfl hot4 rfl (by omega) ho4.next fun v' h5 hot5 o5 => ?_
        have ho5 := Only.of_new ho4 o5
        have n6 := ho5.next
        have d5 : DH h5 xs (b + 2 + 3 * (4 - (n + 1)) + 2) := by
          rcases o5 with o5 | ⟨t, ht, o5⟩
          · exact d4.keep o5 (by omega) (by simp)
          · exact d4.keep o5 (by omega) (by simp; omega)
        (repeat (first
    | refine vi_op rfl rfl rfl rfl rfl ?_
    | refine vi_inc rfl rfl (by omega) ?_
    | refine vi_dec rfl rfl (by omega) ?_
    | refine vi_not rfl rfl ?_
    | refine vi_load rfl rfl (by assumption) rfl ?_
    | refine vi_storeL rfl rfl rfl rfl rfl ?_
    | refine vi_nil ?_ | refine sq_seq ?_ | refine sw_seq ?_ | refine sw_items ?_ | refine sw_ret ?_ | refine sq_seq_r ?_ | refine sq_seq_x ?_ | refine sw_skip ?_ | refine sw_exit ?_
    | refine sw_block ?_ | refine sq_block ?_ | refine sq_block_r ?_ | refine sq_block_x ?_ | refine sq_block_o rfl ?_ | refine vq_loop_x ?_ | refine vq_loop_r ?_ | refine vi_chk rfl rfl rfl rfl ?_ | refine vi_chkload rfl rfl (by assumption) rfl rfl ?_ | refine vi_off rfl ?_ | refine vi_calloff rfl ?_ | refine vi_chkoff rfl ?_))
        refine vi_call sysJ rfl rfl ?_
        refine next_spec _ xs _ 3 d5 (by omega) (by omega) (by omega) (by omega) _ fun q3 h6 hq3 o6 d6 => ?_
        (repeat (first
    | refine vi_op rfl rfl rfl rfl rfl ?_
    | refine vi_inc rfl rfl (by omega) ?_
    | refine vi_dec rfl rfl (by omega) ?_
    | refine vi_not rfl rfl ?_
    | refine vi_load rfl rfl (by assumption) rfl ?_
    | refine vi_storeL rfl rfl rfl rfl rfl ?_
    | refine vi_nil ?_ | refine sq_seq ?_ | refine sw_seq ?_ | refine sw_items ?_ | refine sw_ret ?_ | refine sq_seq_r ?_ | refine sq_seq_x ?_ | refine sw_skip ?_ | refine sw_exit ?_
    | refine sw_block ?_ | refine sq_block ?_ | refine sq_block_r ?_ | refine sq_block_x ?_ | refine sq_block_o rfl ?_ | refine vq_loop_x ?_ | refine vq_loop_r ?_ | refine vi_chk rfl rfl rfl rfl ?_ | refine vi_chkload rfl rfl (by assumption) rfl rfl ?_ | refine vi_off rfl ?_ | refine vi_calloff rfl ?_ | refine vi_chkoff rfl ?_))
        refine vi_add rfl rfl rfl (c := ((a + 1 + q3 : Nat) : Int)) (by omega) (by omega) (by omega) ?_
        (repeat (first
    | refine vi_op rfl rfl rfl rfl rfl ?_
    | refine vi_inc rfl rfl (by omega) ?_
    | refine vi_dec rfl rfl (by omega) ?_
    | refine vi_not rfl rfl ?_
    | refine vi_load rfl rfl (by assumption) rfl ?_
    | refine vi_storeL rfl rfl rfl rfl rfl ?_
    | refine vi_nil ?_ | refine sq_seq ?_ | refine sw_seq ?_ | refine sw_items ?_ | refine sw_ret ?_ | refine sq_seq_r ?_ | refine sq_seq_x ?_ | refine sw_skip ?_ | refine sw_exit ?_
    | refine sw_block ?_ | refine sq_block ?_ | refine sq_block_r ?_ | refine sq_block_x ?_ | refine sq_block_o rfl ?_ | refine vq_loop_x ?_ | refine vq_loop_r ?_ | refine vi_chk rfl rfl rfl rfl ?_ | refine vi_chkload rfl rfl (by assumption) rfl rfl ?_ | refine vi_off rfl ?_ | refine vi_calloff rfl ?_ | refine vi_chkoff rfl ?_))
        exact vq_loop n (baT v' (a + 1 + q3) n) (by omega) ⟨rfl, rfl, rfl, rfl, rfl, trivial⟩ ⟨v', _, a + 1 + q3, hgd', Upto.snoc hlt rfl (by omega), hot5.keep o6 (by simp; omega), by simp; omega, by omega, ho5.trans o6 (fun r hr => hr) (fun r hr => hr), d6.mono (by omega), rfl⟩
      · (repeat (first
    | refine vi_op rfl rfl rfl rfl rfl ?_
    | refine vi_inc rfl rfl (by omega) ?_
    | refine vi_dec rfl rfl (by omega) ?_
    | refine vi_not rfl rfl ?_
    | refine vi_load rfl rfl (by assumption) rfl ?_
    | refine vi_storeL rfl rfl rfl rfl rfl ?_
    | refine vi_nil ?_ | refine sq_seq ?_ | refine sw_seq ?_ | refine sw_items ?_ | refine sw_ret ?_ | refine sq_seq_r ?_ | refine sq_seq_x ?_ | refine sw_skip ?_ | refine sw_exit ?_
    | refine sw_block ?_ | refine sq_block ?_ | refine sq_block_r ?_ | refine sq_block_x ?_ | refine sq_block_o rfl ?_ | refine vq_loop_x ?_ | refine vq_loop_r ?_ | refine vi_chk rfl rfl rfl rfl ?_ | refine vi_chkload rfl rfl (by assumption) rfl rfl ?_ | refine vi_off rfl ?_ | refine vi_calloff rfl ?_ | refine vi_chkoff rfl ?_))
        have hgd' := hgd.snoc (w := ⟨keysL.getD a [], valsL.getD q [], false⟩) hup (by omega) hlt rfl (vals_len q hq4) (fun k => by cases k)
        refine batch_end (w := ⟨keysL.getD a [], valsL.getD q [], false⟩) rfl hot4 rfl (by omega) ho4.next fun v' h5 hot5 o5 => ?_
        have ho5 := Only.of_new ho4 o5
        have n6 := ho5.next
        have d5 : DH h5 xs (b + 2 + 3 * (4 - (n + 1)) + 2) := by
          rcases o5 with o5 | ⟨t, ht, o5⟩
          · exact d4.keep o5 (by omega) (by simp)
          · exact d4.keep o5 (by omega) (by simp; omega)
        (repeat (first
    | refine vi_op rfl rfl rfl rfl rfl ?_
    | refine vi_inc rfl rfl (by omega) ?_
    | refine vi_dec rfl rfl (by omega) ?_
    | refine vi_not rfl rfl ?_
    | refine vi_load rfl rfl (by assumption) rfl ?_
    | refine vi_storeL rfl rfl rfl rfl rfl ?_
    | refine vi_nil ?_ | refine sq_seq ?_ | refine sw_seq ?_ | refine sw_items ?_ | refine sw_ret ?_ | refine sq_seq_r ?_ | refine sq_seq_x ?_ | refine sw_skip ?_ | refine sw_exit ?_
    | refine sw_block ?_ | refine sq_block ?_ | refine sq_block_r ?_ | refine sq_block_x ?_ | refine sq_block_o rfl ?_ | refine vq_loop_x ?_ | refine vq_loop_r ?_ | refine vi_chk rfl rfl rfl rfl ?_ | refine vi_chkload rfl rfl (by assumption) rfl rfl ?_ | refine vi_off rfl ?_ | refine vi_calloff rfl ?_ | refine vi_chkoff rfl ?_))
        refine vi_call sysJ rfl rfl ?_
        refine next_spec _ xs _ 3 d5 (by omega) (by omega) (by omega) (by omega) _ fun q3 h6 hq3 o6 d6 => ?_
        (repeat (first
    | refine vi_op rfl rfl rfl rfl rfl ?_
    | refine vi_inc rfl rfl (by omega) ?_
    | refine vi_dec rfl rfl (by omega) ?_
    | refine vi_not rfl rfl ?_
    | refine vi_load rfl rfl (by assumption) rfl ?_
    | refine vi_storeL rfl rfl rfl rfl rfl ?_
    | refine vi_nil ?_ | refine sq_seq ?_ | refine sw_seq ?_ | refine sw_items ?_ | refine sw_ret ?_ | refine sq_seq_r ?_ | refine sq_seq_x ?_ | refine sw_skip ?_ | refine sw_exit ?_
    | refine sw_block ?_ | refine sq_block ?_ | refine sq_block_r ?_ | refine sq_block_x ?_ | refine sq_block_o rfl ?_ | refine vq_loop_x ?_ | refine vq_loop_r ?_ | refine vi_chk rfl rfl rfl rfl ?_ | refine vi_chkload rfl rfl (by assumption) rfl rfl ?_ | refine vi_off rfl ?_ | refine vi_calloff rfl ?_ | refine vi_chkoff rfl ?_))
        refine vi_add rfl rfl rfl (c := ((a + 1 + q3 : Nat) : Int)) (by omega) (by omega) (by omega) ?_
        (repeat (first
    | refine vi_op rfl rfl rfl rfl rfl ?_
    | refine vi_inc rfl rfl (by omega) ?_
    | refine vi_dec rfl rfl (by omega) ?_
    | refine vi_not rfl rfl ?_
    | refine vi_load rfl rfl (by assumption) rfl ?_
    | refine vi_storeL rfl rfl rfl rfl rfl ?_
    | refine vi_nil ?_ | refine sq_seq ?_ | refine sw_seq ?_ | refine sw_items ?_ | refine sw_ret ?_ | refine sq_seq_r ?_ | refine sq_seq_x ?_ | refine sw_skip ?_ | refine sw_exit ?_
    | refine sw_block ?_ | refine sq_block ?_ | refine sq_block_r ?_ | refine sq_block_x ?_ | refine sq_block_o rfl ?_ | refine vq_loop_x ?_ | refine vq_loop_r ?_ | refine vi_chk rfl rfl rfl rfl ?_ | refine vi_chkload rfl rfl (by assumption) rfl rfl ?_ | refine vi_off rfl ?_ | refine vi_calloff rfl ?_ | refine vi_chkoff rfl ?_))
        exact vq_loop n (baT v' (a + 1 + q3) n) (by omega) ⟨rfl, rfl, rfl, rfl, rfl, trivial⟩ ⟨v', _, a + 1 + q3, hgd', Upto.snoc hlt rfl (by omega), hot5.keep o6 (by simp; omega), by simp; omega, by omega, ho5.trans o6 (fun r hr => hr) (fun r hr => hr), d6.mono (by omega), rfl⟩
    · (repeat (first
    | refine vi_op rfl rfl rfl rfl rfl ?_
    | refine vi_inc rfl rfl (by omega) ?_
    | refine vi_dec rfl rfl (by omega) ?_
    | refine vi_not rfl rfl ?_
    | refine vi_load rfl rfl (by assumption) rfl ?_
    | refine vi_storeL rfl rfl rfl rfl rfl ?_
    | refine vi_nil ?_ | refine sq_seq ?_ | refine sw_seq ?_ | refine sw_items ?_ | refine sw_ret ?_ | refine sq_seq_r ?_ | refine sq_seq_x ?_ | refine sw_skip ?_ | refine sw_exit ?_
    | refine sw_block ?_ | refine sq_block ?_ | refine sq_block_r ?_ | refine sq_block_x ?_ | refine sq_block_o rfl ?_ | refine vq_loop_x ?_ | refine vq_loop_r ?_ | refine vi_chk rfl rfl rfl rfl ?_ | refine vi_chkload rfl rfl (by assumption) rfl rfl ?_ | refine vi_off rfl ?_ | refine vi_calloff rfl ?_ | refine vi_chkoff rfl ?_))
      refine vq_end rfl ?_
      have : (IRFn.out i22 (resultV [v])) = encB ws := by
        rcases hot with ⟨rfl, rfl⟩ | ⟨t, rfl, _⟩ <;> rfl
      rw [this]
      exact hq ws h' hgd ho (hdh.mono (by omega))
end Go.AM.J
