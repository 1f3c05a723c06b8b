/- Own work. This text shows: plain reckoning. -/
import Derived.Test.YtcipamnhmeplkaaGreatDoorL7
set_option linter.unusedVariables false
set_option linter.unusedSimpArgs false
namespace Go.AM.J
open Go Go.AM

theorem lk_last (o : Option (Nat × Ver)) : lkV true (.int .i64 0) (o.map fun x => .int .i64 (x.1 : Int)) = .tup [.int .i64 ((o.getD (0, ⟨0, 0⟩)).1 : Int), .bool o.isSome] := by
  cases o <;> rfl
theorem lk_last1 (o : Option (Nat × Ver)) : lkV false (.int .i64 0) (o.map fun x => .int .i64 (x.1 : Int)) = .int .i64 ((o.getD (0, ⟨0, 0⟩)).1 : Int) := by
  cases o <;> rfl
theorem lk_said (o : Option (Nat × Ver)) : lkV false (.agg [.int .u64 0, .int .i64 0]) (o.map fun x => verAV x.2) = .agg [.int .u64 ((o.getD (0, ⟨0, 0⟩)).2.at_ : Int), .int .i64 (o.getD (0, ⟨0, 0⟩)).2.err] := by
  cases o <;> rfl
theorem hdSz_book (bk : List (List Wr)) : hdSz 1 (bk.map encB) = true := by cases bk <;> rfl

theorem book_end {h : Heap} {D : List Nat} {l : List Item} {d : Option Nat} {B : V} {R : Env → Heap → Prop} {x y : Opd} {v : AV} {bk : List (List Wr)} {ws : List Wr}
    (hx : valV B x = some v) (hb : BT h v bk) (h7 : 7 ≤ h.next) (hy : valV B y = some (.vs .exact [encB ws])) (hl : bk.length < 1000)
    (kk : ∀ t h', 7 ≤ t → t < h'.next → h'.get t = some (.tip (bk.length + 1) 1) → Low [] h h' → SI D C l R (toEnv (consD d (.vs (.tok t (bk.length + 1)) ((bk ++ [ws]).map encB)) B)) h') : SI D C (.op d none (.append 1 false false false x y) :: l) R (toEnv B) h := by
  have e : (bk ++ [ws]).map encB = bk.map encB ++ [encB ws] := by simp
  rw [e] at kk
  rcases hb with ⟨rfl, rfl⟩ | ⟨t, rfl, h1, h2, h3⟩
  · refine vi_append_nil rfl hx hy rfl rfl (by simp) (by simp) ?_
    exact kk _ _ h7 (Nat.lt_succ_self _) (Heap.get_new_same _ _) (Only.low (Only.refl _ h).new h7)
  · refine vi_append_tok rfl hx h3 (hdSz_book bk) hy rfl rfl (by simp; omega) (by simp) ?_
    refine kk t _ h1 h2 (Heap.get_set_same _ _ _) ⟨Nat.le_refl _, fun r hr _ => ?_⟩
    rw [Heap.get_set, if_neg (by omega)]

def rest23 : IR := match i23.body with
  | .seq _ (.seq _ (.seq _ (.seq _ (.seq _ r)))) => r
  | _ => .skip
def saT (c r s : Nat) (ws : List Wr) : List (Nat × AV) := [(0, .ptr 5 0), (1, .int .i64 (c : Int)), (2, .int .i64 (r : Int)), (3, .int .i64 (s : Int)), (4, .vs .unk (ws.map Wr.av)), (10, .agg [.int .u64 0, .int .i64 0])]
set_option maxHeartbeats 4000000 in
theorem says_rest (h : Heap) (bk : List (List Wr)) (sm : Sm) (hw : WH h bk sm) (hb : bk.length < 500) (hgb : ∀ x ∈ bk, Good x) (h7 : 7 ≤ h.next) (c r s : Nat) (ws : List Wr) (hgd : Good ws) (hs : ¬ bk.length < s)
    (Q : AV → Heap → Prop) (hq : ∀ h', Low [3, 4, 5] h h' → WH h' (stepR bk sm c r s ws).2.1 (stepR bk sm c r s ws).2.2 → Q (verAV (stepR bk sm c r s ws).1) h') :
    SW [] C rest23 (endPost i23 Q) (toEnv (mkV (saT c r s ws))) h := by
  have hi9 : rest23 = rest23 := rfl
  conv at hi9 => rhs; unfold rest23 i23
  simp only at hi9
  rw [hi9]
  clear hi9
  have hl4 := hgd.len
  obtain ⟨⟨v, hv, hbt⟩, ⟨ls, c3, gl, hkl, hfl⟩, ⟨ds, c4, gd, hkd, hfd⟩⟩ := hw
  (repeat (first
    | refine vi_op rfl rfl rfl rfl rfl ?_
    | refine vi_inc rfl rfl (by omega) ?_
    | refine vi_dec rfl rfl (by omega) ?_
    | refine vi_not rfl rfl ?_
    | refine vi_load rfl rfl (by assumption) rfl ?_
    | refine vi_storeL rfl rfl rfl rfl rfl ?_
    | refine vi_nil ?_ | refine sq_seq ?_ | refine sw_seq ?_ | refine sw_items ?_ | refine sw_ret ?_ | refine sq_seq_r ?_ | refine sq_seq_x ?_ | refine sw_skip ?_ | refine sw_exit ?_
    | refine sw_block ?_ | refine sq_block ?_ | refine sq_block_r ?_ | refine sq_block_x ?_ | refine sq_block_o rfl ?_ | refine vq_loop_x ?_ | refine vq_loop_r ?_ | refine vi_chk rfl rfl rfl rfl ?_ | refine vi_chkload rfl rfl (by assumption) rfl rfl ?_ | refine vi_off rfl ?_ | refine vi_calloff rfl ?_ | refine vi_chkoff rfl ?_))
  refine vi_call sysJ rfl rfl ?_
  refine since_spec h v _ _ bk ws s hbt.bv hv (by omega) (by omega) (fun x hx => by have := (hgb x hx).len; omega) (by omega) _ fun t ht => ?_
  cases t with
  | true =>
    have hsn := ht.1 rfl
    have hst : stepR bk sm c r s ws = (⟨0, 191⟩, bk, setSm sm c (r, ⟨0, 191⟩)) := by unfold stepR; rw [if_neg hs, if_pos hsn]
    (repeat (first
    | refine vi_op rfl rfl rfl rfl rfl ?_
    | refine vi_inc rfl rfl (by omega) ?_
    | refine vi_dec rfl rfl (by omega) ?_
    | refine vi_not rfl rfl ?_
    | refine vi_load rfl rfl (by assumption) rfl ?_
    | refine vi_storeL rfl rfl rfl rfl rfl ?_
    | refine vi_nil ?_ | refine sq_seq ?_ | refine sw_seq ?_ | refine sw_items ?_ | refine sw_ret ?_ | refine sq_seq_r ?_ | refine sq_seq_x ?_ | refine sw_skip ?_ | refine sw_exit ?_
    | refine sw_block ?_ | refine sq_block ?_ | refine sq_block_r ?_ | refine sq_block_x ?_ | refine sq_block_o rfl ?_ | refine vq_loop_x ?_ | refine vq_loop_r ?_ | refine vi_chk rfl rfl rfl rfl ?_ | refine vi_chkload rfl rfl (by assumption) rfl rfl ?_ | refine vi_off rfl ?_ | refine vi_calloff rfl ?_ | refine vi_chkoff rfl ?_))
    refine vw_condF rfl ?_
    (repeat (first
    | refine vi_op rfl rfl rfl rfl rfl ?_
    | refine vi_inc rfl rfl (by omega) ?_
    | refine vi_dec rfl rfl (by omega) ?_
    | refine vi_not rfl rfl ?_
    | refine vi_load rfl rfl (by assumption) rfl ?_
    | refine vi_storeL rfl rfl rfl rfl rfl ?_
    | refine vi_nil ?_ | refine sq_seq ?_ | refine sw_seq ?_ | refine sw_items ?_ | refine sw_ret ?_ | refine sq_seq_r ?_ | refine sq_seq_x ?_ | refine sw_skip ?_ | refine sw_exit ?_
    | refine sw_block ?_ | refine sq_block ?_ | refine sq_block_r ?_ | refine sq_block_x ?_ | refine sq_block_o rfl ?_ | refine vq_loop_x ?_ | refine vq_loop_r ?_ | refine vi_chk rfl rfl rfl rfl ?_ | refine vi_chkload rfl rfl (by assumption) rfl rfl ?_ | refine vi_off rfl ?_ | refine vi_calloff rfl ?_ | refine vi_chkoff rfl ?_))
    refine vi_mupdH rfl rfl rfl rfl gl rfl (hfl c) fun h4 k4 o4 n4 g4 => ?_
    have v4 : h4.get 5 = some (.cells [v, .mp 3, .mp 4]) := by rw [o4.same 5 (by omega) (by simp)]; exact hv
    have gd4 : h4.get 4 = some (.map ds c4) := by rw [o4.same 4 (by omega) (by simp)]; exact gd
    (repeat (first
    | refine vi_op rfl rfl rfl rfl rfl ?_
    | refine vi_inc rfl rfl (by omega) ?_
    | refine vi_dec rfl rfl (by omega) ?_
    | refine vi_not rfl rfl ?_
    | refine vi_load rfl rfl (by assumption) rfl ?_
    | refine vi_storeL rfl rfl rfl rfl rfl ?_
    | refine vi_nil ?_ | refine sq_seq ?_ | refine sw_seq ?_ | refine sw_items ?_ | refine sw_ret ?_ | refine sq_seq_r ?_ | refine sq_seq_x ?_ | refine sw_skip ?_ | refine sw_exit ?_
    | refine sw_block ?_ | refine sq_block ?_ | refine sq_block_r ?_ | refine sq_block_x ?_ | refine sq_block_o rfl ?_ | refine vq_loop_x ?_ | refine vq_loop_r ?_ | refine vi_chk rfl rfl rfl rfl ?_ | refine vi_chkload rfl rfl (by assumption) rfl rfl ?_ | refine vi_off rfl ?_ | refine vi_calloff rfl ?_ | refine vi_chkoff rfl ?_))
    refine vi_mupdH rfl rfl rfl rfl gd4 rfl (hfd c) fun h5 k5 o5 n5 g5 => ?_
    (repeat (first
    | refine vi_op rfl rfl rfl rfl rfl ?_
    | refine vi_inc rfl rfl (by omega) ?_
    | refine vi_dec rfl rfl (by omega) ?_
    | refine vi_not rfl rfl ?_
    | refine vi_load rfl rfl (by assumption) rfl ?_
    | refine vi_storeL rfl rfl rfl rfl rfl ?_
    | refine vi_nil ?_ | refine sq_seq ?_ | refine sw_seq ?_ | refine sw_items ?_ | refine sw_ret ?_ | refine sq_seq_r ?_ | refine sq_seq_x ?_ | refine sw_skip ?_ | refine sw_exit ?_
    | refine sw_block ?_ | refine sq_block ?_ | refine sq_block_r ?_ | refine sq_block_x ?_ | refine sq_block_o rfl ?_ | refine vq_loop_x ?_ | refine vq_loop_r ?_ | refine vi_chk rfl rfl rfl rfl ?_ | refine vi_chkload rfl rfl (by assumption) rfl rfl ?_ | refine vi_off rfl ?_ | refine vi_calloff rfl ?_ | refine vi_chkoff rfl ?_))
    refine vq_end rfl ?_
    have hlow : Low [3, 4, 5] h h5 := (Only.low o4 h7).trans (Only.low o5 (by omega)) (fun r hr => by simp at hr ⊢; omega) (fun r hr => by simp at hr ⊢; omega)
    have := hq h5 hlow
    rw [hst] at this
    refine this ⟨⟨v, ?_, ?_⟩, ⟨_, k4, (o5.same 3 (by omega) (by simp)).trans g4, hkl.put _ _ _, fun d => by refine seen_put (f := fun x => .int .i64 (x.1 : Int)) (x := (r, ⟨0, 191⟩)) hkl hfl ?_ d; rfl⟩, ⟨_, _, g5, hkd.put _ _ _, fun d => by refine seen_put (f := fun x => verAV x.2) (x := (r, ⟨0, 191⟩)) hkd hfd ?_ d; rfl⟩⟩
    · rw [o5.same 5 (by omega) (by simp)]; exact v4
    · rcases hbt with hbt | ⟨t, e, t1, t2, t3⟩
      · exact .inl hbt
      · exact .inr ⟨t, e, t1, by omega, by rw [o5.same t (by omega) (by simp; omega), o4.same t (by omega) (by simp; omega)]; exact t3⟩
  | false =>
    have hsn : ¬ Since bk ws s := fun k => by have := ht.2 k; cases this
    have hst : stepR bk sm c r s ws = (⟨bk.length + 1, 0⟩, bk ++ [ws], setSm sm c (r, ⟨bk.length + 1, 0⟩)) := by unfold stepR; rw [if_neg hs, if_neg hsn]
    (repeat (first
    | refine vi_op rfl rfl rfl rfl rfl ?_
    | refine vi_inc rfl rfl (by omega) ?_
    | refine vi_dec rfl rfl (by omega) ?_
    | refine vi_not rfl rfl ?_
    | refine vi_load rfl rfl (by assumption) rfl ?_
    | refine vi_storeL rfl rfl rfl rfl rfl ?_
    | refine vi_nil ?_ | refine sq_seq ?_ | refine sw_seq ?_ | refine sw_items ?_ | refine sw_ret ?_ | refine sq_seq_r ?_ | refine sq_seq_x ?_ | refine sw_skip ?_ | refine sw_exit ?_
    | refine sw_block ?_ | refine sq_block ?_ | refine sq_block_r ?_ | refine sq_block_x ?_ | refine sq_block_o rfl ?_ | refine vq_loop_x ?_ | refine vq_loop_r ?_ | refine vi_chk rfl rfl rfl rfl ?_ | refine vi_chkload rfl rfl (by assumption) rfl rfl ?_ | refine vi_off rfl ?_ | refine vi_calloff rfl ?_ | refine vi_chkoff rfl ?_))
    refine vw_condT rfl ?_
    (repeat (first
    | refine vi_op rfl rfl rfl rfl rfl ?_
    | refine vi_inc rfl rfl (by omega) ?_
    | refine vi_dec rfl rfl (by omega) ?_
    | refine vi_not rfl rfl ?_
    | refine vi_load rfl rfl (by assumption) rfl ?_
    | refine vi_storeL rfl rfl rfl rfl rfl ?_
    | refine vi_nil ?_ | refine sq_seq ?_ | refine sw_seq ?_ | refine sw_items ?_ | refine sw_ret ?_ | refine sq_seq_r ?_ | refine sq_seq_x ?_ | refine sw_skip ?_ | refine sw_exit ?_
    | refine sw_block ?_ | refine sq_block ?_ | refine sq_block_r ?_ | refine sq_block_x ?_ | refine sq_block_o rfl ?_ | refine vq_loop_x ?_ | refine vq_loop_r ?_ | refine vi_chk rfl rfl rfl rfl ?_ | refine vi_chkload rfl rfl (by assumption) rfl rfl ?_ | refine vi_off rfl ?_ | refine vi_calloff rfl ?_ | refine vi_chkoff rfl ?_))
    refine book_end rfl hbt h7 rfl (by omega) fun t h1 t1 t2 t3 o1 => ?_
    have n1 := o1.next
    have v1 : h1.get 5 = some (.cells [v, .mp 3, .mp 4]) := by rw [o1.same 5 (by omega) (by simp)]; exact hv
    (repeat (first
    | refine vi_op rfl rfl rfl rfl rfl ?_
    | refine vi_inc rfl rfl (by omega) ?_
    | refine vi_dec rfl rfl (by omega) ?_
    | refine vi_not rfl rfl ?_
    | refine vi_load rfl rfl (by assumption) rfl ?_
    | refine vi_storeL rfl rfl rfl rfl rfl ?_
    | refine vi_nil ?_ | refine sq_seq ?_ | refine sw_seq ?_ | refine sw_items ?_ | refine sw_ret ?_ | refine sq_seq_r ?_ | refine sq_seq_x ?_ | refine sw_skip ?_ | refine sw_exit ?_
    | refine sw_block ?_ | refine sq_block ?_ | refine sq_block_r ?_ | refine sq_block_x ?_ | refine sq_block_o rfl ?_ | refine vq_loop_x ?_ | refine vq_loop_r ?_ | refine vi_chk rfl rfl rfl rfl ?_ | refine vi_chkload rfl rfl (by assumption) rfl rfl ?_ | refine vi_off rfl ?_ | refine vi_calloff rfl ?_ | refine vi_chkoff rfl ?_))
    refine vi_storeH rfl rfl rfl rfl rfl v1 rfl fun h2 o2 n2 v2 => ?_
    (repeat (first
    | refine vi_op rfl rfl rfl rfl rfl ?_
    | refine vi_inc rfl rfl (by omega) ?_
    | refine vi_dec rfl rfl (by omega) ?_
    | refine vi_not rfl rfl ?_
    | refine vi_load rfl rfl (by assumption) rfl ?_
    | refine vi_storeL rfl rfl rfl rfl rfl ?_
    | refine vi_nil ?_ | refine sq_seq ?_ | refine sw_seq ?_ | refine sw_items ?_ | refine sw_ret ?_ | refine sq_seq_r ?_ | refine sq_seq_x ?_ | refine sw_skip ?_ | refine sw_exit ?_
    | refine sw_block ?_ | refine sq_block ?_ | refine sq_block_r ?_ | refine sq_block_x ?_ | refine sq_block_o rfl ?_ | refine vq_loop_x ?_ | refine vq_loop_r ?_ | refine vi_chk rfl rfl rfl rfl ?_ | refine vi_chkload rfl rfl (by assumption) rfl rfl ?_ | refine vi_off rfl ?_ | refine vi_calloff rfl ?_ | refine vi_chkoff rfl ?_))
    refine vi_call sysJ rfl rfl ?_
    refine blast_spec h2 _ _ _ (bk ++ [ws]) (.inr ⟨_, rfl⟩) v2 _ ?_
    (repeat (first
    | refine vi_op rfl rfl rfl rfl rfl ?_
    | refine vi_inc rfl rfl (by omega) ?_
    | refine vi_dec rfl rfl (by omega) ?_
    | refine vi_not rfl rfl ?_
    | refine vi_load rfl rfl (by assumption) rfl ?_
    | refine vi_storeL rfl rfl rfl rfl rfl ?_
    | refine vi_nil ?_ | refine sq_seq ?_ | refine sw_seq ?_ | refine sw_items ?_ | refine sw_ret ?_ | refine sq_seq_r ?_ | refine sq_seq_x ?_ | refine sw_skip ?_ | refine sw_exit ?_
    | refine sw_block ?_ | refine sq_block ?_ | refine sq_block_r ?_ | refine sq_block_x ?_ | refine sq_block_o rfl ?_ | refine vq_loop_x ?_ | refine vq_loop_r ?_ | refine vi_chk rfl rfl rfl rfl ?_ | refine vi_chkload rfl rfl (by assumption) rfl rfl ?_ | refine vi_off rfl ?_ | refine vi_calloff rfl ?_ | refine vi_chkoff rfl ?_))
    refine vi_cvU rfl rfl (by omega) (by simp; omega) ?_
    have e1 : AV.agg [.int .u64 ((bk ++ [ws]).length : Int), .int .i64 0] = .agg [.int .u64 ((bk.length + 1 : Nat) : Int), .int .i64 0] := by simp
    (repeat (first
    | refine vi_opE rfl rfl rfl rfl rfl (by assumption) ?_
    | refine vi_op rfl rfl rfl rfl rfl ?_
    | refine vi_inc rfl rfl (by omega) ?_
    | refine vi_dec rfl rfl (by omega) ?_
    | refine vi_not rfl rfl ?_
    | refine vi_load rfl rfl (by assumption) rfl ?_
    | refine vi_storeL rfl rfl rfl rfl rfl ?_
    | refine vi_nil ?_ | refine sq_seq ?_ | refine sw_seq ?_ | refine sw_items ?_ | refine sw_ret ?_ | refine sq_seq_r ?_ | refine sq_seq_x ?_ | refine sw_skip ?_ | refine sw_exit ?_
    | refine sw_block ?_ | refine sq_block ?_ | refine sq_block_r ?_ | refine sq_block_x ?_ | refine sq_block_o rfl ?_ | refine vq_loop_x ?_ | refine vq_loop_r ?_ | refine vi_chk rfl rfl rfl rfl ?_ | refine vi_chkload rfl rfl (by assumption) rfl rfl ?_ | refine vi_off rfl ?_ | refine vi_calloff rfl ?_ | refine vi_chkoff rfl ?_))
    have gl2 : h2.get 3 = some (.map ls c3) := by rw [o2.same 3 (by omega) (by simp), o1.same 3 (by omega) (by simp)]; exact gl
    refine vi_mupdH rfl rfl rfl rfl gl2 rfl (hfl c) fun h4 k4 o4 n4 g4 => ?_
    have v4 : h4.get 5 = _ := (o4.same 5 (by omega) (by simp)).trans v2
    have gd4 : h4.get 4 = some (.map ds c4) := by rw [o4.same 4 (by omega) (by simp), o2.same 4 (by omega) (by simp), o1.same 4 (by omega) (by simp)]; exact gd
    (repeat (first
    | refine vi_op rfl rfl rfl rfl rfl ?_
    | refine vi_inc rfl rfl (by omega) ?_
    | refine vi_dec rfl rfl (by omega) ?_
    | refine vi_not rfl rfl ?_
    | refine vi_load rfl rfl (by assumption) rfl ?_
    | refine vi_storeL rfl rfl rfl rfl rfl ?_
    | refine vi_nil ?_ | refine sq_seq ?_ | refine sw_seq ?_ | refine sw_items ?_ | refine sw_ret ?_ | refine sq_seq_r ?_ | refine sq_seq_x ?_ | refine sw_skip ?_ | refine sw_exit ?_
    | refine sw_block ?_ | refine sq_block ?_ | refine sq_block_r ?_ | refine sq_block_x ?_ | refine sq_block_o rfl ?_ | refine vq_loop_x ?_ | refine vq_loop_r ?_ | refine vi_chk rfl rfl rfl rfl ?_ | refine vi_chkload rfl rfl (by assumption) rfl rfl ?_ | refine vi_off rfl ?_ | refine vi_calloff rfl ?_ | refine vi_chkoff rfl ?_))
    refine vi_mupdH rfl rfl rfl rfl gd4 rfl (hfd c) fun h5 k5 o5 n5 g5 => ?_
    (repeat (first
    | refine vi_op rfl rfl rfl rfl rfl ?_
    | refine vi_inc rfl rfl (by omega) ?_
    | refine vi_dec rfl rfl (by omega) ?_
    | refine vi_not rfl rfl ?_
    | refine vi_load rfl rfl (by assumption) rfl ?_
    | refine vi_storeL rfl rfl rfl rfl rfl ?_
    | refine vi_nil ?_ | refine sq_seq ?_ | refine sw_seq ?_ | refine sw_items ?_ | refine sw_ret ?_ | refine sq_seq_r ?_ | refine sq_seq_x ?_ | refine sw_skip ?_ | refine sw_exit ?_
    | refine sw_block ?_ | refine sq_block ?_ | refine sq_block_r ?_ | refine sq_block_x ?_ | refine sq_block_o rfl ?_ | refine vq_loop_x ?_ | refine vq_loop_r ?_ | refine vi_chk rfl rfl rfl rfl ?_ | refine vi_chkload rfl rfl (by assumption) rfl rfl ?_ | refine vi_off rfl ?_ | refine vi_calloff rfl ?_ | refine vi_chkoff rfl ?_))
    refine vq_end rfl ?_
    have hlow : Low [3, 4, 5] h h5 := ⟨by omega, fun r hr hm => by
      simp at hm
      rw [o5.same r (by omega) (by simp; omega), o4.same r (by omega) (by simp; omega), o2.same r (by omega) (by simp; omega), o1.same r hr (by simp)]⟩
    have := hq h5 hlow
    rw [hst] at this
    refine this ⟨⟨_, (o5.same 5 (by omega) (by simp)).trans v4, .inr ⟨t, by first | (simp; done) | (simp; rfl), t1, by omega, ?_⟩⟩, ⟨_, k4, (o5.same 3 (by omega) (by simp)).trans g4, hkl.put _ _ _, fun d => by refine seen_put (f := fun x => .int .i64 (x.1 : Int)) (x := (r, ⟨bk.length + 1, 0⟩)) hkl hfl ?_ d; rfl⟩, ⟨_, _, g5, hkd.put _ _ _, fun d => by refine seen_put (f := fun x => verAV x.2) (x := (r, ⟨bk.length + 1, 0⟩)) hkd hfd ?_ d; rfl⟩⟩
    · rw [o5.same t (by omega) (by simp; omega), o4.same t (by omega) (by simp; omega), o2.same t (by omega) (by simp; omega), t3]
      try simp

theorem says_nil (h : Heap) (c r s : Nat) (a : AV) (ha : a.er = .vs .unk []) (Q : AV → Heap → Prop) (hq : Q (verAV ⟨0, 50⟩) h) :
    C 23 [.ptr 5 0, .int .i64 (c : Int), .int .i64 (r : Int), .int .i64 (s : Int), a] h Q := by
  refine vw_start sysJ fn23 rfl ?_
  have e : (if i23.keepArgs = true then [AV.ptr 5 0, .int .i64 (c : Int), .int .i64 (r : Int), .int .i64 (s : Int), a] else [AV.ptr 5 0, .int .i64 (c : Int), .int .i64 (r : Int), .int .i64 (s : Int), a].map AV.er) = [AV.ptr 5 0, .int .i64 (c : Int), .int .i64 (r : Int), .int .i64 (s : Int), .vs .unk []] := by
    show [AV.ptr 5 0, .int .i64 (c : Int), .int .i64 (r : Int), .int .i64 (s : Int), a.er] = _
    rw [ha]
  rw [e]
  (repeat (first
    | refine vi_op rfl rfl rfl rfl rfl ?_
    | refine vi_inc rfl rfl (by omega) ?_
    | refine vi_dec rfl rfl (by omega) ?_
    | refine vi_not rfl rfl ?_
    | refine vi_load rfl rfl (by assumption) rfl ?_
    | refine vi_storeL rfl rfl rfl rfl rfl ?_
    | refine vi_nil ?_ | refine sq_seq ?_ | refine sw_seq ?_ | refine sw_items ?_ | refine sw_ret ?_ | refine sq_seq_r ?_ | refine sq_seq_x ?_ | refine sw_skip ?_ | refine sw_exit ?_
    | refine sw_block ?_ | refine sq_block ?_ | refine sq_block_r ?_ | refine sq_block_x ?_ | refine sq_block_o rfl ?_ | refine vq_loop_x ?_ | refine vq_loop_r ?_ | refine vi_chk rfl rfl rfl rfl ?_ | refine vi_chkload rfl rfl (by assumption) rfl rfl ?_ | refine vi_off rfl ?_ | refine vi_calloff rfl ?_ | refine vi_chkoff rfl ?_))
  refine vw_condT rfl ?_
  (repeat (first
    | refine vi_op rfl rfl rfl rfl rfl ?_
    | refine vi_inc rfl rfl (by omega) ?_
    | refine vi_dec rfl rfl (by omega) ?_
    | refine vi_not rfl rfl ?_
    | refine vi_load rfl rfl (by assumption) rfl ?_
    | refine vi_storeL rfl rfl rfl rfl rfl ?_
    | refine vi_nil ?_ | refine sq_seq ?_ | refine sw_seq ?_ | refine sw_items ?_ | refine sw_ret ?_ | refine sq_seq_r ?_ | refine sq_seq_x ?_ | refine sw_skip ?_ | refine sw_exit ?_
    | refine sw_block ?_ | refine sq_block ?_ | refine sq_block_r ?_ | refine sq_block_x ?_ | refine sq_block_o rfl ?_ | refine vq_loop_x ?_ | refine vq_loop_r ?_ | refine vi_chk rfl rfl rfl rfl ?_ | refine vi_chkload rfl rfl (by assumption) rfl rfl ?_ | refine vi_off rfl ?_ | refine vi_calloff rfl ?_ | refine vi_chkoff rfl ?_))
  refine vq_end rfl ?_
  exact hq

set_option maxHeartbeats 4000000 in
theorem says_spec (h : Heap) (bk : List (List Wr)) (sm : Sm) (hw : WH h bk sm) (hb : bk.length < 500) (hgb : ∀ x ∈ bk, Good x) (h7 : 7 ≤ h.next) (c r s : Nat) (ws : List Wr) (hgd : Good ws)
    (Q : AV → Heap → Prop) (hq : ∀ h', Low [3, 4, 5] h h' → WH h' (step bk sm c r s ws).2.1 (step bk sm c r s ws).2.2 → Q (verAV (step bk sm c r s ws).1) h') :
    C 23 [.ptr 5 0, .int .i64 (c : Int), .int .i64 (r : Int), .int .i64 (s : Int), encB ws] h Q := by
  by_cases hne : ws = []
  · subst hne
    refine says_nil _ _ _ _ _ rfl _ ?_
    have hst : step bk sm c r s [] = (⟨0, 50⟩, bk, sm) := by unfold step; rw [if_pos rfl]
    have := hq h (Only.low (.refl _ _) h7)
    rw [hst] at this
    exact this hw
  refine vw_start sysJ fn23 rfl ?_
  have hl0 : 0 < ws.length := List.length_pos_iff.2 hne
  have hg : AV.bool (((ws.map Wr.av).length : Int) == 0) = AV.bool false := by
    congr 1; simp; omega
  have ⟨⟨v, hv, hbt⟩, ⟨ls, c3, gl, hkl, hfl⟩, ⟨ds, c4, gd, hkd, hfd⟩⟩ := hw
  (repeat (first
    | refine vi_opE rfl rfl rfl rfl rfl (by assumption) ?_
    | refine vi_op rfl rfl rfl rfl rfl ?_
    | refine vi_inc rfl rfl (by omega) ?_
    | refine vi_dec rfl rfl (by omega) ?_
    | refine vi_not rfl rfl ?_
    | refine vi_load rfl rfl (by assumption) rfl ?_
    | refine vi_storeL rfl rfl rfl rfl rfl ?_
    | refine vi_nil ?_ | refine sq_seq ?_ | refine sw_seq ?_ | refine sw_items ?_ | refine sw_ret ?_ | refine sq_seq_r ?_ | refine sq_seq_x ?_ | refine sw_skip ?_ | refine sw_exit ?_
    | refine sw_block ?_ | refine sq_block ?_ | refine sq_block_r ?_ | refine sq_block_x ?_ | refine sq_block_o rfl ?_ | refine vq_loop_x ?_ | refine vq_loop_r ?_ | refine vi_chk rfl rfl rfl rfl ?_ | refine vi_chkload rfl rfl (by assumption) rfl rfl ?_ | refine vi_off rfl ?_ | refine vi_calloff rfl ?_ | refine vi_chkoff rfl ?_))
  refine vw_condF rfl ?_
  (repeat (first
    | refine vi_op rfl rfl rfl rfl rfl ?_
    | refine vi_inc rfl rfl (by omega) ?_
    | refine vi_dec rfl rfl (by omega) ?_
    | refine vi_not rfl rfl ?_
    | refine vi_load rfl rfl (by assumption) rfl ?_
    | refine vi_storeL rfl rfl rfl rfl rfl ?_
    | refine vi_nil ?_ | refine sq_seq ?_ | refine sw_seq ?_ | refine sw_items ?_ | refine sw_ret ?_ | refine sq_seq_r ?_ | refine sq_seq_x ?_ | refine sw_skip ?_ | refine sw_exit ?_
    | refine sw_block ?_ | refine sq_block ?_ | refine sq_block_r ?_ | refine sq_block_x ?_ | refine sq_block_o rfl ?_ | refine vq_loop_x ?_ | refine vq_loop_r ?_ | refine vi_chk rfl rfl rfl rfl ?_ | refine vi_chkload rfl rfl (by assumption) rfl rfl ?_ | refine vi_off rfl ?_ | refine vi_calloff rfl ?_ | refine vi_chkoff rfl ?_))
  refine vi_lookupE _ rfl rfl rfl gl rfl (hfl c) (lk_last _) ?_
  generalize hold : (sm c).getD (0, ⟨0, 0⟩) = old
  generalize hwas : (sm c).isSome = was
  cases was with
  | false =>
    have hsr : step bk sm c r s ws = stepR bk sm c r s ws := step_rest hne (by rw [hwas]; exact fun e => by cases e) (by rw [hwas]; exact fun e => by cases e)
    (repeat (first
    | refine vi_op rfl rfl rfl rfl rfl ?_
    | refine vi_inc rfl rfl (by omega) ?_
    | refine vi_dec rfl rfl (by omega) ?_
    | refine vi_not rfl rfl ?_
    | refine vi_load rfl rfl (by assumption) rfl ?_
    | refine vi_storeL rfl rfl rfl rfl rfl ?_
    | refine vi_nil ?_ | refine sq_seq ?_ | refine sw_seq ?_ | refine sw_items ?_ | refine sw_ret ?_ | refine sq_seq_r ?_ | refine sq_seq_x ?_ | refine sw_skip ?_ | refine sw_exit ?_
    | refine sw_block ?_ | refine sq_block ?_ | refine sq_block_r ?_ | refine sq_block_x ?_ | refine sq_block_o rfl ?_ | refine vq_loop_x ?_ | refine vq_loop_r ?_ | refine vi_chk rfl rfl rfl rfl ?_ | refine vi_chkload rfl rfl (by assumption) rfl rfl ?_ | refine vi_off rfl ?_ | refine vi_calloff rfl ?_ | refine vi_chkoff rfl ?_))
    refine vw_condF rfl ?_
    (repeat (first
    | refine vi_op rfl rfl rfl rfl rfl ?_
    | refine vi_inc rfl rfl (by omega) ?_
    | refine vi_dec rfl rfl (by omega) ?_
    | refine vi_not rfl rfl ?_
    | refine vi_load rfl rfl (by assumption) rfl ?_
    | refine vi_storeL rfl rfl rfl rfl rfl ?_
    | refine vi_nil ?_ | refine sq_seq ?_ | refine sw_seq ?_ | refine sw_items ?_ | refine sw_ret ?_ | refine sq_seq_r ?_ | refine sq_seq_x ?_ | refine sw_skip ?_ | refine sw_exit ?_
    | refine sw_block ?_ | refine sq_block ?_ | refine sq_block_r ?_ | refine sq_block_x ?_ | refine sq_block_o rfl ?_ | refine vq_loop_x ?_ | refine vq_loop_r ?_ | refine vi_chk rfl rfl rfl rfl ?_ | refine vi_chkload rfl rfl (by assumption) rfl rfl ?_ | refine vi_off rfl ?_ | refine vi_calloff rfl ?_ | refine vi_chkoff rfl ?_))
    refine vw_condF rfl ?_
    (repeat (first
    | refine vi_op rfl rfl rfl rfl rfl ?_
    | refine vi_inc rfl rfl (by omega) ?_
    | refine vi_dec rfl rfl (by omega) ?_
    | refine vi_not rfl rfl ?_
    | refine vi_load rfl rfl (by assumption) rfl ?_
    | refine vi_storeL rfl rfl rfl rfl rfl ?_
    | refine vi_nil ?_ | refine sq_seq ?_ | refine sw_seq ?_ | refine sw_items ?_ | refine sw_ret ?_ | refine sq_seq_r ?_ | refine sq_seq_x ?_ | refine sw_skip ?_ | refine sw_exit ?_
    | refine sw_block ?_ | refine sq_block ?_ | refine sq_block_r ?_ | refine sq_block_x ?_ | refine sq_block_o rfl ?_ | refine vq_loop_x ?_ | refine vq_loop_r ?_ | refine vi_chk rfl rfl rfl rfl ?_ | refine vi_chkload rfl rfl (by assumption) rfl rfl ?_ | refine vi_off rfl ?_ | refine vi_calloff rfl ?_ | refine vi_chkoff rfl ?_))
    refine vi_call sysJ rfl rfl ?_
    refine blast_spec h v _ _ bk hbt.bv hv _ ?_
    (repeat (first
    | refine vi_op rfl rfl rfl rfl rfl ?_
    | refine vi_inc rfl rfl (by omega) ?_
    | refine vi_dec rfl rfl (by omega) ?_
    | refine vi_not rfl rfl ?_
    | refine vi_load rfl rfl (by assumption) rfl ?_
    | refine vi_storeL rfl rfl rfl rfl rfl ?_
    | refine vi_nil ?_ | refine sq_seq ?_ | refine sw_seq ?_ | refine sw_items ?_ | refine sw_ret ?_ | refine sq_seq_r ?_ | refine sq_seq_x ?_ | refine sw_skip ?_ | refine sw_exit ?_
    | refine sw_block ?_ | refine sq_block ?_ | refine sq_block_r ?_ | refine sq_block_x ?_ | refine sq_block_o rfl ?_ | refine vq_loop_x ?_ | refine vq_loop_r ?_ | refine vi_chk rfl rfl rfl rfl ?_ | refine vi_chkload rfl rfl (by assumption) rfl rfl ?_ | refine vi_off rfl ?_ | refine vi_calloff rfl ?_ | refine vi_chkoff rfl ?_))
    refine vw_cond _ rfl (fun hc => ?_) (fun hc => ?_)
    · have hc' : bk.length < s := by
        have : (s : Int) > (bk.length : Int) := of_decide_eq_true hc
        omega
      have hst := (hsr).trans (show stepR bk sm c r s ws = (⟨0, 190⟩, bk, sm) by unfold stepR; rw [if_pos hc'])
      (repeat (first
    | refine vi_op rfl rfl rfl rfl rfl ?_
    | refine vi_inc rfl rfl (by omega) ?_
    | refine vi_dec rfl rfl (by omega) ?_
    | refine vi_not rfl rfl ?_
    | refine vi_load rfl rfl (by assumption) rfl ?_
    | refine vi_storeL rfl rfl rfl rfl rfl ?_
    | refine vi_nil ?_ | refine sq_seq ?_ | refine sw_seq ?_ | refine sw_items ?_ | refine sw_ret ?_ | refine sq_seq_r ?_ | refine sq_seq_x ?_ | refine sw_skip ?_ | refine sw_exit ?_
    | refine sw_block ?_ | refine sq_block ?_ | refine sq_block_r ?_ | refine sq_block_x ?_ | refine sq_block_o rfl ?_ | refine vq_loop_x ?_ | refine vq_loop_r ?_ | refine vi_chk rfl rfl rfl rfl ?_ | refine vi_chkload rfl rfl (by assumption) rfl rfl ?_ | refine vi_off rfl ?_ | refine vi_calloff rfl ?_ | refine vi_chkoff rfl ?_))
      refine vq_end rfl ?_
      have := hq h (Only.low (.refl _ _) h7)
      rw [hst] at this
      exact this hw
    · have hc' : ¬ bk.length < s := by
        have : ¬ (s : Int) > (bk.length : Int) := of_decide_eq_false hc
        omega
      refine sw_skip ?_
      refine sq_block ?_
      refine sq_seq ?_
      rw [hsr] at hq
      exact vw_weak (saT c r s ws) ⟨rfl, rfl, rfl, rfl, rfl, rfl, trivial⟩ (says_rest h bk sm hw hb hgb h7 c r s ws hgd hc' Q hq)
  | true =>
    obtain ⟨x, hx⟩ : ∃ x, sm c = some x := Option.isSome_iff_exists.1 hwas
    have hox : old = x := by rw [← hold, hx]; rfl
    have hg1 : AV.bool ((r : Int) == (old.1 : Int)) = AV.bool (decide (r = old.1)) := by
      congr 1
      by_cases e : r = old.1
      · subst e; simp
      · have : ¬ (r : Int) = (old.1 : Int) := fun k => e (by omega)
        simp [e, this]
    (repeat (first
    | refine vi_opE rfl rfl rfl rfl rfl (by assumption) ?_
    | refine vi_op rfl rfl rfl rfl rfl ?_
    | refine vi_inc rfl rfl (by omega) ?_
    | refine vi_dec rfl rfl (by omega) ?_
    | refine vi_not rfl rfl ?_
    | refine vi_load rfl rfl (by assumption) rfl ?_
    | refine vi_storeL rfl rfl rfl rfl rfl ?_
    | refine vi_nil ?_ | refine sq_seq ?_ | refine sw_seq ?_ | refine sw_items ?_ | refine sw_ret ?_ | refine sq_seq_r ?_ | refine sq_seq_x ?_ | refine sw_skip ?_ | refine sw_exit ?_
    | refine sw_block ?_ | refine sq_block ?_ | refine sq_block_r ?_ | refine sq_block_x ?_ | refine sq_block_o rfl ?_ | refine vq_loop_x ?_ | refine vq_loop_r ?_ | refine vi_chk rfl rfl rfl rfl ?_ | refine vi_chkload rfl rfl (by assumption) rfl rfl ?_ | refine vi_off rfl ?_ | refine vi_calloff rfl ?_ | refine vi_chkoff rfl ?_))
    refine vw_cond _ rfl (fun hc => ?_) (fun hc => ?_)
    · have hc' : r = old.1 := of_decide_eq_true hc
      have hst : step bk sm c r s ws = (old.2, bk, sm) := by
        unfold step
        rw [if_neg hne, hx]
        simp only
        rw [if_pos (by rw [← hox]; exact hc'), hox]
      have hls := lk_said (sm c)
      rw [hold] at hls
      (repeat (first
    | refine vi_op rfl rfl rfl rfl rfl ?_
    | refine vi_inc rfl rfl (by omega) ?_
    | refine vi_dec rfl rfl (by omega) ?_
    | refine vi_not rfl rfl ?_
    | refine vi_load rfl rfl (by assumption) rfl ?_
    | refine vi_storeL rfl rfl rfl rfl rfl ?_
    | refine vi_nil ?_ | refine sq_seq ?_ | refine sw_seq ?_ | refine sw_items ?_ | refine sw_ret ?_ | refine sq_seq_r ?_ | refine sq_seq_x ?_ | refine sw_skip ?_ | refine sw_exit ?_
    | refine sw_block ?_ | refine sq_block ?_ | refine sq_block_r ?_ | refine sq_block_x ?_ | refine sq_block_o rfl ?_ | refine vq_loop_x ?_ | refine vq_loop_r ?_ | refine vi_chk rfl rfl rfl rfl ?_ | refine vi_chkload rfl rfl (by assumption) rfl rfl ?_ | refine vi_off rfl ?_ | refine vi_calloff rfl ?_ | refine vi_chkoff rfl ?_))
      refine vi_lookupE _ rfl rfl rfl gd rfl (hfd c) hls ?_
      (repeat (first
    | refine vi_op rfl rfl rfl rfl rfl ?_
    | refine vi_inc rfl rfl (by omega) ?_
    | refine vi_dec rfl rfl (by omega) ?_
    | refine vi_not rfl rfl ?_
    | refine vi_load rfl rfl (by assumption) rfl ?_
    | refine vi_storeL rfl rfl rfl rfl rfl ?_
    | refine vi_nil ?_ | refine sq_seq ?_ | refine sw_seq ?_ | refine sw_items ?_ | refine sw_ret ?_ | refine sq_seq_r ?_ | refine sq_seq_x ?_ | refine sw_skip ?_ | refine sw_exit ?_
    | refine sw_block ?_ | refine sq_block ?_ | refine sq_block_r ?_ | refine sq_block_x ?_ | refine sq_block_o rfl ?_ | refine vq_loop_x ?_ | refine vq_loop_r ?_ | refine vi_chk rfl rfl rfl rfl ?_ | refine vi_chkload rfl rfl (by assumption) rfl rfl ?_ | refine vi_off rfl ?_ | refine vi_calloff rfl ?_ | refine vi_chkoff rfl ?_))
      refine vq_end rfl ?_
      have := hq h (Only.low (.refl _ _) h7)
      rw [hst] at this
      exact this hw
    have hne1 : ¬ r = old.1 := of_decide_eq_false hc
    have hg2 : AV.bool (decide ((r : Int) < (old.1 : Int))) = AV.bool (decide (r < old.1)) := by
      congr 1; exact decide_eq_decide.2 (by omega)
    (repeat (first
    | refine vi_opE rfl rfl rfl rfl rfl (by assumption) ?_
    | refine vi_op rfl rfl rfl rfl rfl ?_
    | refine vi_inc rfl rfl (by omega) ?_
    | refine vi_dec rfl rfl (by omega) ?_
    | refine vi_not rfl rfl ?_
    | refine vi_load rfl rfl (by assumption) rfl ?_
    | refine vi_storeL rfl rfl rfl rfl rfl ?_
    | refine vi_nil ?_ | refine sq_seq ?_ | refine sw_seq ?_ | refine sw_items ?_ | refine sw_ret ?_ | refine sq_seq_r ?_ | refine sq_seq_x ?_ | refine sw_skip ?_ | refine sw_exit ?_
    | refine sw_block ?_ | refine sq_block ?_ | refine sq_block_r ?_ | refine sq_block_x ?_ | refine sq_block_o rfl ?_ | refine vq_loop_x ?_ | refine vq_loop_r ?_ | refine vi_chk rfl rfl rfl rfl ?_ | refine vi_chkload rfl rfl (by assumption) rfl rfl ?_ | refine vi_off rfl ?_ | refine vi_calloff rfl ?_ | refine vi_chkoff rfl ?_))
    refine vw_cond _ rfl (fun hd => ?_) (fun hd => ?_)
    · have hd' : r < old.1 := of_decide_eq_true hd
      have hst : step bk sm c r s ws = (⟨0, 193⟩, bk, sm) := by
        unfold step
        rw [if_neg hne, hx]
        simp only
        rw [if_neg (by rw [← hox]; exact hne1), if_pos (by rw [← hox]; exact hd')]
      (repeat (first
    | refine vi_op rfl rfl rfl rfl rfl ?_
    | refine vi_inc rfl rfl (by omega) ?_
    | refine vi_dec rfl rfl (by omega) ?_
    | refine vi_not rfl rfl ?_
    | refine vi_load rfl rfl (by assumption) rfl ?_
    | refine vi_storeL rfl rfl rfl rfl rfl ?_
    | refine vi_nil ?_ | refine sq_seq ?_ | refine sw_seq ?_ | refine sw_items ?_ | refine sw_ret ?_ | refine sq_seq_r ?_ | refine sq_seq_x ?_ | refine sw_skip ?_ | refine sw_exit ?_
    | refine sw_block ?_ | refine sq_block ?_ | refine sq_block_r ?_ | refine sq_block_x ?_ | refine sq_block_o rfl ?_ | refine vq_loop_x ?_ | refine vq_loop_r ?_ | refine vi_chk rfl rfl rfl rfl ?_ | refine vi_chkload rfl rfl (by assumption) rfl rfl ?_ | refine vi_off rfl ?_ | refine vi_calloff rfl ?_ | refine vi_chkoff rfl ?_))
      refine vq_end rfl ?_
      have := hq h (Only.low (.refl _ _) h7)
      rw [hst] at this
      exact this hw
    have hnl : ¬ r < old.1 := of_decide_eq_false hd
    have hsr : step bk sm c r s ws = stepR bk sm c r s ws := step_rest hne (by rw [hold]; exact fun _ => hne1) (by rw [hold]; exact fun _ => hnl)
    (repeat (first
    | refine vi_op rfl rfl rfl rfl rfl ?_
    | refine vi_inc rfl rfl (by omega) ?_
    | refine vi_dec rfl rfl (by omega) ?_
    | refine vi_not rfl rfl ?_
    | refine vi_load rfl rfl (by assumption) rfl ?_
    | refine vi_storeL rfl rfl rfl rfl rfl ?_
    | refine vi_nil ?_ | refine sq_seq ?_ | refine sw_seq ?_ | refine sw_items ?_ | refine sw_ret ?_ | refine sq_seq_r ?_ | refine sq_seq_x ?_ | refine sw_skip ?_ | refine sw_exit ?_
    | refine sw_block ?_ | refine sq_block ?_ | refine sq_block_r ?_ | refine sq_block_x ?_ | refine sq_block_o rfl ?_ | refine vq_loop_x ?_ | refine vq_loop_r ?_ | refine vi_chk rfl rfl rfl rfl ?_ | refine vi_chkload rfl rfl (by assumption) rfl rfl ?_ | refine vi_off rfl ?_ | refine vi_calloff rfl ?_ | refine vi_chkoff rfl ?_))
    refine vi_call sysJ rfl rfl ?_
    refine blast_spec h v _ _ bk hbt.bv hv _ ?_
    (repeat (first
    | refine vi_op rfl rfl rfl rfl rfl ?_
    | refine vi_inc rfl rfl (by omega) ?_
    | refine vi_dec rfl rfl (by omega) ?_
    | refine vi_not rfl rfl ?_
    | refine vi_load rfl rfl (by assumption) rfl ?_
    | refine vi_storeL rfl rfl rfl rfl rfl ?_
    | refine vi_nil ?_ | refine sq_seq ?_ | refine sw_seq ?_ | refine sw_items ?_ | refine sw_ret ?_ | refine sq_seq_r ?_ | refine sq_seq_x ?_ | refine sw_skip ?_ | refine sw_exit ?_
    | refine sw_block ?_ | refine sq_block ?_ | refine sq_block_r ?_ | refine sq_block_x ?_ | refine sq_block_o rfl ?_ | refine vq_loop_x ?_ | refine vq_loop_r ?_ | refine vi_chk rfl rfl rfl rfl ?_ | refine vi_chkload rfl rfl (by assumption) rfl rfl ?_ | refine vi_off rfl ?_ | refine vi_calloff rfl ?_ | refine vi_chkoff rfl ?_))
    refine vw_cond _ rfl (fun hc => ?_) (fun hc => ?_)
    · have hc' : bk.length < s := by
        have : (s : Int) > (bk.length : Int) := of_decide_eq_true hc
        omega
      have hst := (hsr).trans (show stepR bk sm c r s ws = (⟨0, 190⟩, bk, sm) by unfold stepR; rw [if_pos hc'])
      (repeat (first
    | refine vi_op rfl rfl rfl rfl rfl ?_
    | refine vi_inc rfl rfl (by omega) ?_
    | refine vi_dec rfl rfl (by omega) ?_
    | refine vi_not rfl rfl ?_
    | refine vi_load rfl rfl (by assumption) rfl ?_
    | refine vi_storeL rfl rfl rfl rfl rfl ?_
    | refine vi_nil ?_ | refine sq_seq ?_ | refine sw_seq ?_ | refine sw_items ?_ | refine sw_ret ?_ | refine sq_seq_r ?_ | refine sq_seq_x ?_ | refine sw_skip ?_ | refine sw_exit ?_
    | refine sw_block ?_ | refine sq_block ?_ | refine sq_block_r ?_ | refine sq_block_x ?_ | refine sq_block_o rfl ?_ | refine vq_loop_x ?_ | refine vq_loop_r ?_ | refine vi_chk rfl rfl rfl rfl ?_ | refine vi_chkload rfl rfl (by assumption) rfl rfl ?_ | refine vi_off rfl ?_ | refine vi_calloff rfl ?_ | refine vi_chkoff rfl ?_))
      refine vq_end rfl ?_
      have := hq h (Only.low (.refl _ _) h7)
      rw [hst] at this
      exact this hw
    · have hc' : ¬ bk.length < s := by
        have : ¬ (s : Int) > (bk.length : Int) := of_decide_eq_false hc
        omega
      refine sw_skip ?_
      refine sq_block ?_
      refine sq_seq ?_
      rw [hsr] at hq
      exact vw_weak (saT c r s ws) ⟨rfl, rfl, rfl, rfl, rfl, rfl, trivial⟩ (says_rest h bk sm hw hb hgb h7 c r s ws hgd hc' Q hq)
end Go.AM.J
