/- Own work. This text shows: the law's own loop. -/
import Derived.Test.YtcipamnhmeplkaaGreatDoorL10
set_option linter.unusedVariables false
set_option linter.unusedSimpArgs false
namespace Go.AM.J
open Go Go.AM

section
variable {D : List Nat} {B : V} {h : Heap} {l : List Item} {d : Option Nat} {R : Env → Heap → Prop} {C : CallT}
theorem vi_mkmap {n : Nat} (hn : h.next = n) (kk : ∀ h', Only [] h h' → h'.next = n + 1 → h'.get n = some (.map [] 0) → SI D C l R (toEnv (consD d (.mp n) B)) h') : SI D C (.op d none .mkmap :: l) R (toEnv B) h := by
  subst hn
  refine si_op (v := .mp h.next) (e1 := toEnv B) (h' := h.new (.map [] 0)) rfl rfl rfl ?_
  rw [← toEnv_consD]
  exact kk _ (Only.refl _ h).new rfl (Heap.get_new_same _ _)
theorem vi_hboxN {n : Nat} {x : Opd} {v : AV} (hn : h.next = n) (hx : valV B x = some v) (kk : ∀ h', Only [] h h' → h'.next = n + 1 → h'.get n = some (.cells v.cells) → SI D C l R (toEnv (consD d (.ptr n 0) B)) h') : SI D C (.op d none (.hbox x) :: l) R (toEnv B) h := by
  subst hn
  exact vi_hbox hx kk
end

theorem when2_spec (h : Heap) (bk : List (List Wr)) (sm : Sm) (hj : JH h bk sm) (key : List UInt8) (Q : AV → Heap → Prop) (hq : Q (.int .u64 (lastW bk key : Int)) h) : C 14 [.ptr 2 0, .str key] h Q := by
  obtain ⟨es, c, h0, _, hf⟩ := hj.when
  refine when_spec h _ _ es c key _ hj.j h0 (hf key) Q ?_
  generalize he : encL (lastW bk key) = f
  unfold encL at he
  cases f with
  | none =>
    split at he
    · rename_i h0'; rw [h0'] at hq; exact hq
    · cases he
  | some v =>
    split at he
    · cases he
    · cases he; exact hq

theorem new_spec (h : Heap) (hn : h.next = 0) (Q : AV → Heap → Prop) (hq : ∀ h', Only [] h h' → h'.next = 3 → h'.get 0 = some (.map [] 0) → h'.get 1 = some (.map [] 0) → h'.get 2 = some (.cells [.int .u64 0, .mp 0, .mp 1]) → Q (.ptr 2 0) h') : C 4 [.int .u64 0] h Q := by
  refine vw_start sysJ fn4 rfl ?_
  refine sw_seq ?_
  refine sw_items ?_
  refine vi_op rfl rfl rfl rfl rfl ?_
  refine vi_nil ?_
  refine sq_seq ?_
  refine sw_seq ?_
  refine sw_items ?_
  refine vi_op rfl rfl rfl rfl rfl ?_
  refine vi_mkmap hn fun h1 o1 n1 g1 => ?_
  refine vi_mkmap n1 fun h2 o2 n2 g2 => ?_
  refine vi_op rfl rfl rfl rfl rfl ?_
  refine vi_hboxN n2 rfl fun h3 o3 n3 g3 => ?_
  (repeat (first
    | refine vi_op rfl rfl rfl rfl rfl ?_
    | refine vi_inc rfl rfl (by omega) ?_
    | refine vi_dec rfl rfl (by omega) ?_
    | refine vi_not rfl rfl ?_
    | refine vi_load rfl rfl (by assumption) rfl ?_
    | refine vi_storeL rfl rfl rfl rfl rfl ?_
    | refine vi_nil ?_ | refine sq_seq ?_ | refine sw_seq ?_ | refine sw_items ?_ | refine sw_ret ?_ | refine sq_seq_r ?_ | refine sq_seq_x ?_ | refine sw_skip ?_ | refine sw_exit ?_
    | refine sw_block ?_ | refine sq_block ?_ | refine sq_block_r ?_ | refine sq_block_x ?_ | refine sq_block_o rfl ?_ | refine vq_loop_x ?_ | refine vq_loop_r ?_ | refine vi_chk rfl rfl rfl rfl ?_ | refine vi_chkload rfl rfl (by assumption) rfl rfl ?_ | refine vi_off rfl ?_ | refine vi_calloff rfl ?_ | refine vi_chkoff rfl ?_))
  refine vq_end rfl ?_
  refine hq h3 ((o1.trans o2 (fun r hr => hr) (fun r hr => hr)).trans o3 (fun r hr => hr) (fun r hr => hr)) n3 ?_ ?_ g3
  · rw [o3.same 0 (by omega) (by simp), o2.same 0 (by omega) (by simp)]; exact g1
  · rw [o3.same 1 (by omega) (by simp)]; exact g2

def maT (i : Nat) : List (Nat × AV) := [(2, .bool false), (3, .ptr 2 0), (4, .ptr 5 0), (5, .ptr 6 0), (6, .vs .exact (keysL.map AV.str)), (7, .int .i64 (i : Nat))]
def maT2 (i : Nat) (key : List UInt8) (a k : Nat) : List (Nat × AV) := maT i ++ [(10, .str key), (11, .int .i64 (a : Nat)), (12, .int .i64 (k : Nat))]
theorem step_bk (bk : List (List Wr)) (sm : Sm) (c r s : Nat) (ws : List Wr) : (step bk sm c r s ws).2.1 = bk ∨ (step bk sm c r s ws).2.1 = bk ++ [ws] := by
  have hr : (stepR bk sm c r s ws).2.1 = bk ∨ (stepR bk sm c r s ws).2.1 = bk ++ [ws] := by
    unfold stepR; split
    · exact .inl rfl
    · split
      · exact .inl rfl
      · exact .inr rfl
  unfold step; split
  · exact .inl rfl
  · split
    · split
      · exact .inl rfl
      · split
        · exact .inl rfl
        · exact hr
    · exact hr
theorem step_sm (bk : List (List Wr)) (sm : Sm) (c r s : Nat) (ws : List Wr) (d : Nat) (x : Nat × Ver) (h : (step bk sm c r s ws).2.2 d = some x) : sm d = some x ∨ x.1 = r := by
  have hset : ∀ v, setSm sm c (r, v) d = some x → sm d = some x ∨ x.1 = r := fun v hv => by
    unfold setSm at hv
    split at hv
    · cases hv; exact .inr rfl
    · exact .inl hv
  have hr : (stepR bk sm c r s ws).2.2 d = some x → sm d = some x ∨ x.1 = r := by
    unfold stepR; split
    · exact .inl
    · split
      · exact hset _
      · exact hset _
  unfold step at h; split at h
  · exact .inl h
  · split at h
    · split at h
      · exact .inl h
      · split at h
        · exact .inl h
        · exact hr h
    · exact hr h

def rest3 : IR := match i3.body with
  | .seq _ (.seq _ (.seq _ (.seq _ (.seq _ r)))) => r
  | _ => .skip
set_option maxHeartbeats 8000000 in
theorem main_rest (h : Heap) (xs : List Int) (hj : JH h [] fun _ => none) (hw : WH h [] fun _ => none) (hd : DH h xs 0) (h7 : 7 ≤ h.next) (Q : AV → Heap → Prop) (hq : ∀ h', Q (.bool true) h') :
    SW [] C rest3 (endPost i3 Q) (toEnv (mkV [(2, .bool false), (3, .ptr 2 0), (4, .ptr 5 0), (5, .ptr 6 0)])) h := by
  have hi9 : rest3 = rest3 := rfl
  conv at hi9 => rhs; unfold rest3 i3
  simp only at hi9
  rw [hi9]
  clear hi9
  (repeat (first
    | refine vi_op rfl rfl rfl rfl rfl ?_
    | refine vi_inc rfl rfl (by omega) ?_
    | refine vi_dec rfl rfl (by omega) ?_
    | refine vi_not rfl rfl ?_
    | refine vi_load rfl rfl (by assumption) rfl ?_
    | refine vi_storeL rfl rfl rfl rfl rfl ?_
    | refine vi_nil ?_ | refine sq_seq ?_ | refine sw_seq ?_ | refine sw_items ?_ | refine sw_ret ?_ | refine sq_seq_r ?_ | refine sq_seq_x ?_ | refine sw_skip ?_ | refine sw_exit ?_
    | refine sw_block ?_ | refine sq_block ?_ | refine sq_block_r ?_ | refine sq_block_x ?_ | refine sq_block_o rfl ?_ | refine vq_loop_x ?_ | refine vq_loop_r ?_ | refine vi_chk rfl rfl rfl rfl ?_ | refine vi_chkload rfl rfl (by assumption) rfl rfl ?_ | refine vi_off rfl ?_ | refine vi_calloff rfl ?_ | refine vi_chkoff rfl ?_))
  refine vi_call sysJ rfl rfl ?_
  refine keys_spec _ _ ?_
  (repeat (first
    | refine vi_op rfl rfl rfl rfl rfl ?_
    | refine vi_inc rfl rfl (by omega) ?_
    | refine vi_dec rfl rfl (by omega) ?_
    | refine vi_not rfl rfl ?_
    | refine vi_load rfl rfl (by assumption) rfl ?_
    | refine vi_storeL rfl rfl rfl rfl rfl ?_
    | refine vi_nil ?_ | refine sq_seq ?_ | refine sw_seq ?_ | refine sw_items ?_ | refine sw_ret ?_ | refine sq_seq_r ?_ | refine sq_seq_x ?_ | refine sw_skip ?_ | refine sw_exit ?_
    | refine sw_block ?_ | refine sq_block ?_ | refine sq_block_r ?_ | refine sq_block_x ?_ | refine sq_block_o rfl ?_ | refine vq_loop_x ?_ | refine vq_loop_r ?_ | refine vi_chk rfl rfl rfl rfl ?_ | refine vi_chkload rfl rfl (by assumption) rfl rfl ?_ | refine vi_off rfl ?_ | refine vi_calloff rfl ?_ | refine vi_chkoff rfl ?_))
  refine vw_loop sysJ (fun n B h' => ∃ i bk sm, n = 30 - i ∧ i ≤ 30 ∧ JH h' bk sm ∧ WH h' bk sm ∧ DH h' xs (100 * i) ∧ bk.length ≤ i ∧ (∀ x ∈ bk, Good x) ∧ (∀ c x, sm c = some x → x.1 ≤ 2 * i) ∧ 7 ≤ h'.next ∧ B = mkV (maT i)) (maT 0) 30 ⟨rfl, rfl, rfl, rfl, rfl, rfl, trivial⟩
    ⟨0, [], _, rfl, by omega, hj, hw, hd, by simp, fun x hx => (nomatch hx), fun c x hx => (by cases hx), h7, rfl⟩ ?_
  rintro n B h' ⟨i, bk, sm, hn, hi, hj', hw', hd', hbl, hgb, hrb, h7', rfl⟩
  rcases Nat.lt_or_ge i 30 with hlt | hge
  · have hg : AV.bool (decide ((i : Int) < 30)) = AV.bool true := by
      congr 1; exact decide_eq_true (by omega)
    (repeat (first
    | refine vi_opE rfl rfl rfl rfl rfl (by assumption) ?_
    | refine vi_op rfl rfl rfl rfl rfl ?_
    | refine vi_inc rfl rfl (by omega) ?_
    | refine vi_dec rfl rfl (by omega) ?_
    | refine vi_not rfl rfl ?_
    | refine vi_load rfl rfl (by assumption) rfl ?_
    | refine vi_storeL rfl rfl rfl rfl rfl ?_
    | refine vi_nil ?_ | refine sq_seq ?_ | refine sw_seq ?_ | refine sw_items ?_ | refine sw_ret ?_ | refine sq_seq_r ?_ | refine sq_seq_x ?_ | refine sw_skip ?_ | refine sw_exit ?_
    | refine sw_block ?_ | refine sq_block ?_ | refine sq_block_r ?_ | refine sq_block_x ?_ | refine sq_block_o rfl ?_ | refine vq_loop_x ?_ | refine vq_loop_r ?_ | refine vi_chk rfl rfl rfl rfl ?_ | refine vi_chkload rfl rfl (by assumption) rfl rfl ?_ | refine vi_off rfl ?_ | refine vi_calloff rfl ?_ | refine vi_chkoff rfl ?_))
    refine vi_call sysJ rfl rfl ?_
    refine more_spec _ xs _ hd' _ fun t => ?_
    (repeat (first
    | refine vi_op rfl rfl rfl rfl rfl ?_
    | refine vi_inc rfl rfl (by omega) ?_
    | refine vi_dec rfl rfl (by omega) ?_
    | refine vi_not rfl rfl ?_
    | refine vi_load rfl rfl (by assumption) rfl ?_
    | refine vi_storeL rfl rfl rfl rfl rfl ?_
    | refine vi_nil ?_ | refine sq_seq ?_ | refine sw_seq ?_ | refine sw_items ?_ | refine sw_ret ?_ | refine sq_seq_r ?_ | refine sq_seq_x ?_ | refine sw_skip ?_ | refine sw_exit ?_
    | refine sw_block ?_ | refine sq_block ?_ | refine sq_block_r ?_ | refine sq_block_x ?_ | refine sq_block_o rfl ?_ | refine vq_loop_x ?_ | refine vq_loop_r ?_ | refine vi_chk rfl rfl rfl rfl ?_ | refine vi_chkload rfl rfl (by assumption) rfl rfl ?_ | refine vi_off rfl ?_ | refine vi_calloff rfl ?_ | refine vi_chkoff rfl ?_))
    refine vw_cond t rfl (fun ht => ?_) (fun ht => ?_)
    · clear hg
      (repeat (first
    | refine vi_op rfl rfl rfl rfl rfl ?_
    | refine vi_inc rfl rfl (by omega) ?_
    | refine vi_dec rfl rfl (by omega) ?_
    | refine vi_not rfl rfl ?_
    | refine vi_load rfl rfl (by assumption) rfl ?_
    | refine vi_storeL rfl rfl rfl rfl rfl ?_
    | refine vi_nil ?_ | refine sq_seq ?_ | refine sw_seq ?_ | refine sw_items ?_ | refine sw_ret ?_ | refine sq_seq_r ?_ | refine sq_seq_x ?_ | refine sw_skip ?_ | refine sw_exit ?_
    | refine sw_block ?_ | refine sq_block ?_ | refine sq_block_r ?_ | refine sq_block_x ?_ | refine sq_block_o rfl ?_ | refine vq_loop_x ?_ | refine vq_loop_r ?_ | refine vi_chk rfl rfl rfl rfl ?_ | refine vi_chkload rfl rfl (by assumption) rfl rfl ?_ | refine vi_off rfl ?_ | refine vi_calloff rfl ?_ | refine vi_chkoff rfl ?_))
      refine vi_call sysJ rfl rfl ?_
      refine asks_spec _ bk sm xs _ (2 * i) hw' hd' (by omega) hgb h7' (by omega) (by omega) hrb _ fun c r s ws h1 hgd hr o1 w1 d1 => ?_
      have n1 := o1.next
      have j1 := hj'.keep o1 ⟨by simp, by simp, by simp⟩
      have hbk := step_bk bk sm c r s ws
      have hsm := step_sm bk sm c r s ws
      have hsay := say_spec h1 bk sm j1 (by omega) (by omega) c r s ws hgd
      generalize step bk sm c r s ws = res at w1 hbk hsm hsay
      obtain ⟨ver, bk1, sm1⟩ := res
      simp only at w1 hbk hsm hsay
      have hgb1 : ∀ x ∈ bk1, Good x := by
        rcases hbk with rfl | rfl
        · exact hgb
        · intro x hx
          rcases List.mem_append.1 hx with hx | hx
          · exact hgb x hx
          · simp at hx; subst hx; exact hgd
      have hbl1 : bk1.length ≤ i + 1 := by
        rcases hbk with rfl | rfl
        · omega
        · simp; omega
      have hrb1 : ∀ c x, sm1 c = some x → x.1 ≤ 2 * (i + 1) := fun c x hx => by
        rcases hsm c x hx with hx | hx
        · have := hrb c x hx; omega
        · omega
      (repeat (first
    | refine vi_op rfl rfl rfl rfl rfl ?_
    | refine vi_inc rfl rfl (by omega) ?_
    | refine vi_dec rfl rfl (by omega) ?_
    | refine vi_not rfl rfl ?_
    | refine vi_load rfl rfl (by assumption) rfl ?_
    | refine vi_storeL rfl rfl rfl rfl rfl ?_
    | refine vi_nil ?_ | refine sq_seq ?_ | refine sw_seq ?_ | refine sw_items ?_ | refine sw_ret ?_ | refine sq_seq_r ?_ | refine sq_seq_x ?_ | refine sw_skip ?_ | refine sw_exit ?_
    | refine sw_block ?_ | refine sq_block ?_ | refine sq_block_r ?_ | refine sq_block_x ?_ | refine sq_block_o rfl ?_ | refine vq_loop_x ?_ | refine vq_loop_r ?_ | refine vi_chk rfl rfl rfl rfl ?_ | refine vi_chkload rfl rfl (by assumption) rfl rfl ?_ | refine vi_off rfl ?_ | refine vi_calloff rfl ?_ | refine vi_chkoff rfl ?_))
      refine vi_call sysJ rfl rfl ?_
      refine hsay _ fun h2 o2 j2 => ?_
      have n2 := o2.next
      have w2 : WH h2 bk1 sm1 := w1.keep o2 (by omega) (by simp)
      have d2 : DH h2 xs (100 * i + 30) := d1.keep o2 (by omega) (by simp)
      have ⟨⟨v2, hv2, hbt2⟩, _, _⟩ := w2
      have hx1 : AV.bool (!(((ver.at_ : Int) == (ver.at_ : Int)) && ((ver.err == ver.err) && true))) = AV.bool false := by simp
      have hx2 : AV.bool ((bk1.length : Int) != (bk1.length : Int)) = AV.bool false := by simp
      (repeat (first
    | refine vi_opE rfl rfl rfl rfl rfl (by assumption) ?_
    | refine vi_op rfl rfl rfl rfl rfl ?_
    | refine vi_inc rfl rfl (by omega) ?_
    | refine vi_dec rfl rfl (by omega) ?_
    | refine vi_not rfl rfl ?_
    | refine vi_load rfl rfl (by assumption) rfl ?_
    | refine vi_storeL rfl rfl rfl rfl rfl ?_
    | refine vi_nil ?_ | refine sq_seq ?_ | refine sw_seq ?_ | refine sw_items ?_ | refine sw_ret ?_ | refine sq_seq_r ?_ | refine sq_seq_x ?_ | refine sw_skip ?_ | refine sw_exit ?_
    | refine sw_block ?_ | refine sq_block ?_ | refine sq_block_r ?_ | refine sq_block_x ?_ | refine sq_block_o rfl ?_ | refine vq_loop_x ?_ | refine vq_loop_r ?_ | refine vi_chk rfl rfl rfl rfl ?_ | refine vi_chkload rfl rfl (by assumption) rfl rfl ?_ | refine vi_off rfl ?_ | refine vi_calloff rfl ?_ | refine vi_chkoff rfl ?_))
      refine vi_call sysJ rfl rfl ?_
      refine jlast_spec h2 bk1.length _ _ j2.j _ ?_
      (repeat (first
    | refine vi_opE rfl rfl rfl rfl rfl (by assumption) ?_
    | refine vi_op rfl rfl rfl rfl rfl ?_
    | refine vi_inc rfl rfl (by omega) ?_
    | refine vi_dec rfl rfl (by omega) ?_
    | refine vi_not rfl rfl ?_
    | refine vi_load rfl rfl (by assumption) rfl ?_
    | refine vi_storeL rfl rfl rfl rfl rfl ?_
    | refine vi_nil ?_ | refine sq_seq ?_ | refine sw_seq ?_ | refine sw_items ?_ | refine sw_ret ?_ | refine sq_seq_r ?_ | refine sq_seq_x ?_ | refine sw_skip ?_ | refine sw_exit ?_
    | refine sw_block ?_ | refine sq_block ?_ | refine sq_block_r ?_ | refine sq_block_x ?_ | refine sq_block_o rfl ?_ | refine vq_loop_x ?_ | refine vq_loop_r ?_ | refine vi_chk rfl rfl rfl rfl ?_ | refine vi_chkload rfl rfl (by assumption) rfl rfl ?_ | refine vi_off rfl ?_ | refine vi_calloff rfl ?_ | refine vi_chkoff rfl ?_))
      refine vi_cvI rfl rfl (by omega) (by omega) ?_
      (repeat (first
    | refine vi_opE rfl rfl rfl rfl rfl (by assumption) ?_
    | refine vi_op rfl rfl rfl rfl rfl ?_
    | refine vi_inc rfl rfl (by omega) ?_
    | refine vi_dec rfl rfl (by omega) ?_
    | refine vi_not rfl rfl ?_
    | refine vi_load rfl rfl (by assumption) rfl ?_
    | refine vi_storeL rfl rfl rfl rfl rfl ?_
    | refine vi_nil ?_ | refine sq_seq ?_ | refine sw_seq ?_ | refine sw_items ?_ | refine sw_ret ?_ | refine sq_seq_r ?_ | refine sq_seq_x ?_ | refine sw_skip ?_ | refine sw_exit ?_
    | refine sw_block ?_ | refine sq_block ?_ | refine sq_block_r ?_ | refine sq_block_x ?_ | refine sq_block_o rfl ?_ | refine vq_loop_x ?_ | refine vq_loop_r ?_ | refine vi_chk rfl rfl rfl rfl ?_ | refine vi_chkload rfl rfl (by assumption) rfl rfl ?_ | refine vi_off rfl ?_ | refine vi_calloff rfl ?_ | refine vi_chkoff rfl ?_))
      refine vi_call sysJ rfl rfl ?_
      refine blast_spec h2 v2 _ _ bk1 hbt2.bv hv2 _ ?_
      (repeat (first
    | refine vi_opE rfl rfl rfl rfl rfl (by assumption) ?_
    | refine vi_op rfl rfl rfl rfl rfl ?_
    | refine vi_inc rfl rfl (by omega) ?_
    | refine vi_dec rfl rfl (by omega) ?_
    | refine vi_not rfl rfl ?_
    | refine vi_load rfl rfl (by assumption) rfl ?_
    | refine vi_storeL rfl rfl rfl rfl rfl ?_
    | refine vi_nil ?_ | refine sq_seq ?_ | refine sw_seq ?_ | refine sw_items ?_ | refine sw_ret ?_ | refine sq_seq_r ?_ | refine sq_seq_x ?_ | refine sw_skip ?_ | refine sw_exit ?_
    | refine sw_block ?_ | refine sq_block ?_ | refine sq_block_r ?_ | refine sq_block_x ?_ | refine sq_block_o rfl ?_ | refine vq_loop_x ?_ | refine vq_loop_r ?_ | refine vi_chk rfl rfl rfl rfl ?_ | refine vi_chkload rfl rfl (by assumption) rfl rfl ?_ | refine vi_off rfl ?_ | refine vi_calloff rfl ?_ | refine vi_chkoff rfl ?_))
      refine vw_condF rfl ?_
      clear hx1 hx2
      (repeat (first
    | refine vi_op rfl rfl rfl rfl rfl ?_
    | refine vi_inc rfl rfl (by omega) ?_
    | refine vi_dec rfl rfl (by omega) ?_
    | refine vi_not rfl rfl ?_
    | refine vi_load rfl rfl (by assumption) rfl ?_
    | refine vi_storeL rfl rfl rfl rfl rfl ?_
    | refine vi_nil ?_ | refine sq_seq ?_ | refine sw_seq ?_ | refine sw_items ?_ | refine sw_ret ?_ | refine sq_seq_r ?_ | refine sq_seq_x ?_ | refine sw_skip ?_ | refine sw_exit ?_
    | refine sw_block ?_ | refine sq_block ?_ | refine sq_block_r ?_ | refine sq_block_x ?_ | refine sq_block_o rfl ?_ | refine vq_loop_x ?_ | refine vq_loop_r ?_ | refine vi_chk rfl rfl rfl rfl ?_ | refine vi_chkload rfl rfl (by assumption) rfl rfl ?_ | refine vi_off rfl ?_ | refine vi_calloff rfl ?_ | refine vi_chkoff rfl ?_))
      refine vi_call sysJ rfl rfl ?_
      refine next_spec _ xs _ 13 d2 (by omega) (by omega) (by omega) (by omega) _ fun q h3 hq13 o3 d3 => ?_
      have n3 := o3.next
      have w3 : WH h3 bk1 sm1 := w2.keep o3 (by omega) (by simp)
      have j3 : JH h3 bk1 sm1 := j2.keep (Only.low o3 (by omega)) ⟨by simp, by simp, by simp⟩
      have ⟨⟨v3, hv3, hbt3⟩, _, _⟩ := w3
      (repeat (first
    | refine vi_op rfl rfl rfl rfl rfl ?_
    | refine vi_inc rfl rfl (by omega) ?_
    | refine vi_dec rfl rfl (by omega) ?_
    | refine vi_not rfl rfl ?_
    | refine vi_load rfl rfl (by assumption) rfl ?_
    | refine vi_storeL rfl rfl rfl rfl rfl ?_
    | refine vi_nil ?_ | refine sq_seq ?_ | refine sw_seq ?_ | refine sw_items ?_ | refine sw_ret ?_ | refine sq_seq_r ?_ | refine sq_seq_x ?_ | refine sw_skip ?_ | refine sw_exit ?_
    | refine sw_block ?_ | refine sq_block ?_ | refine sq_block_r ?_ | refine sq_block_x ?_ | refine sq_block_o rfl ?_ | refine vq_loop_x ?_ | refine vq_loop_r ?_ | refine vi_chk rfl rfl rfl rfl ?_ | refine vi_chkload rfl rfl (by assumption) rfl rfl ?_ | refine vi_off rfl ?_ | refine vi_calloff rfl ?_ | refine vi_chkoff rfl ?_))
      refine vi_iaddr rfl rfl rfl (keys_get hq13) rfl ?_
      generalize keysL.getD q [] = key
      (repeat (first
    | refine vi_op rfl rfl rfl rfl rfl ?_
    | refine vi_inc rfl rfl (by omega) ?_
    | refine vi_dec rfl rfl (by omega) ?_
    | refine vi_not rfl rfl ?_
    | refine vi_load rfl rfl (by assumption) rfl ?_
    | refine vi_storeL rfl rfl rfl rfl rfl ?_
    | refine vi_nil ?_ | refine sq_seq ?_ | refine sw_seq ?_ | refine sw_items ?_ | refine sw_ret ?_ | refine sq_seq_r ?_ | refine sq_seq_x ?_ | refine sw_skip ?_ | refine sw_exit ?_
    | refine sw_block ?_ | refine sq_block ?_ | refine sq_block_r ?_ | refine sq_block_x ?_ | refine sq_block_o rfl ?_ | refine vq_loop_x ?_ | refine vq_loop_r ?_ | refine vi_chk rfl rfl rfl rfl ?_ | refine vi_chkload rfl rfl (by assumption) rfl rfl ?_ | refine vi_off rfl ?_ | refine vi_calloff rfl ?_ | refine vi_chkoff rfl ?_))
      refine vw_loop sysJ (fun n B h' => h' = h3 ∧ ∃ k, n = bk1.length - k ∧ k ≤ bk1.length ∧ B = mkV (maT2 i key (lastW (bk1.take k) key) k)) (maT2 i key 0 0) _ ⟨rfl, rfl, rfl, rfl, rfl, rfl, rfl, rfl, rfl, trivial⟩ ⟨rfl, 0, rfl, Nat.zero_le _, rfl⟩ ?_
      rintro n B h' ⟨rfl, k, hn2, hk, rfl⟩
      (repeat (first
    | refine vi_op rfl rfl rfl rfl rfl ?_
    | refine vi_inc rfl rfl (by omega) ?_
    | refine vi_dec rfl rfl (by omega) ?_
    | refine vi_not rfl rfl ?_
    | refine vi_load rfl rfl (by assumption) rfl ?_
    | refine vi_storeL rfl rfl rfl rfl rfl ?_
    | refine vi_nil ?_ | refine sq_seq ?_ | refine sw_seq ?_ | refine sw_items ?_ | refine sw_ret ?_ | refine sq_seq_r ?_ | refine sq_seq_x ?_ | refine sw_skip ?_ | refine sw_exit ?_
    | refine sw_block ?_ | refine sq_block ?_ | refine sq_block_r ?_ | refine sq_block_x ?_ | refine sq_block_o rfl ?_ | refine vq_loop_x ?_ | refine vq_loop_r ?_ | refine vi_chk rfl rfl rfl rfl ?_ | refine vi_chkload rfl rfl (by assumption) rfl rfl ?_ | refine vi_off rfl ?_ | refine vi_calloff rfl ?_ | refine vi_chkoff rfl ?_))
      refine vi_call sysJ rfl rfl ?_
      refine blast_spec _ v3 _ _ bk1 hbt3.bv hv3 _ ?_
      (repeat (first
    | refine vi_op rfl rfl rfl rfl rfl ?_
    | refine vi_inc rfl rfl (by omega) ?_
    | refine vi_dec rfl rfl (by omega) ?_
    | refine vi_not rfl rfl ?_
    | refine vi_load rfl rfl (by assumption) rfl ?_
    | refine vi_storeL rfl rfl rfl rfl rfl ?_
    | refine vi_nil ?_ | refine sq_seq ?_ | refine sw_seq ?_ | refine sw_items ?_ | refine sw_ret ?_ | refine sq_seq_r ?_ | refine sq_seq_x ?_ | refine sw_skip ?_ | refine sw_exit ?_
    | refine sw_block ?_ | refine sq_block ?_ | refine sq_block_r ?_ | refine sq_block_x ?_ | refine sq_block_o rfl ?_ | refine vq_loop_x ?_ | refine vq_loop_r ?_ | refine vi_chk rfl rfl rfl rfl ?_ | refine vi_chkload rfl rfl (by assumption) rfl rfl ?_ | refine vi_off rfl ?_ | refine vi_calloff rfl ?_ | refine vi_chkoff rfl ?_))
      refine vw_cond _ rfl (fun hc => ?_) (fun hc => ?_)
      · have hklt : k < bk1.length := by
          have : (k : Int) < (bk1.length : Int) := of_decide_eq_true hc
          omega
        obtain ⟨cc, rfl⟩ := hbt3.bv.vs hklt
        obtain ⟨x, hx⟩ : ∃ x, bk1[k]? = some x := ⟨bk1[k], List.getElem?_eq_getElem hklt⟩
        have hxm : (bk1.map encB)[k]? = some (encB x) := by simp [hx]
        have hxg := (hgb1 x (List.mem_of_getElem? hx)).len
        have htk := lastW_take hx key
        (repeat (first
    | refine vi_op rfl rfl rfl rfl rfl ?_
    | refine vi_inc rfl rfl (by omega) ?_
    | refine vi_dec rfl rfl (by omega) ?_
    | refine vi_not rfl rfl ?_
    | refine vi_load rfl rfl (by assumption) rfl ?_
    | refine vi_storeL rfl rfl rfl rfl rfl ?_
    | refine vi_nil ?_ | refine sq_seq ?_ | refine sw_seq ?_ | refine sw_items ?_ | refine sw_ret ?_ | refine sq_seq_r ?_ | refine sq_seq_x ?_ | refine sw_skip ?_ | refine sw_exit ?_
    | refine sw_block ?_ | refine sq_block ?_ | refine sq_block_r ?_ | refine sq_block_x ?_ | refine sq_block_o rfl ?_ | refine vq_loop_x ?_ | refine vq_loop_r ?_ | refine vi_chk rfl rfl rfl rfl ?_ | refine vi_chkload rfl rfl (by assumption) rfl rfl ?_ | refine vi_off rfl ?_ | refine vi_calloff rfl ?_ | refine vi_chkoff rfl ?_))
        refine vi_iaddr rfl rfl rfl hxm rfl ?_
        (repeat (first
    | refine vi_op rfl rfl rfl rfl rfl ?_
    | refine vi_inc rfl rfl (by omega) ?_
    | refine vi_dec rfl rfl (by omega) ?_
    | refine vi_not rfl rfl ?_
    | refine vi_load rfl rfl (by assumption) rfl ?_
    | refine vi_storeL rfl rfl rfl rfl rfl ?_
    | refine vi_nil ?_ | refine sq_seq ?_ | refine sw_seq ?_ | refine sw_items ?_ | refine sw_ret ?_ | refine sq_seq_r ?_ | refine sq_seq_x ?_ | refine sw_skip ?_ | refine sw_exit ?_
    | refine sw_block ?_ | refine sq_block ?_ | refine sq_block_r ?_ | refine sq_block_x ?_ | refine sq_block_o rfl ?_ | refine vq_loop_x ?_ | refine vq_loop_r ?_ | refine vi_chk rfl rfl rfl rfl ?_ | refine vi_chkload rfl rfl (by assumption) rfl rfl ?_ | refine vi_off rfl ?_ | refine vi_calloff rfl ?_ | refine vi_chkoff rfl ?_))
        refine vi_call sysJ rfl rfl ?_
        refine find_spec _ x key (by omega) _ ?_
        cases hf : findW x key with
        | none =>
          have hh : hasK x key = false := by unfold hasK; rw [hf]; rfl
          rw [hh] at htk
          simp only [Bool.false_eq_true, if_false] at htk
          (repeat (first
    | refine vi_op rfl rfl rfl rfl rfl ?_
    | refine vi_inc rfl rfl (by omega) ?_
    | refine vi_dec rfl rfl (by omega) ?_
    | refine vi_not rfl rfl ?_
    | refine vi_load rfl rfl (by assumption) rfl ?_
    | refine vi_storeL rfl rfl rfl rfl rfl ?_
    | refine vi_nil ?_ | refine sq_seq ?_ | refine sw_seq ?_ | refine sw_items ?_ | refine sw_ret ?_ | refine sq_seq_r ?_ | refine sq_seq_x ?_ | refine sw_skip ?_ | refine sw_exit ?_
    | refine sw_block ?_ | refine sq_block ?_ | refine sq_block_r ?_ | refine sq_block_x ?_ | refine sq_block_o rfl ?_ | refine vq_loop_x ?_ | refine vq_loop_r ?_ | refine vi_chk rfl rfl rfl rfl ?_ | refine vi_chkload rfl rfl (by assumption) rfl rfl ?_ | refine vi_off rfl ?_ | refine vi_calloff rfl ?_ | refine vi_chkoff rfl ?_))
          refine vw_condF rfl ?_
          (repeat (first
    | refine vi_op rfl rfl rfl rfl rfl ?_
    | refine vi_inc rfl rfl (by omega) ?_
    | refine vi_dec rfl rfl (by omega) ?_
    | refine vi_not rfl rfl ?_
    | refine vi_load rfl rfl (by assumption) rfl ?_
    | refine vi_storeL rfl rfl rfl rfl rfl ?_
    | refine vi_nil ?_ | refine sq_seq ?_ | refine sw_seq ?_ | refine sw_items ?_ | refine sw_ret ?_ | refine sq_seq_r ?_ | refine sq_seq_x ?_ | refine sw_skip ?_ | refine sw_exit ?_
    | refine sw_block ?_ | refine sq_block ?_ | refine sq_block_r ?_ | refine sq_block_x ?_ | refine sq_block_o rfl ?_ | refine vq_loop_x ?_ | refine vq_loop_r ?_ | refine vi_chk rfl rfl rfl rfl ?_ | refine vi_chkload rfl rfl (by assumption) rfl rfl ?_ | refine vi_off rfl ?_ | refine vi_calloff rfl ?_ | refine vi_chkoff rfl ?_))
          refine vq_loop (bk1.length - (k + 1)) (maT2 i key (lastW (bk1.take k) key) (k + 1)) (by omega) ⟨rfl, rfl, rfl, rfl, rfl, rfl, rfl, rfl, rfl, trivial⟩ ⟨rfl, k + 1, rfl, by omega, by rw [htk]⟩
        | some y =>
          have hh : hasK x key = true := by unfold hasK; rw [hf]; rfl
          rw [hh] at htk
          simp only [if_true] at htk
          (repeat (first
    | refine vi_op rfl rfl rfl rfl rfl ?_
    | refine vi_inc rfl rfl (by omega) ?_
    | refine vi_dec rfl rfl (by omega) ?_
    | refine vi_not rfl rfl ?_
    | refine vi_load rfl rfl (by assumption) rfl ?_
    | refine vi_storeL rfl rfl rfl rfl rfl ?_
    | refine vi_nil ?_ | refine sq_seq ?_ | refine sw_seq ?_ | refine sw_items ?_ | refine sw_ret ?_ | refine sq_seq_r ?_ | refine sq_seq_x ?_ | refine sw_skip ?_ | refine sw_exit ?_
    | refine sw_block ?_ | refine sq_block ?_ | refine sq_block_r ?_ | refine sq_block_x ?_ | refine sq_block_o rfl ?_ | refine vq_loop_x ?_ | refine vq_loop_r ?_ | refine vi_chk rfl rfl rfl rfl ?_ | refine vi_chkload rfl rfl (by assumption) rfl rfl ?_ | refine vi_off rfl ?_ | refine vi_calloff rfl ?_ | refine vi_chkoff rfl ?_))
          refine vw_condT rfl ?_
          (repeat (first
    | refine vi_op rfl rfl rfl rfl rfl ?_
    | refine vi_inc rfl rfl (by omega) ?_
    | refine vi_dec rfl rfl (by omega) ?_
    | refine vi_not rfl rfl ?_
    | refine vi_load rfl rfl (by assumption) rfl ?_
    | refine vi_storeL rfl rfl rfl rfl rfl ?_
    | refine vi_nil ?_ | refine sq_seq ?_ | refine sw_seq ?_ | refine sw_items ?_ | refine sw_ret ?_ | refine sq_seq_r ?_ | refine sq_seq_x ?_ | refine sw_skip ?_ | refine sw_exit ?_
    | refine sw_block ?_ | refine sq_block ?_ | refine sq_block_r ?_ | refine sq_block_x ?_ | refine sq_block_o rfl ?_ | refine vq_loop_x ?_ | refine vq_loop_r ?_ | refine vi_chk rfl rfl rfl rfl ?_ | refine vi_chkload rfl rfl (by assumption) rfl rfl ?_ | refine vi_off rfl ?_ | refine vi_calloff rfl ?_ | refine vi_chkoff rfl ?_))
          refine vq_loop (bk1.length - (k + 1)) (maT2 i key (k + 1) (k + 1)) (by omega) ⟨rfl, rfl, rfl, rfl, rfl, rfl, rfl, rfl, rfl, trivial⟩ ⟨rfl, k + 1, rfl, by omega, by rw [htk]⟩
      · have hke : k = bk1.length := by
          have : ¬ (k : Int) < (bk1.length : Int) := of_decide_eq_false hc
          omega
        have hlw : lastW (bk1.take k) key = lastW bk1 key := by rw [hke, List.take_length]
        rw [hlw]
        have hle := lastW_le bk1 key
        (repeat (first
    | refine vi_op rfl rfl rfl rfl rfl ?_
    | refine vi_inc rfl rfl (by omega) ?_
    | refine vi_dec rfl rfl (by omega) ?_
    | refine vi_not rfl rfl ?_
    | refine vi_load rfl rfl (by assumption) rfl ?_
    | refine vi_storeL rfl rfl rfl rfl rfl ?_
    | refine vi_nil ?_ | refine sq_seq ?_ | refine sw_seq ?_ | refine sw_items ?_ | refine sw_ret ?_ | refine sq_seq_r ?_ | refine sq_seq_x ?_ | refine sw_skip ?_ | refine sw_exit ?_
    | refine sw_block ?_ | refine sq_block ?_ | refine sq_block_r ?_ | refine sq_block_x ?_ | refine sq_block_o rfl ?_ | refine vq_loop_x ?_ | refine vq_loop_r ?_ | refine vi_chk rfl rfl rfl rfl ?_ | refine vi_chkload rfl rfl (by assumption) rfl rfl ?_ | refine vi_off rfl ?_ | refine vi_calloff rfl ?_ | refine vi_chkoff rfl ?_))
        refine vi_call sysJ rfl rfl ?_
        refine when2_spec _ bk1 sm1 j3 key _ ?_
        have hx3 : AV.bool ((lastW bk1 key : Int) != (lastW bk1 key : Int)) = AV.bool false := by simp
        (repeat (first
    | refine vi_op rfl rfl rfl rfl rfl ?_
    | refine vi_inc rfl rfl (by omega) ?_
    | refine vi_dec rfl rfl (by omega) ?_
    | refine vi_not rfl rfl ?_
    | refine vi_load rfl rfl (by assumption) rfl ?_
    | refine vi_storeL rfl rfl rfl rfl rfl ?_
    | refine vi_nil ?_ | refine sq_seq ?_ | refine sw_seq ?_ | refine sw_items ?_ | refine sw_ret ?_ | refine sq_seq_r ?_ | refine sq_seq_x ?_ | refine sw_skip ?_ | refine sw_exit ?_
    | refine sw_block ?_ | refine sq_block ?_ | refine sq_block_r ?_ | refine sq_block_x ?_ | refine sq_block_o rfl ?_ | refine vq_loop_x ?_ | refine vq_loop_r ?_ | refine vi_chk rfl rfl rfl rfl ?_ | refine vi_chkload rfl rfl (by assumption) rfl rfl ?_ | refine vi_off rfl ?_ | refine vi_calloff rfl ?_ | refine vi_chkoff rfl ?_))
        refine vi_cvI rfl rfl (by omega) (by omega) ?_
        (repeat (first
    | refine vi_opE rfl rfl rfl rfl rfl (by assumption) ?_
    | refine vi_op rfl rfl rfl rfl rfl ?_
    | refine vi_inc rfl rfl (by omega) ?_
    | refine vi_dec rfl rfl (by omega) ?_
    | refine vi_not rfl rfl ?_
    | refine vi_load rfl rfl (by assumption) rfl ?_
    | refine vi_storeL rfl rfl rfl rfl rfl ?_
    | refine vi_nil ?_ | refine sq_seq ?_ | refine sw_seq ?_ | refine sw_items ?_ | refine sw_ret ?_ | refine sq_seq_r ?_ | refine sq_seq_x ?_ | refine sw_skip ?_ | refine sw_exit ?_
    | refine sw_block ?_ | refine sq_block ?_ | refine sq_block_r ?_ | refine sq_block_x ?_ | refine sq_block_o rfl ?_ | refine vq_loop_x ?_ | refine vq_loop_r ?_ | refine vi_chk rfl rfl rfl rfl ?_ | refine vi_chkload rfl rfl (by assumption) rfl rfl ?_ | refine vi_off rfl ?_ | refine vi_calloff rfl ?_ | refine vi_chkoff rfl ?_))
        refine vw_condF rfl ?_
        clear hx3
        (repeat (first
    | refine vi_op rfl rfl rfl rfl rfl ?_
    | refine vi_inc rfl rfl (by omega) ?_
    | refine vi_dec rfl rfl (by omega) ?_
    | refine vi_not rfl rfl ?_
    | refine vi_load rfl rfl (by assumption) rfl ?_
    | refine vi_storeL rfl rfl rfl rfl rfl ?_
    | refine vi_nil ?_ | refine sq_seq ?_ | refine sw_seq ?_ | refine sw_items ?_ | refine sw_ret ?_ | refine sq_seq_r ?_ | refine sq_seq_x ?_ | refine sw_skip ?_ | refine sw_exit ?_
    | refine sw_block ?_ | refine sq_block ?_ | refine sq_block_r ?_ | refine sq_block_x ?_ | refine sq_block_o rfl ?_ | refine vq_loop_x ?_ | refine vq_loop_r ?_ | refine vi_chk rfl rfl rfl rfl ?_ | refine vi_chkload rfl rfl (by assumption) rfl rfl ?_ | refine vi_off rfl ?_ | refine vi_calloff rfl ?_ | refine vi_chkoff rfl ?_))
        exact vq_loop (30 - (i + 1)) (maT (i + 1)) (by omega) ⟨rfl, rfl, rfl, rfl, rfl, rfl, trivial⟩ ⟨i + 1, bk1, sm1, rfl, by omega, j3, w3, d3.mono (by omega), hbl1, hgb1, hrb1, by omega, rfl⟩
    · (repeat (first
    | refine vi_op rfl rfl rfl rfl rfl ?_
    | refine vi_inc rfl rfl (by omega) ?_
    | refine vi_dec rfl rfl (by omega) ?_
    | refine vi_not rfl rfl ?_
    | refine vi_load rfl rfl (by assumption) rfl ?_
    | refine vi_storeL rfl rfl rfl rfl rfl ?_
    | refine vi_nil ?_ | refine sq_seq ?_ | refine sw_seq ?_ | refine sw_items ?_ | refine sw_ret ?_ | refine sq_seq_r ?_ | refine sq_seq_x ?_ | refine sw_skip ?_ | refine sw_exit ?_
    | refine sw_block ?_ | refine sq_block ?_ | refine sq_block_r ?_ | refine sq_block_x ?_ | refine sq_block_o rfl ?_ | refine vq_loop_x ?_ | refine vq_loop_r ?_ | refine vi_chk rfl rfl rfl rfl ?_ | refine vi_chkload rfl rfl (by assumption) rfl rfl ?_ | refine vi_off rfl ?_ | refine vi_calloff rfl ?_ | refine vi_chkoff rfl ?_))
      refine vq_end rfl ?_
      exact hq _
  · have hg : AV.bool (decide ((i : Int) < 30)) = AV.bool false := by
      congr 1; exact decide_eq_false (by omega)
    (repeat (first
    | refine vi_opE rfl rfl rfl rfl rfl (by assumption) ?_
    | refine vi_op rfl rfl rfl rfl rfl ?_
    | refine vi_inc rfl rfl (by omega) ?_
    | refine vi_dec rfl rfl (by omega) ?_
    | refine vi_not rfl rfl ?_
    | refine vi_load rfl rfl (by assumption) rfl ?_
    | refine vi_storeL rfl rfl rfl rfl rfl ?_
    | refine vi_nil ?_ | refine sq_seq ?_ | refine sw_seq ?_ | refine sw_items ?_ | refine sw_ret ?_ | refine sq_seq_r ?_ | refine sq_seq_x ?_ | refine sw_skip ?_ | refine sw_exit ?_
    | refine sw_block ?_ | refine sq_block ?_ | refine sq_block_r ?_ | refine sq_block_x ?_ | refine sq_block_o rfl ?_ | refine vq_loop_x ?_ | refine vq_loop_r ?_ | refine vi_chk rfl rfl rfl rfl ?_ | refine vi_chkload rfl rfl (by assumption) rfl rfl ?_ | refine vi_off rfl ?_ | refine vi_calloff rfl ?_ | refine vi_chkoff rfl ?_))
    refine vw_condF rfl ?_
    (repeat (first
    | refine vi_op rfl rfl rfl rfl rfl ?_
    | refine vi_inc rfl rfl (by omega) ?_
    | refine vi_dec rfl rfl (by omega) ?_
    | refine vi_not rfl rfl ?_
    | refine vi_load rfl rfl (by assumption) rfl ?_
    | refine vi_storeL rfl rfl rfl rfl rfl ?_
    | refine vi_nil ?_ | refine sq_seq ?_ | refine sw_seq ?_ | refine sw_items ?_ | refine sw_ret ?_ | refine sq_seq_r ?_ | refine sq_seq_x ?_ | refine sw_skip ?_ | refine sw_exit ?_
    | refine sw_block ?_ | refine sq_block ?_ | refine sq_block_r ?_ | refine sq_block_x ?_ | refine sq_block_o rfl ?_ | refine vq_loop_x ?_ | refine vq_loop_r ?_ | refine vi_chk rfl rfl rfl rfl ?_ | refine vi_chkload rfl rfl (by assumption) rfl rfl ?_ | refine vi_off rfl ?_ | refine vi_calloff rfl ?_ | refine vi_chkoff rfl ?_))
    refine vq_end rfl ?_
    exact hq _
end Go.AM.J

set_option linter.unusedVariables false
set_option linter.unusedSimpArgs false
namespace Go.AM.J
open Go Go.AM
set_option maxHeartbeats 4000000 in
theorem main_spec (halive : ∀ (h : Heap) (Q : AV → Heap → Prop), Q (.bool true) h → C 5 [] h Q) (h : Heap) (hn : h.next = 0) (xs : List Int) (Q : AV → Heap → Prop) (hq : ∀ h', Q (.bool true) h') : C 3 [.vs .unk (xs.map (.int .i64))] h Q := by
  refine vw_start sysJ fn3 rfl ?_
  (repeat (first
    | refine vi_op rfl rfl rfl rfl rfl ?_
    | refine vi_inc rfl rfl (by omega) ?_
    | refine vi_dec rfl rfl (by omega) ?_
    | refine vi_not rfl rfl ?_
    | refine vi_load rfl rfl (by assumption) rfl ?_
    | refine vi_storeL rfl rfl rfl rfl rfl ?_
    | refine vi_nil ?_ | refine sq_seq ?_ | refine sw_seq ?_ | refine sw_items ?_ | refine sw_ret ?_ | refine sq_seq_r ?_ | refine sq_seq_x ?_ | refine sw_skip ?_ | refine sw_exit ?_
    | refine sw_block ?_ | refine sq_block ?_ | refine sq_block_r ?_ | refine sq_block_x ?_ | refine sq_block_o rfl ?_ | refine vq_loop_x ?_ | refine vq_loop_r ?_ | refine vi_chk rfl rfl rfl rfl ?_ | refine vi_chkload rfl rfl (by assumption) rfl rfl ?_ | refine vi_off rfl ?_ | refine vi_calloff rfl ?_ | refine vi_chkoff rfl ?_))
  refine vi_call sysJ rfl rfl ?_
  refine new_spec h hn _ fun h3 o3 n3 g0 g1 g2 => ?_
  refine vi_op rfl rfl rfl rfl rfl ?_
  refine vi_nil ?_
  refine sq_seq ?_
  refine sw_seq ?_
  refine sw_items ?_
  refine vi_mkmap n3 fun h4 o4 n4 g3 => ?_
  refine vi_mkmap n4 fun h5 o5 n5 g4 => ?_
  refine vi_op rfl rfl rfl rfl rfl ?_
  refine vi_hboxN n5 rfl fun h6 o6 n6 g5 => ?_
  refine vi_op rfl rfl rfl rfl rfl ?_
  refine vi_nil ?_
  refine sq_seq ?_
  refine sw_seq ?_
  refine sw_items ?_
  refine vi_op rfl rfl rfl rfl rfl ?_
  refine vi_op rfl rfl rfl rfl rfl ?_
  refine vi_hboxN n6 rfl fun h7 o7 n7 g6 => ?_
  have f5 : h7.get 5 = some (.cells [.nils, .mp 3, .mp 4]) := by rw [o7.same 5 (by omega) (by simp)]; exact g5
  have f4 : h7.get 4 = some (.map [] 0) := by rw [o7.same 4 (by omega) (by simp), o6.same 4 (by omega) (by simp)]; exact g4
  have f3 : h7.get 3 = some (.map [] 0) := by rw [o7.same 3 (by omega) (by simp), o6.same 3 (by omega) (by simp), o5.same 3 (by omega) (by simp)]; exact g3
  have ff : ∀ r, r < 3 → h7.get r = h3.get r := fun r hr => by
    rw [o7.same r (by omega) (by simp), o6.same r (by omega) (by simp), o5.same r (by omega) (by simp), o4.same r (by omega) (by simp)]
  have f2 : h7.get 2 = some (.cells [.int .u64 0, .mp 0, .mp 1]) := by rw [ff 2 (by omega)]; exact g2
  have f1 : h7.get 1 = some (.map [] 0) := by rw [ff 1 (by omega)]; exact g1
  have f0 : h7.get 0 = some (.map [] 0) := by rw [ff 0 (by omega)]; exact g0
  (repeat (first
    | refine vi_op rfl rfl rfl rfl rfl ?_
    | refine vi_inc rfl rfl (by omega) ?_
    | refine vi_dec rfl rfl (by omega) ?_
    | refine vi_not rfl rfl ?_
    | refine vi_load rfl rfl (by assumption) rfl ?_
    | refine vi_storeL rfl rfl rfl rfl rfl ?_
    | refine vi_nil ?_ | refine sq_seq ?_ | refine sw_seq ?_ | refine sw_items ?_ | refine sw_ret ?_ | refine sq_seq_r ?_ | refine sq_seq_x ?_ | refine sw_skip ?_ | refine sw_exit ?_
    | refine sw_block ?_ | refine sq_block ?_ | refine sq_block_r ?_ | refine sq_block_x ?_ | refine sq_block_o rfl ?_ | refine vq_loop_x ?_ | refine vq_loop_r ?_ | refine vi_chk rfl rfl rfl rfl ?_ | refine vi_chkload rfl rfl (by assumption) rfl rfl ?_ | refine vi_off rfl ?_ | refine vi_calloff rfl ?_ | refine vi_chkoff rfl ?_))
  refine vi_call sysJ rfl rfl ?_
  refine halive _ _ ?_
  (repeat (first
    | refine vi_op rfl rfl rfl rfl rfl ?_
    | refine vi_inc rfl rfl (by omega) ?_
    | refine vi_dec rfl rfl (by omega) ?_
    | refine vi_not rfl rfl ?_
    | refine vi_load rfl rfl (by assumption) rfl ?_
    | refine vi_storeL rfl rfl rfl rfl rfl ?_
    | refine vi_nil ?_ | refine sq_seq ?_ | refine sw_seq ?_ | refine sw_items ?_ | refine sw_ret ?_ | refine sq_seq_r ?_ | refine sq_seq_x ?_ | refine sw_skip ?_ | refine sw_exit ?_
    | refine sw_block ?_ | refine sq_block ?_ | refine sq_block_r ?_ | refine sq_block_x ?_ | refine sq_block_o rfl ?_ | refine vq_loop_x ?_ | refine vq_loop_r ?_ | refine vi_chk rfl rfl rfl rfl ?_ | refine vi_chkload rfl rfl (by assumption) rfl rfl ?_ | refine vi_off rfl ?_ | refine vi_calloff rfl ?_ | refine vi_chkoff rfl ?_))
  refine vw_condF rfl ?_
  refine sw_skip ?_
  refine sq_seq ?_
  refine vw_weak [(2, .bool false), (3, .ptr 2 0), (4, .ptr 5 0), (5, .ptr 6 0)] ⟨rfl, rfl, rfl, rfl, trivial⟩ (main_rest h7 xs ?_ ?_ ?_ (by omega) Q hq)
  · exact ⟨f2, ⟨[], 0, f0, KS.nil, fun key => rfl⟩, ⟨[], 0, f1, KI.nil, fun c => rfl⟩⟩
  · exact ⟨⟨.nils, f5, .inl ⟨rfl, rfl⟩⟩, ⟨[], 0, f3, KI.nil, fun c => rfl⟩, ⟨[], 0, f4, KI.nil, fun c => rfl⟩⟩
  · exact ⟨0, by omega, g6⟩
end Go.AM.J
