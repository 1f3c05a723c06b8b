/- Own work. This text shows: Rows.WholeJudgedCardSaid: WholeJudged returns true for every slice of integers, and its argument reads as before; no condition beyond the row's own. -/
import Derived.Test.YtcipamnhmeplkaaGreatDoorL11
import Derived.Test.YtcipamnhmeplkaaGreatDoorAl
import Derived.Test.YtcipamnhmeplkaaGreatDoorAm7
import Derived.KernelRfl
import Derived.Test.YtcipamnhmeplkaaGreatDoorAk0
import Derived.Test.YtcipamnhmeplkaaGreatDoorAk1
import Derived.Test.YtcipamnhmeplkaaGreatDoorAk2
import Derived.Test.YtcipamnhmeplkaaGreatDoorAk3
import Derived.Test.YtcipamnhmeplkaaGreatDoorAk4
import Derived.Test.YtcipamnhmeplkaaGreatDoorAk5
import Derived.Test.YtcipamnhmeplkaaGreatDoorAk6
import Derived.Test.YtcipamnhmeplkaaGreatDoorAk7
import Derived.Test.YtcipamnhmeplkaaGreatDoorIn2
import Derived.Test.YtcipamnhmeplkaaGreatDoorRows
import Derived.Test.YtcipamnhmeplkaaGreatDoorTie
import Derived.Test.YtcipamnhmeplkaaGreatDoorCards
import Derived.WalkKit
import Derived.ProofKit
import Derived.OpenShut
import Derived.ShutString
import Derived.ChangeOld
import Derived.Below
import Derived.LaidMore
import Derived.Stop.Joined
import Derived.SevenTiedAt
set_option linter.unusedVariables false
set_option linter.unusedSimpArgs false
namespace Go.AM.J
open Go Go.AM

theorem nil_exact (S : Sim) (c : Value) (h : VRel S .nils c) : VRel S (.vs .exact []) c := by
  simp only [VRel] at h ⊢
  subst h
  exact ⟨none, 0, rfl, Nat.le_refl _, rfl, .inl trivial⟩

theorem clone93 (h : Heap) (Q : AV → Heap → Prop) (hq : Q (.vs .exact []) h) : C 93 [.vs .unk []] h Q := by
  refine ACall.empty ?_ (ACall.res (u := .nils) (v := .vs .exact []) ?_ nil_exact)
  · refine vw_start sysJ fn93 rfl ?_
    (repeat (first
    | refine vi_op rfl rfl rfl rfl rfl ?_
    | refine vi_inc rfl rfl (by omega) ?_
    | refine vi_dec rfl rfl (by omega) ?_
    | refine vi_not rfl rfl ?_
    | refine vi_load rfl rfl (by assumption) rfl ?_
    | refine vi_storeL rfl rfl rfl rfl rfl ?_
    | refine vi_nil ?_ | refine sq_seq ?_ | refine sw_seq ?_ | refine sw_items ?_ | refine sw_ret ?_ | refine sq_seq_r ?_ | refine sq_seq_x ?_ | refine sw_skip ?_ | refine sw_exit ?_
    | refine sw_block ?_ | refine sq_block ?_ | refine sq_block_r ?_ | refine sq_block_x ?_ | refine sq_block_o rfl ?_ | refine vq_loop_x ?_ | refine vq_loop_r ?_ | refine vi_chk rfl rfl rfl rfl ?_ | refine vi_chkload rfl rfl (by assumption) rfl rfl ?_ | refine vi_off rfl ?_ | refine vi_calloff rfl ?_ | refine vi_chkoff rfl ?_))
    refine vw_condF rfl ?_
    (repeat (first
    | refine vi_op rfl rfl rfl rfl rfl ?_
    | refine vi_inc rfl rfl (by omega) ?_
    | refine vi_dec rfl rfl (by omega) ?_
    | refine vi_not rfl rfl ?_
    | refine vi_load rfl rfl (by assumption) rfl ?_
    | refine vi_storeL rfl rfl rfl rfl rfl ?_
    | refine vi_nil ?_ | refine sq_seq ?_ | refine sw_seq ?_ | refine sw_items ?_ | refine sw_ret ?_ | refine sq_seq_r ?_ | refine sq_seq_x ?_ | refine sw_skip ?_ | refine sw_exit ?_
    | refine sw_block ?_ | refine sq_block ?_ | refine sq_block_r ?_ | refine sq_block_x ?_ | refine sq_block_o rfl ?_ | refine vq_loop_x ?_ | refine vq_loop_r ?_ | refine vi_chk rfl rfl rfl rfl ?_ | refine vi_chkload rfl rfl (by assumption) rfl rfl ?_ | refine vi_off rfl ?_ | refine vi_calloff rfl ?_ | refine vi_chkoff rfl ?_))
    refine vq_end rfl ?_
    exact hq
  · refine vw_start sysJ fn93 rfl ?_
    (repeat (first
    | refine vi_op rfl rfl rfl rfl rfl ?_
    | refine vi_inc rfl rfl (by omega) ?_
    | refine vi_dec rfl rfl (by omega) ?_
    | refine vi_not rfl rfl ?_
    | refine vi_load rfl rfl (by assumption) rfl ?_
    | refine vi_storeL rfl rfl rfl rfl rfl ?_
    | refine vi_nil ?_ | refine sq_seq ?_ | refine sw_seq ?_ | refine sw_items ?_ | refine sw_ret ?_ | refine sq_seq_r ?_ | refine sq_seq_x ?_ | refine sw_skip ?_ | refine sw_exit ?_
    | refine sw_block ?_ | refine sq_block ?_ | refine sq_block_r ?_ | refine sq_block_x ?_ | refine sq_block_o rfl ?_ | refine vq_loop_x ?_ | refine vq_loop_r ?_ | refine vi_chk rfl rfl rfl rfl ?_ | refine vi_chkload rfl rfl (by assumption) rfl rfl ?_ | refine vi_off rfl ?_ | refine vi_calloff rfl ?_ | refine vi_chkoff rfl ?_))
    refine vw_condT rfl ?_
    (repeat (first
    | refine vi_op rfl rfl rfl rfl rfl ?_
    | refine vi_inc rfl rfl (by omega) ?_
    | refine vi_dec rfl rfl (by omega) ?_
    | refine vi_not rfl rfl ?_
    | refine vi_load rfl rfl (by assumption) rfl ?_
    | refine vi_storeL rfl rfl rfl rfl rfl ?_
    | refine vi_nil ?_ | refine sq_seq ?_ | refine sw_seq ?_ | refine sw_items ?_ | refine sw_ret ?_ | refine sq_seq_r ?_ | refine sq_seq_x ?_ | refine sw_skip ?_ | refine sw_exit ?_
    | refine sw_block ?_ | refine sq_block ?_ | refine sq_block_r ?_ | refine sq_block_x ?_ | refine sq_block_o rfl ?_ | refine vq_loop_x ?_ | refine vq_loop_r ?_ | refine vi_chk rfl rfl rfl rfl ?_ | refine vi_chkload rfl rfl (by assumption) rfl rfl ?_ | refine vi_off rfl ?_ | refine vi_calloff rfl ?_ | refine vi_chkoff rfl ?_))
    refine vq_end rfl ?_
    exact ⟨rfl, hq⟩
theorem clone94 (h : Heap) (Q : AV → Heap → Prop) (hq : Q (.vs .exact []) h) : C 94 [.vs .unk []] h Q := by
  refine ACall.empty ?_ (ACall.res (u := .nils) (v := .vs .exact []) ?_ nil_exact)
  · refine vw_start sysJ fn94 rfl ?_
    (repeat (first
    | refine vi_op rfl rfl rfl rfl rfl ?_
    | refine vi_inc rfl rfl (by omega) ?_
    | refine vi_dec rfl rfl (by omega) ?_
    | refine vi_not rfl rfl ?_
    | refine vi_load rfl rfl (by assumption) rfl ?_
    | refine vi_storeL rfl rfl rfl rfl rfl ?_
    | refine vi_nil ?_ | refine sq_seq ?_ | refine sw_seq ?_ | refine sw_items ?_ | refine sw_ret ?_ | refine sq_seq_r ?_ | refine sq_seq_x ?_ | refine sw_skip ?_ | refine sw_exit ?_
    | refine sw_block ?_ | refine sq_block ?_ | refine sq_block_r ?_ | refine sq_block_x ?_ | refine sq_block_o rfl ?_ | refine vq_loop_x ?_ | refine vq_loop_r ?_ | refine vi_chk rfl rfl rfl rfl ?_ | refine vi_chkload rfl rfl (by assumption) rfl rfl ?_ | refine vi_off rfl ?_ | refine vi_calloff rfl ?_ | refine vi_chkoff rfl ?_))
    refine vw_condF rfl ?_
    (repeat (first
    | refine vi_op rfl rfl rfl rfl rfl ?_
    | refine vi_inc rfl rfl (by omega) ?_
    | refine vi_dec rfl rfl (by omega) ?_
    | refine vi_not rfl rfl ?_
    | refine vi_load rfl rfl (by assumption) rfl ?_
    | refine vi_storeL rfl rfl rfl rfl rfl ?_
    | refine vi_nil ?_ | refine sq_seq ?_ | refine sw_seq ?_ | refine sw_items ?_ | refine sw_ret ?_ | refine sq_seq_r ?_ | refine sq_seq_x ?_ | refine sw_skip ?_ | refine sw_exit ?_
    | refine sw_block ?_ | refine sq_block ?_ | refine sq_block_r ?_ | refine sq_block_x ?_ | refine sq_block_o rfl ?_ | refine vq_loop_x ?_ | refine vq_loop_r ?_ | refine vi_chk rfl rfl rfl rfl ?_ | refine vi_chkload rfl rfl (by assumption) rfl rfl ?_ | refine vi_off rfl ?_ | refine vi_calloff rfl ?_ | refine vi_chkoff rfl ?_))
    refine vq_end rfl ?_
    exact hq
  · refine vw_start sysJ fn94 rfl ?_
    (repeat (first
    | refine vi_op rfl rfl rfl rfl rfl ?_
    | refine vi_inc rfl rfl (by omega) ?_
    | refine vi_dec rfl rfl (by omega) ?_
    | refine vi_not rfl rfl ?_
    | refine vi_load rfl rfl (by assumption) rfl ?_
    | refine vi_storeL rfl rfl rfl rfl rfl ?_
    | refine vi_nil ?_ | refine sq_seq ?_ | refine sw_seq ?_ | refine sw_items ?_ | refine sw_ret ?_ | refine sq_seq_r ?_ | refine sq_seq_x ?_ | refine sw_skip ?_ | refine sw_exit ?_
    | refine sw_block ?_ | refine sq_block ?_ | refine sq_block_r ?_ | refine sq_block_x ?_ | refine sq_block_o rfl ?_ | refine vq_loop_x ?_ | refine vq_loop_r ?_ | refine vi_chk rfl rfl rfl rfl ?_ | refine vi_chkload rfl rfl (by assumption) rfl rfl ?_ | refine vi_off rfl ?_ | refine vi_calloff rfl ?_ | refine vi_chkoff rfl ?_))
    refine vw_condT rfl ?_
    (repeat (first
    | refine vi_op rfl rfl rfl rfl rfl ?_
    | refine vi_inc rfl rfl (by omega) ?_
    | refine vi_dec rfl rfl (by omega) ?_
    | refine vi_not rfl rfl ?_
    | refine vi_load rfl rfl (by assumption) rfl ?_
    | refine vi_storeL rfl rfl rfl rfl rfl ?_
    | refine vi_nil ?_ | refine sq_seq ?_ | refine sw_seq ?_ | refine sw_items ?_ | refine sw_ret ?_ | refine sq_seq_r ?_ | refine sq_seq_x ?_ | refine sw_skip ?_ | refine sw_exit ?_
    | refine sw_block ?_ | refine sq_block ?_ | refine sq_block_r ?_ | refine sq_block_x ?_ | refine sq_block_o rfl ?_ | refine vq_loop_x ?_ | refine vq_loop_r ?_ | refine vi_chk rfl rfl rfl rfl ?_ | refine vi_chkload rfl rfl (by assumption) rfl rfl ?_ | refine vi_off rfl ?_ | refine vi_calloff rfl ?_ | refine vi_chkoff rfl ?_))
    refine vq_end rfl ?_
    exact ⟨rfl, hq⟩
theorem clone142 (h : Heap) (Q : AV → Heap → Prop) (hq : Q (.vs .exact []) h) : C 142 [.vs .unk []] h Q := by
  refine ACall.empty ?_ (ACall.res (u := .nils) (v := .vs .exact []) ?_ nil_exact)
  · refine vw_start sysJ fn142 rfl ?_
    (repeat (first
    | refine vi_op rfl rfl rfl rfl rfl ?_
    | refine vi_inc rfl rfl (by omega) ?_
    | refine vi_dec rfl rfl (by omega) ?_
    | refine vi_not rfl rfl ?_
    | refine vi_load rfl rfl (by assumption) rfl ?_
    | refine vi_storeL rfl rfl rfl rfl rfl ?_
    | refine vi_nil ?_ | refine sq_seq ?_ | refine sw_seq ?_ | refine sw_items ?_ | refine sw_ret ?_ | refine sq_seq_r ?_ | refine sq_seq_x ?_ | refine sw_skip ?_ | refine sw_exit ?_
    | refine sw_block ?_ | refine sq_block ?_ | refine sq_block_r ?_ | refine sq_block_x ?_ | refine sq_block_o rfl ?_ | refine vq_loop_x ?_ | refine vq_loop_r ?_ | refine vi_chk rfl rfl rfl rfl ?_ | refine vi_chkload rfl rfl (by assumption) rfl rfl ?_ | refine vi_off rfl ?_ | refine vi_calloff rfl ?_ | refine vi_chkoff rfl ?_))
    refine vw_condF rfl ?_
    (repeat (first
    | refine vi_op rfl rfl rfl rfl rfl ?_
    | refine vi_inc rfl rfl (by omega) ?_
    | refine vi_dec rfl rfl (by omega) ?_
    | refine vi_not rfl rfl ?_
    | refine vi_load rfl rfl (by assumption) rfl ?_
    | refine vi_storeL rfl rfl rfl rfl rfl ?_
    | refine vi_nil ?_ | refine sq_seq ?_ | refine sw_seq ?_ | refine sw_items ?_ | refine sw_ret ?_ | refine sq_seq_r ?_ | refine sq_seq_x ?_ | refine sw_skip ?_ | refine sw_exit ?_
    | refine sw_block ?_ | refine sq_block ?_ | refine sq_block_r ?_ | refine sq_block_x ?_ | refine sq_block_o rfl ?_ | refine vq_loop_x ?_ | refine vq_loop_r ?_ | refine vi_chk rfl rfl rfl rfl ?_ | refine vi_chkload rfl rfl (by assumption) rfl rfl ?_ | refine vi_off rfl ?_ | refine vi_calloff rfl ?_ | refine vi_chkoff rfl ?_))
    refine vq_end rfl ?_
    exact hq
  · refine vw_start sysJ fn142 rfl ?_
    (repeat (first
    | refine vi_op rfl rfl rfl rfl rfl ?_
    | refine vi_inc rfl rfl (by omega) ?_
    | refine vi_dec rfl rfl (by omega) ?_
    | refine vi_not rfl rfl ?_
    | refine vi_load rfl rfl (by assumption) rfl ?_
    | refine vi_storeL rfl rfl rfl rfl rfl ?_
    | refine vi_nil ?_ | refine sq_seq ?_ | refine sw_seq ?_ | refine sw_items ?_ | refine sw_ret ?_ | refine sq_seq_r ?_ | refine sq_seq_x ?_ | refine sw_skip ?_ | refine sw_exit ?_
    | refine sw_block ?_ | refine sq_block ?_ | refine sq_block_r ?_ | refine sq_block_x ?_ | refine sq_block_o rfl ?_ | refine vq_loop_x ?_ | refine vq_loop_r ?_ | refine vi_chk rfl rfl rfl rfl ?_ | refine vi_chkload rfl rfl (by assumption) rfl rfl ?_ | refine vi_off rfl ?_ | refine vi_calloff rfl ?_ | refine vi_chkoff rfl ?_))
    refine vw_condT rfl ?_
    (repeat (first
    | refine vi_op rfl rfl rfl rfl rfl ?_
    | refine vi_inc rfl rfl (by omega) ?_
    | refine vi_dec rfl rfl (by omega) ?_
    | refine vi_not rfl rfl ?_
    | refine vi_load rfl rfl (by assumption) rfl ?_
    | refine vi_storeL rfl rfl rfl rfl rfl ?_
    | refine vi_nil ?_ | refine sq_seq ?_ | refine sw_seq ?_ | refine sw_items ?_ | refine sw_ret ?_ | refine sq_seq_r ?_ | refine sq_seq_x ?_ | refine sw_skip ?_ | refine sw_exit ?_
    | refine sw_block ?_ | refine sq_block ?_ | refine sq_block_r ?_ | refine sq_block_x ?_ | refine sq_block_o rfl ?_ | refine vq_loop_x ?_ | refine vq_loop_r ?_ | refine vi_chk rfl rfl rfl rfl ?_ | refine vi_chkload rfl rfl (by assumption) rfl rfl ?_ | refine vi_off rfl ?_ | refine vi_calloff rfl ?_ | refine vi_chkoff rfl ?_))
    refine vq_end rfl ?_
    exact ⟨rfl, hq⟩

theorem globOk : ∀ g cs, G g = some cs → noRefL cs = true := by
  intro g cs hg
  unfold G at hg
  split at hg
  · cases hg; rfl
  · cases hg
def runT : Option AV := match xCall fns2 (fun _ _ _ => none) 100000 200 168 [] ⟨.lf, 0⟩ with
  | some (v, _) => some v
  | none => none
theorem runT_eq : runT = some tableV := by kernel_rfl
theorem sys2 : Sys fns2 C := by rw [fns2_eq]; exact sysJ
theorem table_spec (h : Heap) (Q : AV → Heap → Prop) (hq : Q tableV h) : C 168 [] h Q := by
  refine ACall.closed globOk (u := tableV) rfl rfl ?_ h Q hq
  have hr := runT_eq
  unfold runT at hr
  split at hr
  · rename_i v h' hx
    cases hr
    exact xCall_sound sys2 (fun _ _ _ _ _ h => by cases h) _ _ _ _ _ _ _ hx _ rfl
  · cases hr
end Go.AM.J

set_option linter.unusedVariables false
set_option linter.unusedSimpArgs false
namespace Go.AM.J
open Go Go.AM

abbrev InsOk : Prop := ∀ args h v h', insP args h = some (v, h') → ∀ Q : AV → Heap → Prop, Q v h' → C 147 args h Q

theorem prim_sound (hins : InsOk) : FSound C prim := by
  intro f args h v h' hp Q hq
  unfold prim at hp
  split at hp
  · rename_i hf
    have hf := Nat.eq_of_beq_eq_true hf
    subst hf
    split at hp
    · cases hp; exact table_spec h Q hq
    · cases hp
  · split at hp
    · rename_i hf
      have hf := Nat.eq_of_beq_eq_true hf
      subst hf
      exact hins _ _ _ _ hp Q hq
    · split at hp
      · rename_i hf
        split at hp
        · cases hp
          simp only [Bool.or_eq_true] at hf
          rcases hf with (hf | hf) | hf
          · have hf := Nat.eq_of_beq_eq_true hf; subst hf; exact clone93 h Q hq
          · have hf := Nat.eq_of_beq_eq_true hf; subst hf; exact clone94 h Q hq
          · have hf := Nat.eq_of_beq_eq_true hf; subst hf; exact clone142 h Q hq
        · cases hp
      · cases hp

theorem piece (hins : InsOk) {f : Nat} {keep : List Nat} {args : List AV} {h h1 hh : Heap} {v : AV} (hr : runK f keep args h = some (v, h1)) (hn : h.next = hh.next) (hs : ∀ r x, h.get r = some x → hh.get r = some x) (Q : AV → Heap → Prop)
    (hq : ∀ h', h1.next = h'.next → (∀ r x, h1.get r = some x → h'.get r = some x) → Q v h') : C f args hh Q := by
  refine sys2.forget _ _ _ h _ ?_ hn hs
  unfold runK at hr
  split at hr
  · rename_i v' h' hx
    cases hr
    exact xCall_sound sys2 (prim_sound hins) _ _ _ _ _ _ _ hx _ (hq h' rfl fun r x hx => prune_sub keep h' r x hx)
  · cases hr

theorem prim4_sound (hins : InsOk) : FSound C prim4 := by
  intro f args h v h' hp Q hq
  unfold prim4 at hp
  split at hp
  · rename_i hc
    simp only [Bool.and_eq_true] at hc
    obtain ⟨⟨h1, h2⟩, h3⟩ := hc
    have e1 := Nat.eq_of_beq_eq_true h1
    have e2 := AV.beqL_eq _ _ h2
    have e3 := heapEq_eq h3
    subst e1 e2 e3
    cases hp
    exact xCall_sound sys2 (prim_sound hins) _ _ _ _ _ _ _ run44 Q hq
  · exact prim_sound hins _ _ _ _ _ hp Q hq
theorem piece4 (hins : InsOk) {f : Nat} {keep : List Nat} {args : List AV} {h h1 hh : Heap} {v : AV} (hr : runK4 f keep args h = some (v, h1)) (hn : h.next = hh.next) (hs : ∀ r x, h.get r = some x → hh.get r = some x) (Q : AV → Heap → Prop)
    (hq : ∀ h', h1.next = h'.next → (∀ r x, h1.get r = some x → h'.get r = some x) → Q v h') : C f args hh Q := by
  refine sys2.forget _ _ _ h _ ?_ hn hs
  unfold runK4 at hr
  split at hr
  · rename_i v' h' hx
    cases hr
    exact xCall_sound sys2 (prim4_sound hins) _ _ _ _ _ _ _ hx _ (hq h' rfl fun r x hx => prune_sub keep h' r x hx)
  · cases hr

set_option maxHeartbeats 8000000 in
theorem alive0 (hins : InsOk) : C 5 [] ⟨.lf, 0⟩ fun v _ => v = .bool true := by
  refine vw_start sysJ fn5 rfl ?_
  (repeat (first
    | refine vi_op rfl rfl rfl rfl rfl ?_
    | refine vi_inc rfl rfl (by omega) ?_
    | refine vi_dec rfl rfl (by omega) ?_
    | refine vi_not rfl rfl ?_
    | refine vi_load rfl rfl (by assumption) rfl ?_
    | refine vi_storeL rfl rfl rfl rfl rfl ?_
    | refine vi_nil ?_ | refine sq_seq ?_ | refine sw_seq ?_ | refine sw_items ?_ | refine sw_ret ?_ | refine sq_seq_r ?_ | refine sq_seq_x ?_ | refine sw_skip ?_ | refine sw_exit ?_
    | refine sw_block ?_ | refine sq_block ?_ | refine sq_block_r ?_ | refine sq_block_x ?_ | refine sq_block_o rfl ?_ | refine vq_loop_x ?_ | refine vq_loop_r ?_ | refine vi_chk rfl rfl rfl rfl ?_ | refine vi_chkload rfl rfl (by assumption) rfl rfl ?_ | refine vi_off rfl ?_ | refine vi_calloff rfl ?_ | refine vi_chkoff rfl ?_))
  refine vi_call sysJ rfl rfl ?_
  refine piece hins run0 rfl (fun _ _ h => h) _ fun h0 n0 s0 => ?_
  (repeat (first
    | refine vi_op rfl rfl rfl rfl rfl ?_
    | refine vi_inc rfl rfl (by omega) ?_
    | refine vi_dec rfl rfl (by omega) ?_
    | refine vi_not rfl rfl ?_
    | refine vi_load rfl rfl (by assumption) rfl ?_
    | refine vi_storeL rfl rfl rfl rfl rfl ?_
    | refine vi_nil ?_ | refine sq_seq ?_ | refine sw_seq ?_ | refine sw_items ?_ | refine sw_ret ?_ | refine sq_seq_r ?_ | refine sq_seq_x ?_ | refine sw_skip ?_ | refine sw_exit ?_
    | refine sw_block ?_ | refine sq_block ?_ | refine sq_block_r ?_ | refine sq_block_x ?_ | refine sq_block_o rfl ?_ | refine vq_loop_x ?_ | refine vq_loop_r ?_ | refine vi_chk rfl rfl rfl rfl ?_ | refine vi_chkload rfl rfl (by assumption) rfl rfl ?_ | refine vi_off rfl ?_ | refine vi_calloff rfl ?_ | refine vi_chkoff rfl ?_))
  refine vi_call sysJ rfl rfl ?_
  refine piece hins run1 n0 s0 _ fun h1 n1 s1 => ?_
  (repeat (first
    | refine vi_op rfl rfl rfl rfl rfl ?_
    | refine vi_inc rfl rfl (by omega) ?_
    | refine vi_dec rfl rfl (by omega) ?_
    | refine vi_not rfl rfl ?_
    | refine vi_load rfl rfl (by assumption) rfl ?_
    | refine vi_storeL rfl rfl rfl rfl rfl ?_
    | refine vi_nil ?_ | refine sq_seq ?_ | refine sw_seq ?_ | refine sw_items ?_ | refine sw_ret ?_ | refine sq_seq_r ?_ | refine sq_seq_x ?_ | refine sw_skip ?_ | refine sw_exit ?_
    | refine sw_block ?_ | refine sq_block ?_ | refine sq_block_r ?_ | refine sq_block_x ?_ | refine sq_block_o rfl ?_ | refine vq_loop_x ?_ | refine vq_loop_r ?_ | refine vi_chk rfl rfl rfl rfl ?_ | refine vi_chkload rfl rfl (by assumption) rfl rfl ?_ | refine vi_off rfl ?_ | refine vi_calloff rfl ?_ | refine vi_chkoff rfl ?_))
  refine vw_condF rfl ?_
  (repeat (first
    | refine vi_op rfl rfl rfl rfl rfl ?_
    | refine vi_inc rfl rfl (by omega) ?_
    | refine vi_dec rfl rfl (by omega) ?_
    | refine vi_not rfl rfl ?_
    | refine vi_load rfl rfl (by assumption) rfl ?_
    | refine vi_storeL rfl rfl rfl rfl rfl ?_
    | refine vi_nil ?_ | refine sq_seq ?_ | refine sw_seq ?_ | refine sw_items ?_ | refine sw_ret ?_ | refine sq_seq_r ?_ | refine sq_seq_x ?_ | refine sw_skip ?_ | refine sw_exit ?_
    | refine sw_block ?_ | refine sq_block ?_ | refine sq_block_r ?_ | refine sq_block_x ?_ | refine sq_block_o rfl ?_ | refine vq_loop_x ?_ | refine vq_loop_r ?_ | refine vi_chk rfl rfl rfl rfl ?_ | refine vi_chkload rfl rfl (by assumption) rfl rfl ?_ | refine vi_off rfl ?_ | refine vi_calloff rfl ?_ | refine vi_chkoff rfl ?_))
  refine vi_call sysJ rfl rfl ?_
  refine piece hins run2 n1 s1 _ fun h2 n2 s2 => ?_
  (repeat (first
    | refine vi_op rfl rfl rfl rfl rfl ?_
    | refine vi_inc rfl rfl (by omega) ?_
    | refine vi_dec rfl rfl (by omega) ?_
    | refine vi_not rfl rfl ?_
    | refine vi_load rfl rfl (by assumption) rfl ?_
    | refine vi_storeL rfl rfl rfl rfl rfl ?_
    | refine vi_nil ?_ | refine sq_seq ?_ | refine sw_seq ?_ | refine sw_items ?_ | refine sw_ret ?_ | refine sq_seq_r ?_ | refine sq_seq_x ?_ | refine sw_skip ?_ | refine sw_exit ?_
    | refine sw_block ?_ | refine sq_block ?_ | refine sq_block_r ?_ | refine sq_block_x ?_ | refine sq_block_o rfl ?_ | refine vq_loop_x ?_ | refine vq_loop_r ?_ | refine vi_chk rfl rfl rfl rfl ?_ | refine vi_chkload rfl rfl (by assumption) rfl rfl ?_ | refine vi_off rfl ?_ | refine vi_calloff rfl ?_ | refine vi_chkoff rfl ?_))
  refine vi_call sysJ rfl rfl ?_
  refine piece hins run3 n2 s2 _ fun h3 n3 s3 => ?_
  (repeat (first
    | refine vi_op rfl rfl rfl rfl rfl ?_
    | refine vi_inc rfl rfl (by omega) ?_
    | refine vi_dec rfl rfl (by omega) ?_
    | refine vi_not rfl rfl ?_
    | refine vi_load rfl rfl (by assumption) rfl ?_
    | refine vi_storeL rfl rfl rfl rfl rfl ?_
    | refine vi_nil ?_ | refine sq_seq ?_ | refine sw_seq ?_ | refine sw_items ?_ | refine sw_ret ?_ | refine sq_seq_r ?_ | refine sq_seq_x ?_ | refine sw_skip ?_ | refine sw_exit ?_
    | refine sw_block ?_ | refine sq_block ?_ | refine sq_block_r ?_ | refine sq_block_x ?_ | refine sq_block_o rfl ?_ | refine vq_loop_x ?_ | refine vq_loop_r ?_ | refine vi_chk rfl rfl rfl rfl ?_ | refine vi_chkload rfl rfl (by assumption) rfl rfl ?_ | refine vi_off rfl ?_ | refine vi_calloff rfl ?_ | refine vi_chkoff rfl ?_))
  refine vi_call sysJ rfl rfl ?_
  refine piece4 hins run4 n3 s3 _ fun h4 n4 s4 => ?_
  (repeat (first
    | refine vi_op rfl rfl rfl rfl rfl ?_
    | refine vi_inc rfl rfl (by omega) ?_
    | refine vi_dec rfl rfl (by omega) ?_
    | refine vi_not rfl rfl ?_
    | refine vi_load rfl rfl (by assumption) rfl ?_
    | refine vi_storeL rfl rfl rfl rfl rfl ?_
    | refine vi_nil ?_ | refine sq_seq ?_ | refine sw_seq ?_ | refine sw_items ?_ | refine sw_ret ?_ | refine sq_seq_r ?_ | refine sq_seq_x ?_ | refine sw_skip ?_ | refine sw_exit ?_
    | refine sw_block ?_ | refine sq_block ?_ | refine sq_block_r ?_ | refine sq_block_x ?_ | refine sq_block_o rfl ?_ | refine vq_loop_x ?_ | refine vq_loop_r ?_ | refine vi_chk rfl rfl rfl rfl ?_ | refine vi_chkload rfl rfl (by assumption) rfl rfl ?_ | refine vi_off rfl ?_ | refine vi_calloff rfl ?_ | refine vi_chkoff rfl ?_))
  refine vw_condF rfl ?_
  (repeat (first
    | refine vi_op rfl rfl rfl rfl rfl ?_
    | refine vi_inc rfl rfl (by omega) ?_
    | refine vi_dec rfl rfl (by omega) ?_
    | refine vi_not rfl rfl ?_
    | refine vi_load rfl rfl (by assumption) rfl ?_
    | refine vi_storeL rfl rfl rfl rfl rfl ?_
    | refine vi_nil ?_ | refine sq_seq ?_ | refine sw_seq ?_ | refine sw_items ?_ | refine sw_ret ?_ | refine sq_seq_r ?_ | refine sq_seq_x ?_ | refine sw_skip ?_ | refine sw_exit ?_
    | refine sw_block ?_ | refine sq_block ?_ | refine sq_block_r ?_ | refine sq_block_x ?_ | refine sq_block_o rfl ?_ | refine vq_loop_x ?_ | refine vq_loop_r ?_ | refine vi_chk rfl rfl rfl rfl ?_ | refine vi_chkload rfl rfl (by assumption) rfl rfl ?_ | refine vi_off rfl ?_ | refine vi_calloff rfl ?_ | refine vi_chkoff rfl ?_))
  refine vi_call sysJ rfl rfl ?_
  refine piece hins run5 n4 s4 _ fun h5 n5 s5 => ?_
  (repeat (first
    | refine vi_op rfl rfl rfl rfl rfl ?_
    | refine vi_inc rfl rfl (by omega) ?_
    | refine vi_dec rfl rfl (by omega) ?_
    | refine vi_not rfl rfl ?_
    | refine vi_load rfl rfl (by assumption) rfl ?_
    | refine vi_storeL rfl rfl rfl rfl rfl ?_
    | refine vi_nil ?_ | refine sq_seq ?_ | refine sw_seq ?_ | refine sw_items ?_ | refine sw_ret ?_ | refine sq_seq_r ?_ | refine sq_seq_x ?_ | refine sw_skip ?_ | refine sw_exit ?_
    | refine sw_block ?_ | refine sq_block ?_ | refine sq_block_r ?_ | refine sq_block_x ?_ | refine sq_block_o rfl ?_ | refine vq_loop_x ?_ | refine vq_loop_r ?_ | refine vi_chk rfl rfl rfl rfl ?_ | refine vi_chkload rfl rfl (by assumption) rfl rfl ?_ | refine vi_off rfl ?_ | refine vi_calloff rfl ?_ | refine vi_chkoff rfl ?_))
  refine vw_condF rfl ?_
  (repeat (first
    | refine vi_op rfl rfl rfl rfl rfl ?_
    | refine vi_inc rfl rfl (by omega) ?_
    | refine vi_dec rfl rfl (by omega) ?_
    | refine vi_not rfl rfl ?_
    | refine vi_load rfl rfl (by assumption) rfl ?_
    | refine vi_storeL rfl rfl rfl rfl rfl ?_
    | refine vi_nil ?_ | refine sq_seq ?_ | refine sw_seq ?_ | refine sw_items ?_ | refine sw_ret ?_ | refine sq_seq_r ?_ | refine sq_seq_x ?_ | refine sw_skip ?_ | refine sw_exit ?_
    | refine sw_block ?_ | refine sq_block ?_ | refine sq_block_r ?_ | refine sq_block_x ?_ | refine sq_block_o rfl ?_ | refine vq_loop_x ?_ | refine vq_loop_r ?_ | refine vi_chk rfl rfl rfl rfl ?_ | refine vi_chkload rfl rfl (by assumption) rfl rfl ?_ | refine vi_off rfl ?_ | refine vi_calloff rfl ?_ | refine vi_chkoff rfl ?_))
  refine vi_call sysJ rfl rfl ?_
  refine piece hins run6 n5 s5 _ fun h6 n6 s6 => ?_
  (repeat (first
    | refine vi_op rfl rfl rfl rfl rfl ?_
    | refine vi_inc rfl rfl (by omega) ?_
    | refine vi_dec rfl rfl (by omega) ?_
    | refine vi_not rfl rfl ?_
    | refine vi_load rfl rfl (by assumption) rfl ?_
    | refine vi_storeL rfl rfl rfl rfl rfl ?_
    | refine vi_nil ?_ | refine sq_seq ?_ | refine sw_seq ?_ | refine sw_items ?_ | refine sw_ret ?_ | refine sq_seq_r ?_ | refine sq_seq_x ?_ | refine sw_skip ?_ | refine sw_exit ?_
    | refine sw_block ?_ | refine sq_block ?_ | refine sq_block_r ?_ | refine sq_block_x ?_ | refine sq_block_o rfl ?_ | refine vq_loop_x ?_ | refine vq_loop_r ?_ | refine vi_chk rfl rfl rfl rfl ?_ | refine vi_chkload rfl rfl (by assumption) rfl rfl ?_ | refine vi_off rfl ?_ | refine vi_calloff rfl ?_ | refine vi_chkoff rfl ?_))
  refine vq_end rfl ?_
  rfl
theorem alive_spec (hins : InsOk) (h : Heap) (Q : AV → Heap → Prop) (hq : Q (.bool true) h) : C 5 [] h Q :=
  ACall.closed globOk (u := .bool true) rfl rfl (alive0 hins) h Q hq
end Go.AM.J

set_option linter.unusedVariables false
set_option linter.unusedSimpArgs false
namespace Go.Proofs.YtcipamnhmeplkaaGreatDoor
open Go Go.ChangeShapes Go.WideShapes Go.ChangeAt Go.RowKit
open Go.AM (Sim WRel VRel VRelL VMem VEls)

theorem own : ownKnob Tryz.prog.godebug = none := by kernel_rfl
theorem laidOut : laidOutB Tryz.prog = true := by kernel_rfl
theorem gBits : Tryz.prog.globalNamed "lapstone/num.bits" = some 0 := by kernel_rfl
theorem tBits : (Tryz.prog.globals[0]?).map (·.type) = some 257 := by kernel_rfl
abbrev laid1 : List (String × DataW Unit) := [("lapstone/num.bits", Rows.laid_lapstone_num_bits)]
theorem door_met (os : Os) (args : Array Value) : laidMetH Tryz.prog laid1 ((World.doorLaid Tryz.prog 400 os).forCall (fun _ _ => 0) ⟨#[], args, []⟩).memory :=
  laidMetH_of_parts3 (fuel := 8) (laidMet_of_run' 8 (by kernel_rfl) (by kernel_rfl)) (by kernel_rfl) (by kernel_rfl)

/-- What the table's cells hold when the call begins. -/
theorem of_laid {W : World} (h : laidMetH Tryz.prog laid1 W) : ∀ i : Nat, i < 9 → W.cell? ⟨0, i, none⟩ = some (.int .u64 ((8 * i : Nat) : Int)) := by
  rw [MakeChecks.laidMetH_plain _ _ _ (by kernel_rfl)] at h
  obtain ⟨ps, ⟨g0, t0, cs0, f0, p0, q0, hg0, ht0, hv0, hd0, _, _⟩, _, _⟩ := h
  obtain rfl := Option.some.inj (gBits.symm.trans hg0)
  obtain rfl := Option.some.inj (tBits.symm.trans ht0)
  obtain ⟨xs, m1, rfl, hx1, hlen, hn9, hel⟩ := DataW.trod_array Tryz.underlying257 hd0
  have c1 : Tryz.prog.cellsOf 256 = 1 := by kernel_rfl
  have c9 : Tryz.prog.cellsOf 257 = 9 := by kernel_rfl
  intro i hi
  have h0 := hel i hi
  rw [c1] at h0
  rw [c9] at hlen
  have hx : xs[i]? = some xs[i] := List.getElem?_eq_getElem (by omega)
  rw [hx] at h0
  obtain ⟨k, e1, e2, _⟩ := DataW.trod_int Tryz.underlying256 h0
  have hcell := World.var?_cell hg0 hv0 i
  have hci : cs0[i]? = some (.int .u64 k) := by
    have : (cs0.toList.drop (i * 1)).take 1 = [.int .u64 k] := e1
    rw [Nat.mul_one] at this
    have h2 : (cs0.toList.drop i)[0]? = some (.int .u64 k) := by
      have h3 : ((cs0.toList.drop i).take 1)[0]? = some (.int .u64 k) := by rw [this]; rfl
      rwa [List.getElem?_take_of_lt (by omega)] at h3
    rw [List.getElem?_drop, Nat.add_zero] at h2
    simpa using h2
  rw [hcell, hci]
  have hk : (xs.map (·.1))[i]? = some (.lit (.int .u64 k)) := by
    rw [List.getElem?_map, hx, e2]; rfl
  have hd : DataW.agg (xs.map (·.1)) = Rows.laid_lapstone_num_bits := (congrArg Prod.fst hx1).symm
  have hd2 : xs.map (·.1) = _ := DataW.agg.inj hd
  rw [hd2] at hk
  have : k = ((8 * i : Nat) : Int) := by
    rcases (by omega : i = 0 ∨ i = 1 ∨ i = 2 ∨ i = 3 ∨ i = 4 ∨ i = 5 ∨ i = 6 ∨ i = 7 ∨ i = 8) with rfl | rfl | rfl | rfl | rfl | rfl | rfl | rfl | rfl <;> (simp at hk; exact hk.symm)
  rw [this]

/-- A slice of integers that came in: nil, or a row of cells. -/
def IsRow (k : IntKind) (w : World) (a : Option Addr) (len cap : Nat) (zs : List Int) : Prop :=
  (a = none ∧ len = 0 ∧ cap = 0 ∧ zs = []) ∨
  ∃ x, a = some x ∧ len ≤ cap ∧ cap ≤ maxLen ∧ zs.length = cap ∧ (∀ i, i < zs.length → w.cell? (x.add i) = some (.int k (zs.getD i 0))) ∧ ∀ n ∈ zs, (Lit.int k n).wf = true

/-- at the start nothing is owned, and all that is there is not written -/
def sim0 (w : World) : Sim := ⟨fun _ => .none, fun _ => none, fun b o => w.cell? ⟨b, o, none⟩⟩
theorem sim0_rel (w : World) (hl : ∀ i : Nat, i < 9 → w.cell? ⟨0, i, none⟩ = some (.int .u64 ((8 * i : Nat) : Int))) : WRel AM.J.G (sim0 w) ⟨.lf, 0⟩ w where
  obj r x hx := by rw [AM.Heap.get, AM.Tr.get_lf] at hx; cases hx
  inj r r' b x y x' y' k _ := by cases k
  tinj t t' x x' k _ _ := by cases k
  rt r b x y t z k _ := by cases k
  ob b k := by
    rcases k with ⟨r, base, lim, k⟩ | ⟨t, x, k, _⟩
    · cases k
    · cases k
  Fc b o v k := k
  Fr b o v r x y _ k := by cases k
  Ft b o v t x _ k _ := by cases k
  nr r _ := rfl
  nt t _ := rfl
  no r _ := AM.Tr.get_lf r
  gl g cs hg := by
    unfold AM.J.G at hg
    split at hg
    · rename_i h0
      cases hg
      subst h0
      refine AM.VMem.of fun i v hv => ?_
      have hi : i < 9 := by
        have := (List.getElem?_eq_some_iff.1 hv).1
        simpa using this
      refine ⟨.int .u64 ((8 * i : Nat) : Int), by rw [Nat.zero_add]; exact hl i hi, ?_⟩
      have : v = .int .u64 ((8 * i : Nat) : Int) := by
        rw [List.getElem?_map, List.getElem?_range hi] at hv
        simpa using hv.symm
      subst this
      simp only [VRel]
    · cases hg

theorem els_row (w : World) (b : Nat) : ∀ (zs : List Int) (off : Nat), (∀ i, i < zs.length → w.cell? ⟨b, off + i, none⟩ = some (.int .i64 (zs.getD i 0))) → VEls (sim0 w) (zs.map (AM.AV.int .i64)) b off 1
  | [], off, _ => by simp only [List.map_nil, VEls]
  | z :: zs, off, h => by
    simp only [List.map_cons, VEls]
    refine ⟨trivial, ⟨.int .i64 z, ?_, by simp only [VRel]⟩, els_row w b zs (off + 1) fun i hi => ?_⟩
    · have := h 0 (by simp)
      show w.cell? ⟨b, off, none⟩ = some (.int .i64 z)
      simpa using this
    · have := h (i + 1) (by simp; omega)
      rw [show off + 1 + i = off + (i + 1) by omega, this]
      simp

theorem walk (hins : AM.J.InsOk) (a0 : Option Addr) (len0 cap0 : Nat) (z0 : List Int) (w : World) (w0 : IsRow .i64 w a0 len0 cap0 z0) (hl : ∀ i : Nat, i < 9 → w.cell? ⟨0, i, none⟩ = some (.int .u64 ((8 * i : Nat) : Int))) :
    Calls Tryz.prog 3 #[.slice a0 len0 cap0] w fun e w' => e = .returned (.bool true) ∧ Below w.heap.size w w' := by
  have hrel : ∃ xs : List Int, VRelL (sim0 w) [.vs .unk (xs.map (AM.AV.int .i64))] [.slice a0 len0 cap0] := by
    rcases w0 with ⟨rfl, rfl, rfl, rfl⟩ | ⟨x, rfl, h1, h2, h3, h4, _⟩
    · refine ⟨[], ?_⟩
      simp only [List.map_nil, VRelL, VRel]
      exact ⟨_, [], rfl, ⟨none, 0, rfl, Nat.le_refl _, trivial, .inl trivial⟩, rfl⟩
    · refine ⟨z0.take len0, ?_⟩
      simp only [VRelL, VRel]
      have hlen : ((z0.take len0).map (AM.AV.int .i64)).length = len0 := by simp; omega
      refine ⟨_, [], rfl, ⟨some x, cap0, by rw [hlen], by rw [hlen]; exact h1, trivial, ?_⟩, rfl⟩
      by_cases h0 : len0 = 0
      · subst h0; left; simp
      · right
        obtain ⟨b, off, spot⟩ := x
        have hc := h4 0 (by omega)
        have hspot : spot = none := by simpa [Addr.add] using World.cell?_spot hc
        subst hspot
        refine ⟨b, off, 1, rfl, Nat.le_refl _, els_row w b _ _ fun i hi => ?_⟩
        have hi' : i < len0 := by simp at hi; omega
        have := h4 i (by omega)
        rw [show (⟨b, off, none⟩ : Addr).add i = ⟨b, off + i, none⟩ by simp [Addr.add]] at this
        rw [this, List.getD_eq_getElem?_getD, List.getD_eq_getElem?_getD, List.getElem?_take_of_lt hi']
  obtain ⟨xs, hrel⟩ := hrel
  have hc := AM.J.main_spec (AM.J.alive_spec hins) ⟨.lf, 0⟩ rfl xs (fun v _ => v = .bool true) (fun _ => rfl)
  refine (hc.2 (sim0 w) w _ (sim0_rel w hl) hrel).mono ?_
  rintro e w' ⟨c, v, S', h', rfl, rfl, he, _, hv⟩
  simp only [VRel] at hv
  subst hv
  have hown : ∀ b, ¬ AM.Owns (sim0 w) b := by
    rintro b (⟨r, base, lim, k⟩ | ⟨t, x, k, _⟩)
    · cases k
    · cases k
  exact ⟨rfl, ⟨he.os, he.tape, he.output, he.size, fun k hk => he.same k hk (hown k)⟩⟩

set_option maxRecDepth 100000 in
theorem lifted (hins : AM.J.InsOk) (os : Os) (started : os.Started) (H : Type) (enc : TypeId × Value → H) :
    ReturnsInHanded {} Tryz.checked os 3 .any (fun w args => (Rows.wholeJudgedSpec.pre enc Tryz.prog Tryz.f3 [] false w args ∧ laidMetH Tryz.prog laid1 w) ∧ sizedMet enc Tryz.prog Tryz.f3 (OpenSpec.ofChange Rows.wholeJudgedSpec) false w args)
      (Rows.wholeJudgedSpec.post enc Tryz.prog Tryz.f3 false true false false) := by
  refine returnsInHanded_of_change_and (C := Tryz.checked) (X := fun w _ => laidMetH Tryz.prog laid1 w) (fun _ _ _ hh h => h.of_heap hh) own started (by kernel_rfl) Tryz.func3
    (ChangeSpec.witness_shaped (enc := enc) (C := Tryz.checked) (os := os) (X := fun w _ => laidMetH Tryz.prog laid1 w) false (World.doorLaid Tryz.prog 400 os) #[.slice none 0 0] 8 rfl (World.shaped_of_RefB (by kernel_rfl) (by kernel_rfl)) (by kernel_rfl) (by kernel_rfl) (by kernel_rfl) (door_met os _)) ?_
  intro W base args ds gs before hval0 hW _ _ hL _
  have hval : ∀ (j : Nat) t v, Tryz.f3.params[j]? = some t → args[j]? = some v → Value.okWide Tryz.prog W .any base t v := hval0
  have hW' := hW
  obtain ⟨p, q, hA0, hV, rfl, hfz, hnd⟩ := hW
  have hA : DataW.TrodAll enc Tryz.prog W 0 (fun _ => true) true Tryz.f3.params.toList args.toList ds p := hA0
  rw [Tryz.params3] at hA hval
  obtain ⟨v0, d0, rfl, rfl, h0⟩ := trodAll_one hA
  obtain ⟨rfl, rfl⟩ := trodVars_none hV
  obtain ⟨a0, len0, cap0, rfl⟩ := okWide_slice Tryz.underlying22 (hval 0 22 v0 rfl rfl)
  have k0 := h0
  have lt0 : ∀ x ∈ p, x.block < W.heap.size := by obtain ⟨m, hm⟩ := k0; exact DataW.trod_lt m _ _ _ hm
  obtain ⟨z0, w0⟩ : ∃ zs, IsRow .i64 W a0 len0 cap0 zs := by
    obtain ⟨fuel, hf⟩ := h0
    rcases open_ints Tryz.underlying22 Tryz.underlying3 (by kernel_rfl) hf with ⟨hcs, _⟩ | ⟨x, l, c, zs, hcs, _, hl, hm, hz, _, hcell, hwz⟩
    · simp [Value.cells] at hcs
      obtain ⟨rfl, rfl, rfl⟩ := hcs
      exact ⟨[], .inl ⟨rfl, rfl, rfl, rfl⟩⟩
    · simp [Value.cells] at hcs
      obtain ⟨rfl, rfl, rfl⟩ := hcs
      exact ⟨zs, .inr ⟨_, rfl, hl, hm, by simpa using hz, hcell, hwz⟩⟩
  clear hA0 hval0
  simp only [List.append_nil] at hW'
  refine (walk hins a0 len0 cap0 z0 W w0 (of_laid hL)).mono fun e W' ⟨he, bel⟩ => ?_
  subst he
  exact ⟨_, rfl, _, _, _, [], _, [], hW', trodAll_mk1 (shut_bool Tryz.underlying4 _), (trodAll_cons_mk (Below.trod laidOut (by kernel_rfl) (of_decide_eq_true (by kernel_rfl)) k0 bel lt0) trodAll_mk0), rfl, bel.frame _, fun h => by cases h⟩

theorem said (hins : AM.J.InsOk) : Rows.WholeJudgedSaid :=
  OpenClaim.holds_of_wide 3 Tryz.f3 rfl rfl rfl rfl rfl rfl rfl ⟨rfl, rfl, rfl, rfl, rfl⟩ rfl rfl rfl rfl rfl (by kernel_rfl) Tryz.func3 (by kernel_rfl)
    (of_decide_eq_true (by kernel_rfl)) (by unfold Func.isWrapper; first | (rw [if_pos (by decide +kernel)]; kernel_rfl) | (rw [if_neg (by decide +kernel)]; exact ⟨rfl, rfl⟩))
    (fun os started H enc _ => lifted hins os started H enc)

theorem card (hins : AM.J.InsOk) : Rows.WholeJudgedCardSaid :=
  Claim7.holds_tied_plain_at .later [] [.data] true (true, "9872984334b22fe3eef162b1016419bb5acd405e7fe3f0688eb91e2b30002314") false
    (said hins) (fun _ h => by cases h) (by kernel_rfl) (fun _ h => by cases h) wholeJudged_row_tie rfl ⟨rfl, rfl⟩ (by kernel_rfl) rfl
    (fun f fn hf hfn => by
      obtain rfl : f = 3 := Option.some.inj ((show Tryz.prog.funcNamed "lapstone/lapstonetop.WholeJudged" = some 3 by kernel_rfl).symm.trans hf) |>.symm
      obtain rfl : fn = Tryz.f3 := (Option.some.inj (Tryz.func3.symm.trans hfn)).symm
      exact ⟨by kernel_rfl, fun j t ht => by
        rw [Tryz.params3] at ht
        have hm : t ∈ [22] := by simpa using Array.mem_of_getElem? ht
        have hall : ([22].all fun u => !Tryz.prog.wantsStandIn u) = true := by kernel_rfl
        exact (show Tryz.prog.wantsStandIn t = false by simpa using List.all_eq_true.1 hall t hm)⟩)
    (by kernel_rfl)
/-- THE CARD: WholeJudged returns true for every slice of integers. -/
theorem wholeJudged_holds : Rows.WholeJudgedCardSaid := card AM.J.ins_ok
end Go.Proofs.YtcipamnhmeplkaaGreatDoor
