/- Own work. This text shows: a judge says what plain reckoning says. -/
import Derived.Test.YtcipamnhmeplkaaGreatDoorL3
import Derived.Test.YtcipamnhmeplkaaGreatDoorL5
import Derived.Test.YtcipamnhmeplkaaGreatDoorL4
import Derived.Test.YtcipamnhmeplkaaGreatDoorL6
set_option linter.unusedVariables false
set_option linter.unusedSimpArgs false
namespace Go.AM.J
open Go Go.AM

def bcells (c r s : Nat) (ws : List Wr) : List AV := [.int .u64 (c : Int), .int .u64 (r : Int), .int .u64 (s : Int), .vs .unk (ws.map Wr.av)]
def tcells (x : Nat × Ver) : List AV := [.int .u64 (x.1 : Int), .int .u64 (x.2.at_ : Int), .int .i64 x.2.err]

theorem cl1_spec (h : Heap) (p1 p2 p3 : Nat) (c r s : Nat) (ws : List Wr) (old : Nat × Ver) (was : Bool) (g1 : h.get p1 = some (.cells (bcells c r s ws))) (g2 : h.get p2 = some (.cells (tcells old))) (g3 : h.get p3 = some (.cells [.bool was]))
    (Q : AV → Heap → Prop) (hq : Q (.bool (was && decide (r < old.1))) h) : C 25 [.ptr p3 0, .ptr p1 0, .ptr p2 0] h Q := by
  refine vw_start sysJ fn25 rfl ?_
  cases was with
  | false =>
    (repeat (first
    | refine vi_op rfl rfl rfl rfl rfl ?_
    | refine vi_inc rfl rfl (by omega) ?_
    | refine vi_dec rfl rfl (by omega) ?_
    | refine vi_not rfl rfl ?_
    | refine vi_load rfl rfl (by assumption) rfl ?_
    | refine vi_storeL rfl rfl rfl rfl rfl ?_
    | refine vi_nil ?_ | refine sq_seq ?_ | refine sw_seq ?_ | refine sw_items ?_ | refine sw_ret ?_ | refine sq_seq_r ?_ | refine sq_seq_x ?_ | refine sw_skip ?_ | refine sw_exit ?_
    | refine sw_block ?_ | refine sq_block ?_ | refine sq_block_r ?_ | refine sq_block_x ?_ | refine sq_block_o rfl ?_ | refine vq_loop_x ?_ | refine vq_loop_r ?_ | refine vi_chk rfl rfl rfl rfl ?_ | refine vi_chkload rfl rfl (by assumption) rfl rfl ?_ | refine vi_off rfl ?_ | refine vi_calloff rfl ?_ | refine vi_chkoff rfl ?_))
    refine vq_end rfl ?_
    exact hq
  | true =>
    have hx : AV.bool (decide ((r : Int) < (old.1 : Int))) = AV.bool (decide (r < old.1)) := by
      congr 1; exact decide_eq_decide.2 (by omega)
    (repeat (first
    | refine vi_opE rfl rfl rfl rfl rfl (by assumption) ?_
    | refine vi_op rfl rfl rfl rfl rfl ?_
    | refine vi_inc rfl rfl (by omega) ?_
    | refine vi_dec rfl rfl (by omega) ?_
    | refine vi_not rfl rfl ?_
    | refine vi_load rfl rfl (by assumption) rfl ?_
    | refine vi_storeL rfl rfl rfl rfl rfl ?_
    | refine vi_nil ?_ | refine sq_seq ?_ | refine sw_seq ?_ | refine sw_items ?_ | refine sw_ret ?_ | refine sq_seq_r ?_ | refine sq_seq_x ?_ | refine sw_skip ?_ | refine sw_exit ?_
    | refine sw_block ?_ | refine sq_block ?_ | refine sq_block_r ?_ | refine sq_block_x ?_ | refine sq_block_o rfl ?_ | refine vq_loop_x ?_ | refine vq_loop_r ?_ | refine vi_chk rfl rfl rfl rfl ?_ | refine vi_chkload rfl rfl (by assumption) rfl rfl ?_ | refine vi_off rfl ?_ | refine vi_calloff rfl ?_ | refine vi_chkoff rfl ?_))
    refine vq_end rfl ?_
    rw [Bool.true_and] at hq
    exact hq
theorem cl2_spec (h : Heap) (p0 p1 : Nat) (c r s n : Nat) (ws : List Wr) (m1 m2 : AV) (g0 : h.get p0 = some (.cells [.ptr 2 0])) (g1 : h.get p1 = some (.cells (bcells c r s ws))) (gj : h.get 2 = some (.cells [.int .u64 (n : Int), m1, m2]))
    (Q : AV → Heap → Prop) (hq : Q (.bool (decide (n < s))) h) : C 26 [.ptr p1 0, .ptr p0 0] h Q := by
  refine vw_start sysJ fn26 rfl ?_
  have hx : AV.bool (decide ((s : Int) > (n : Int))) = AV.bool (decide (n < s)) := by
    congr 1; exact decide_eq_decide.2 (by omega)
  (repeat (first
    | refine vi_opE rfl rfl rfl rfl rfl (by assumption) ?_
    | refine vi_op rfl rfl rfl rfl rfl ?_
    | refine vi_inc rfl rfl (by omega) ?_
    | refine vi_dec rfl rfl (by omega) ?_
    | refine vi_not rfl rfl ?_
    | refine vi_load rfl rfl (by assumption) rfl ?_
    | refine vi_storeL rfl rfl rfl rfl rfl ?_
    | refine vi_nil ?_ | refine sq_seq ?_ | refine sw_seq ?_ | refine sw_items ?_ | refine sw_ret ?_ | refine sq_seq_r ?_ | refine sq_seq_x ?_ | refine sw_skip ?_ | refine sw_exit ?_
    | refine sw_block ?_ | refine sq_block ?_ | refine sq_block_r ?_ | refine sq_block_x ?_ | refine sq_block_o rfl ?_ | refine vq_loop_x ?_ | refine vq_loop_r ?_ | refine vi_chk rfl rfl rfl rfl ?_ | refine vi_chkload rfl rfl (by assumption) rfl rfl ?_ | refine vi_off rfl ?_ | refine vi_calloff rfl ?_ | refine vi_chkoff rfl ?_))
  refine vq_end rfl ?_
  exact hq
theorem cl3_spec (h : Heap) (p0 : Nat) (n : Nat) (m1 m2 : AV) (g0 : h.get p0 = some (.cells [.ptr 2 0])) (gj : h.get 2 = some (.cells [.int .u64 (n : Int), m1, m2])) (hn : n < 1000)
    (Q : AV → Heap → Prop) (hq : Q (.bool false) h) : C 27 [.ptr p0 0] h Q := by
  refine vw_start sysJ fn27 rfl ?_
  have hx : AV.bool (decide ((n : Int) ≥ 9223372036854775807)) = AV.bool false := by
    congr 1; exact decide_eq_false (by omega)
  (repeat (first
    | refine vi_opE rfl rfl rfl rfl rfl (by assumption) ?_
    | refine vi_op rfl rfl rfl rfl rfl ?_
    | refine vi_inc rfl rfl (by omega) ?_
    | refine vi_dec rfl rfl (by omega) ?_
    | refine vi_not rfl rfl ?_
    | refine vi_load rfl rfl (by assumption) rfl ?_
    | refine vi_storeL rfl rfl rfl rfl rfl ?_
    | refine vi_nil ?_ | refine sq_seq ?_ | refine sw_seq ?_ | refine sw_items ?_ | refine sw_ret ?_ | refine sq_seq_r ?_ | refine sq_seq_x ?_ | refine sw_skip ?_ | refine sw_exit ?_
    | refine sw_block ?_ | refine sq_block ?_ | refine sq_block_r ?_ | refine sq_block_x ?_ | refine sq_block_o rfl ?_ | refine vq_loop_x ?_ | refine vq_loop_r ?_ | refine vi_chk rfl rfl rfl rfl ?_ | refine vi_chkload rfl rfl (by assumption) rfl rfl ?_ | refine vi_off rfl ?_ | refine vi_calloff rfl ?_ | refine vi_chkoff rfl ?_))
  refine vq_end rfl ?_
  exact hq

theorem seen_put {j : IntKind} {es : List (AV × AV × Nat)} {sm : Sm} {f : Nat × Ver → AV} (hki : KI j es) (hfs : ∀ c : Nat, mfind (.int j (c : Int)) es = some ((sm c).map f)) {c ck : Nat} {v : AV} {x : Nat × Ver} (hv : v = f x) (d : Nat) :
    mfind (.int j (d : Int)) (mput (.int j (c : Int)) v ck es) = some ((setSm sm c x d).map f) := by
  subst hv
  rw [hki.find_put, hfs d]
  unfold setSm
  by_cases hdc : d = c
  · subst hdc; simp
  · rw [if_neg (by omega), if_neg hdc]
def rest9 : IR := match i9.body with
  | .seq _ (.seq _ (.seq _ (.seq _ r))) => r
  | _ => .skip
def syT (p0 p1 p2 p3 : Nat) : List (Nat × AV) := [(2, .ptr p0 0), (3, .ptr p1 0), (4, .agg [.int .u64 0, .int .i64 0]), (6, .ptr p2 0), (7, .ptr p3 0)]
def sayFns (p0 p1 p2 p3 : Nat) : AV := .agg [.fn (.func 25) [] [.ptr p3 0, .ptr p1 0, .ptr p2 0], .int .i64 193, .fn (.func 26) [] [.ptr p1 0, .ptr p0 0], .int .i64 190, .fn (.func 27) [] [.ptr p0 0], .int .i64 192]
def syT2 (p0 p1 p2 p3 i : Nat) : List (Nat × AV) := [(2, .ptr p0 0), (3, .ptr p1 0), (4, .agg [.int .u64 0, .int .i64 0]), (6, .ptr p2 0), (7, .ptr p3 0), (43, sayFns p0 p1 p2 p3), (44, .int .i64 (i : Nat))]
set_option maxHeartbeats 4000000 in
theorem say_rest (h : Heap) (p0 p1 p2 p3 : Nat) (c r s : Nat) (ws : List Wr) (old : Nat × Ver) (was : Bool) (bk : List (List Wr)) (sm : Sm) (g0 : h.get p0 = some (.cells [.ptr 2 0])) (g1 : h.get p1 = some (.cells (bcells c r s ws))) (g2 : h.get p2 = some (.cells (tcells old))) (g3 : h.get p3 = some (.cells [.bool was]))
    (hj : JH h bk sm) (hb : bk.length < 1000) (hl : ws.length < 1000) (h7 : 7 ≤ p0 ∧ 7 ≤ p1 ∧ p0 < h.next ∧ p1 < h.next)
    (Q : AV → Heap → Prop) (hq1 : was = true → r < old.1 → Q (verAV ⟨0, 193⟩) h) (hq2 : (was = true → ¬ r < old.1) → ∀ h', Only [0, 1, 2] h h' → JH h' (stepR bk sm c r s ws).2.1 (stepR bk sm c r s ws).2.2 → Q (verAV (stepR bk sm c r s ws).1) h') :
    SW [] C rest9 (endPost i9 Q) (toEnv (mkV (syT p0 p1 p2 p3))) h := by
  have gj := hj.j
  have hi9 : rest9 = rest9 := rfl
  conv at hi9 => rhs; unfold rest9 i9
  simp only at hi9
  rw [hi9]
  clear hi9
  (repeat (first
    | refine vi_op rfl rfl rfl rfl rfl ?_
    | refine vi_inc rfl rfl (by omega) ?_
    | refine vi_dec rfl rfl (by omega) ?_
    | refine vi_not rfl rfl ?_
    | refine vi_load rfl rfl (by assumption) rfl ?_
    | refine vi_storeL rfl rfl rfl rfl rfl ?_
    | refine vi_nil ?_ | refine sq_seq ?_ | refine sw_seq ?_ | refine sw_items ?_ | refine sw_ret ?_ | refine sq_seq_r ?_ | refine sq_seq_x ?_ | refine sw_skip ?_ | refine sw_exit ?_
    | refine sw_block ?_ | refine sq_block ?_ | refine sq_block_r ?_ | refine sq_block_x ?_ | refine sq_block_o rfl ?_ | refine vq_loop_x ?_ | refine vq_loop_r ?_ | refine vi_chk rfl rfl rfl rfl ?_ | refine vi_chkload rfl rfl (by assumption) rfl rfl ?_ | refine vi_off rfl ?_ | refine vi_calloff rfl ?_ | refine vi_chkoff rfl ?_))
  refine vw_loop sysJ (fun n B h' => h' = h ∧ ∃ i, n = 3 - i ∧ i ≤ 3 ∧ (1 ≤ i → was = true → ¬ r < old.1) ∧ (2 ≤ i → ¬ bk.length < s) ∧
    B = mkV (syT2 p0 p1 p2 p3 i)) (syT2 p0 p1 p2 p3 0) 3 ⟨rfl, rfl, rfl, rfl, rfl, rfl, rfl, trivial⟩ ⟨rfl, 0, rfl, by omega, fun h => by omega, fun h => by omega, rfl⟩ ?_
  rintro n B h' ⟨rfl, i, hn, hi, hk1, hk2, rfl⟩
  rcases (by omega : i = 0 ∨ i = 1 ∨ i = 2 ∨ i = 3) with rfl | rfl | rfl | rfl
  · (repeat (first
    | refine vi_op rfl rfl rfl rfl rfl ?_
    | refine vi_inc rfl rfl (by omega) ?_
    | refine vi_dec rfl rfl (by omega) ?_
    | refine vi_not rfl rfl ?_
    | refine vi_load rfl rfl (by assumption) rfl ?_
    | refine vi_storeL rfl rfl rfl rfl rfl ?_
    | refine vi_nil ?_ | refine sq_seq ?_ | refine sw_seq ?_ | refine sw_items ?_ | refine sw_ret ?_ | refine sq_seq_r ?_ | refine sq_seq_x ?_ | refine sw_skip ?_ | refine sw_exit ?_
    | refine sw_block ?_ | refine sq_block ?_ | refine sq_block_r ?_ | refine sq_block_x ?_ | refine sq_block_o rfl ?_ | refine vq_loop_x ?_ | refine vq_loop_r ?_ | refine vi_chk rfl rfl rfl rfl ?_ | refine vi_chkload rfl rfl (by assumption) rfl rfl ?_ | refine vi_off rfl ?_ | refine vi_calloff rfl ?_ | refine vi_chkoff rfl ?_))
    refine vw_condT rfl ?_
    (repeat (first
    | refine vi_op rfl rfl rfl rfl rfl ?_
    | refine vi_inc rfl rfl (by omega) ?_
    | refine vi_dec rfl rfl (by omega) ?_
    | refine vi_not rfl rfl ?_
    | refine vi_load rfl rfl (by assumption) rfl ?_
    | refine vi_storeL rfl rfl rfl rfl rfl ?_
    | refine vi_nil ?_ | refine sq_seq ?_ | refine sw_seq ?_ | refine sw_items ?_ | refine sw_ret ?_ | refine sq_seq_r ?_ | refine sq_seq_x ?_ | refine sw_skip ?_ | refine sw_exit ?_
    | refine sw_block ?_ | refine sq_block ?_ | refine sq_block_r ?_ | refine sq_block_x ?_ | refine sq_block_o rfl ?_ | refine vq_loop_x ?_ | refine vq_loop_r ?_ | refine vi_chk rfl rfl rfl rfl ?_ | refine vi_chkload rfl rfl (by assumption) rfl rfl ?_ | refine vi_off rfl ?_ | refine vi_calloff rfl ?_ | refine vi_chkoff rfl ?_))
    refine vi_call sysJ rfl rfl ?_
    refine cl1_spec _ p1 p2 p3 c r s ws old was g1 g2 g3 _ ?_
    (repeat (first
    | refine vi_op rfl rfl rfl rfl rfl ?_
    | refine vi_inc rfl rfl (by omega) ?_
    | refine vi_dec rfl rfl (by omega) ?_
    | refine vi_not rfl rfl ?_
    | refine vi_load rfl rfl (by assumption) rfl ?_
    | refine vi_storeL rfl rfl rfl rfl rfl ?_
    | refine vi_nil ?_ | refine sq_seq ?_ | refine sw_seq ?_ | refine sw_items ?_ | refine sw_ret ?_ | refine sq_seq_r ?_ | refine sq_seq_x ?_ | refine sw_skip ?_ | refine sw_exit ?_
    | refine sw_block ?_ | refine sq_block ?_ | refine sq_block_r ?_ | refine sq_block_x ?_ | refine sq_block_o rfl ?_ | refine vq_loop_x ?_ | refine vq_loop_r ?_ | refine vi_chk rfl rfl rfl rfl ?_ | refine vi_chkload rfl rfl (by assumption) rfl rfl ?_ | refine vi_off rfl ?_ | refine vi_calloff rfl ?_ | refine vi_chkoff rfl ?_))
    refine vw_cond _ rfl (fun hc => ?_) (fun hc => ?_)
    · simp only [Bool.and_eq_true, decide_eq_true_eq] at hc
      (repeat (first
    | refine vi_op rfl rfl rfl rfl rfl ?_
    | refine vi_inc rfl rfl (by omega) ?_
    | refine vi_dec rfl rfl (by omega) ?_
    | refine vi_not rfl rfl ?_
    | refine vi_load rfl rfl (by assumption) rfl ?_
    | refine vi_storeL rfl rfl rfl rfl rfl ?_
    | refine vi_nil ?_ | refine sq_seq ?_ | refine sw_seq ?_ | refine sw_items ?_ | refine sw_ret ?_ | refine sq_seq_r ?_ | refine sq_seq_x ?_ | refine sw_skip ?_ | refine sw_exit ?_
    | refine sw_block ?_ | refine sq_block ?_ | refine sq_block_r ?_ | refine sq_block_x ?_ | refine sq_block_o rfl ?_ | refine vq_loop_x ?_ | refine vq_loop_r ?_ | refine vi_chk rfl rfl rfl rfl ?_ | refine vi_chkload rfl rfl (by assumption) rfl rfl ?_ | refine vi_off rfl ?_ | refine vi_calloff rfl ?_ | refine vi_chkoff rfl ?_))
      refine vq_end rfl ?_
      exact hq1 hc.1 hc.2
    · simp only [Bool.and_eq_false_iff, decide_eq_false_iff_not] at hc
      (repeat (first
    | refine vi_op rfl rfl rfl rfl rfl ?_
    | refine vi_inc rfl rfl (by omega) ?_
    | refine vi_dec rfl rfl (by omega) ?_
    | refine vi_not rfl rfl ?_
    | refine vi_load rfl rfl (by assumption) rfl ?_
    | refine vi_storeL rfl rfl rfl rfl rfl ?_
    | refine vi_nil ?_ | refine sq_seq ?_ | refine sw_seq ?_ | refine sw_items ?_ | refine sw_ret ?_ | refine sq_seq_r ?_ | refine sq_seq_x ?_ | refine sw_skip ?_ | refine sw_exit ?_
    | refine sw_block ?_ | refine sq_block ?_ | refine sq_block_r ?_ | refine sq_block_x ?_ | refine sq_block_o rfl ?_ | refine vq_loop_x ?_ | refine vq_loop_r ?_ | refine vi_chk rfl rfl rfl rfl ?_ | refine vi_chkload rfl rfl (by assumption) rfl rfl ?_ | refine vi_off rfl ?_ | refine vi_calloff rfl ?_ | refine vi_chkoff rfl ?_))
      exact vq_loop 2 (syT2 p0 p1 p2 p3 1) (by omega) ⟨rfl, rfl, rfl, rfl, rfl, rfl, rfl, trivial⟩ ⟨rfl, 1, rfl, by omega, fun _ hw => hc.resolve_left (by simp [hw]), fun h => by omega, rfl⟩
  · (repeat (first
    | refine vi_op rfl rfl rfl rfl rfl ?_
    | refine vi_inc rfl rfl (by omega) ?_
    | refine vi_dec rfl rfl (by omega) ?_
    | refine vi_not rfl rfl ?_
    | refine vi_load rfl rfl (by assumption) rfl ?_
    | refine vi_storeL rfl rfl rfl rfl rfl ?_
    | refine vi_nil ?_ | refine sq_seq ?_ | refine sw_seq ?_ | refine sw_items ?_ | refine sw_ret ?_ | refine sq_seq_r ?_ | refine sq_seq_x ?_ | refine sw_skip ?_ | refine sw_exit ?_
    | refine sw_block ?_ | refine sq_block ?_ | refine sq_block_r ?_ | refine sq_block_x ?_ | refine sq_block_o rfl ?_ | refine vq_loop_x ?_ | refine vq_loop_r ?_ | refine vi_chk rfl rfl rfl rfl ?_ | refine vi_chkload rfl rfl (by assumption) rfl rfl ?_ | refine vi_off rfl ?_ | refine vi_calloff rfl ?_ | refine vi_chkoff rfl ?_))
    refine vw_condT rfl ?_
    (repeat (first
    | refine vi_op rfl rfl rfl rfl rfl ?_
    | refine vi_inc rfl rfl (by omega) ?_
    | refine vi_dec rfl rfl (by omega) ?_
    | refine vi_not rfl rfl ?_
    | refine vi_load rfl rfl (by assumption) rfl ?_
    | refine vi_storeL rfl rfl rfl rfl rfl ?_
    | refine vi_nil ?_ | refine sq_seq ?_ | refine sw_seq ?_ | refine sw_items ?_ | refine sw_ret ?_ | refine sq_seq_r ?_ | refine sq_seq_x ?_ | refine sw_skip ?_ | refine sw_exit ?_
    | refine sw_block ?_ | refine sq_block ?_ | refine sq_block_r ?_ | refine sq_block_x ?_ | refine sq_block_o rfl ?_ | refine vq_loop_x ?_ | refine vq_loop_r ?_ | refine vi_chk rfl rfl rfl rfl ?_ | refine vi_chkload rfl rfl (by assumption) rfl rfl ?_ | refine vi_off rfl ?_ | refine vi_calloff rfl ?_ | refine vi_chkoff rfl ?_))
    refine vi_call sysJ rfl rfl ?_
    refine cl2_spec _ p0 p1 c r s _ ws _ _ g0 g1 gj _ ?_
    (repeat (first
    | refine vi_op rfl rfl rfl rfl rfl ?_
    | refine vi_inc rfl rfl (by omega) ?_
    | refine vi_dec rfl rfl (by omega) ?_
    | refine vi_not rfl rfl ?_
    | refine vi_load rfl rfl (by assumption) rfl ?_
    | refine vi_storeL rfl rfl rfl rfl rfl ?_
    | refine vi_nil ?_ | refine sq_seq ?_ | refine sw_seq ?_ | refine sw_items ?_ | refine sw_ret ?_ | refine sq_seq_r ?_ | refine sq_seq_x ?_ | refine sw_skip ?_ | refine sw_exit ?_
    | refine sw_block ?_ | refine sq_block ?_ | refine sq_block_r ?_ | refine sq_block_x ?_ | refine sq_block_o rfl ?_ | refine vq_loop_x ?_ | refine vq_loop_r ?_ | refine vi_chk rfl rfl rfl rfl ?_ | refine vi_chkload rfl rfl (by assumption) rfl rfl ?_ | refine vi_off rfl ?_ | refine vi_calloff rfl ?_ | refine vi_chkoff rfl ?_))
    refine vw_cond _ rfl (fun hc => ?_) (fun hc => ?_)
    · have hc' : bk.length < s := of_decide_eq_true hc
      have hst : stepR bk sm c r s ws = (⟨0, 190⟩, bk, sm) := by unfold stepR; rw [if_pos hc']
      (repeat (first
    | refine vi_op rfl rfl rfl rfl rfl ?_
    | refine vi_inc rfl rfl (by omega) ?_
    | refine vi_dec rfl rfl (by omega) ?_
    | refine vi_not rfl rfl ?_
    | refine vi_load rfl rfl (by assumption) rfl ?_
    | refine vi_storeL rfl rfl rfl rfl rfl ?_
    | refine vi_nil ?_ | refine sq_seq ?_ | refine sw_seq ?_ | refine sw_items ?_ | refine sw_ret ?_ | refine sq_seq_r ?_ | refine sq_seq_x ?_ | refine sw_skip ?_ | refine sw_exit ?_
    | refine sw_block ?_ | refine sq_block ?_ | refine sq_block_r ?_ | refine sq_block_x ?_ | refine sq_block_o rfl ?_ | refine vq_loop_x ?_ | refine vq_loop_r ?_ | refine vi_chk rfl rfl rfl rfl ?_ | refine vi_chkload rfl rfl (by assumption) rfl rfl ?_ | refine vi_off rfl ?_ | refine vi_calloff rfl ?_ | refine vi_chkoff rfl ?_))
      refine vq_end rfl ?_
      have := hq2 (hk1 (by omega)) h' (.refl _ _)
      rw [hst] at this
      exact this hj
    · have hc' : ¬ bk.length < s := of_decide_eq_false hc
      (repeat (first
    | refine vi_op rfl rfl rfl rfl rfl ?_
    | refine vi_inc rfl rfl (by omega) ?_
    | refine vi_dec rfl rfl (by omega) ?_
    | refine vi_not rfl rfl ?_
    | refine vi_load rfl rfl (by assumption) rfl ?_
    | refine vi_storeL rfl rfl rfl rfl rfl ?_
    | refine vi_nil ?_ | refine sq_seq ?_ | refine sw_seq ?_ | refine sw_items ?_ | refine sw_ret ?_ | refine sq_seq_r ?_ | refine sq_seq_x ?_ | refine sw_skip ?_ | refine sw_exit ?_
    | refine sw_block ?_ | refine sq_block ?_ | refine sq_block_r ?_ | refine sq_block_x ?_ | refine sq_block_o rfl ?_ | refine vq_loop_x ?_ | refine vq_loop_r ?_ | refine vi_chk rfl rfl rfl rfl ?_ | refine vi_chkload rfl rfl (by assumption) rfl rfl ?_ | refine vi_off rfl ?_ | refine vi_calloff rfl ?_ | refine vi_chkoff rfl ?_))
      exact vq_loop 1 (syT2 p0 p1 p2 p3 2) (by omega) ⟨rfl, rfl, rfl, rfl, rfl, rfl, rfl, trivial⟩ ⟨rfl, 2, rfl, by omega, fun _ => hk1 (by omega), fun _ => hc', rfl⟩
  · (repeat (first
    | refine vi_op rfl rfl rfl rfl rfl ?_
    | refine vi_inc rfl rfl (by omega) ?_
    | refine vi_dec rfl rfl (by omega) ?_
    | refine vi_not rfl rfl ?_
    | refine vi_load rfl rfl (by assumption) rfl ?_
    | refine vi_storeL rfl rfl rfl rfl rfl ?_
    | refine vi_nil ?_ | refine sq_seq ?_ | refine sw_seq ?_ | refine sw_items ?_ | refine sw_ret ?_ | refine sq_seq_r ?_ | refine sq_seq_x ?_ | refine sw_skip ?_ | refine sw_exit ?_
    | refine sw_block ?_ | refine sq_block ?_ | refine sq_block_r ?_ | refine sq_block_x ?_ | refine sq_block_o rfl ?_ | refine vq_loop_x ?_ | refine vq_loop_r ?_ | refine vi_chk rfl rfl rfl rfl ?_ | refine vi_chkload rfl rfl (by assumption) rfl rfl ?_ | refine vi_off rfl ?_ | refine vi_calloff rfl ?_ | refine vi_chkoff rfl ?_))
    refine vw_condT rfl ?_
    (repeat (first
    | refine vi_op rfl rfl rfl rfl rfl ?_
    | refine vi_inc rfl rfl (by omega) ?_
    | refine vi_dec rfl rfl (by omega) ?_
    | refine vi_not rfl rfl ?_
    | refine vi_load rfl rfl (by assumption) rfl ?_
    | refine vi_storeL rfl rfl rfl rfl rfl ?_
    | refine vi_nil ?_ | refine sq_seq ?_ | refine sw_seq ?_ | refine sw_items ?_ | refine sw_ret ?_ | refine sq_seq_r ?_ | refine sq_seq_x ?_ | refine sw_skip ?_ | refine sw_exit ?_
    | refine sw_block ?_ | refine sq_block ?_ | refine sq_block_r ?_ | refine sq_block_x ?_ | refine sq_block_o rfl ?_ | refine vq_loop_x ?_ | refine vq_loop_r ?_ | refine vi_chk rfl rfl rfl rfl ?_ | refine vi_chkload rfl rfl (by assumption) rfl rfl ?_ | refine vi_off rfl ?_ | refine vi_calloff rfl ?_ | refine vi_chkoff rfl ?_))
    refine vi_call sysJ rfl rfl ?_
    refine cl3_spec _ p0 _ _ _ g0 gj (by omega) _ ?_
    (repeat (first
    | refine vi_op rfl rfl rfl rfl rfl ?_
    | refine vi_inc rfl rfl (by omega) ?_
    | refine vi_dec rfl rfl (by omega) ?_
    | refine vi_not rfl rfl ?_
    | refine vi_load rfl rfl (by assumption) rfl ?_
    | refine vi_storeL rfl rfl rfl rfl rfl ?_
    | refine vi_nil ?_ | refine sq_seq ?_ | refine sw_seq ?_ | refine sw_items ?_ | refine sw_ret ?_ | refine sq_seq_r ?_ | refine sq_seq_x ?_ | refine sw_skip ?_ | refine sw_exit ?_
    | refine sw_block ?_ | refine sq_block ?_ | refine sq_block_r ?_ | refine sq_block_x ?_ | refine sq_block_o rfl ?_ | refine vq_loop_x ?_ | refine vq_loop_r ?_ | refine vi_chk rfl rfl rfl rfl ?_ | refine vi_chkload rfl rfl (by assumption) rfl rfl ?_ | refine vi_off rfl ?_ | refine vi_calloff rfl ?_ | refine vi_chkoff rfl ?_))
    refine vw_condF rfl ?_
    (repeat (first
    | refine vi_op rfl rfl rfl rfl rfl ?_
    | refine vi_inc rfl rfl (by omega) ?_
    | refine vi_dec rfl rfl (by omega) ?_
    | refine vi_not rfl rfl ?_
    | refine vi_load rfl rfl (by assumption) rfl ?_
    | refine vi_storeL rfl rfl rfl rfl rfl ?_
    | refine vi_nil ?_ | refine sq_seq ?_ | refine sw_seq ?_ | refine sw_items ?_ | refine sw_ret ?_ | refine sq_seq_r ?_ | refine sq_seq_x ?_ | refine sw_skip ?_ | refine sw_exit ?_
    | refine sw_block ?_ | refine sq_block ?_ | refine sq_block_r ?_ | refine sq_block_x ?_ | refine sq_block_o rfl ?_ | refine vq_loop_x ?_ | refine vq_loop_r ?_ | refine vi_chk rfl rfl rfl rfl ?_ | refine vi_chkload rfl rfl (by assumption) rfl rfl ?_ | refine vi_off rfl ?_ | refine vi_calloff rfl ?_ | refine vi_chkoff rfl ?_))
    exact vq_loop 0 (syT2 p0 p1 p2 p3 3) (by omega) ⟨rfl, rfl, rfl, rfl, rfl, rfl, rfl, trivial⟩ ⟨rfl, 3, rfl, by omega, fun _ => hk1 (by omega), fun _ => hk2 (by omega), rfl⟩
  · have hs1 := hk1 (by omega)
    have hs2 := hk2 (by omega)
    (repeat (first
    | refine vi_op rfl rfl rfl rfl rfl ?_
    | refine vi_inc rfl rfl (by omega) ?_
    | refine vi_dec rfl rfl (by omega) ?_
    | refine vi_not rfl rfl ?_
    | refine vi_load rfl rfl (by assumption) rfl ?_
    | refine vi_storeL rfl rfl rfl rfl rfl ?_
    | refine vi_nil ?_ | refine sq_seq ?_ | refine sw_seq ?_ | refine sw_items ?_ | refine sw_ret ?_ | refine sq_seq_r ?_ | refine sq_seq_x ?_ | refine sw_skip ?_ | refine sw_exit ?_
    | refine sw_block ?_ | refine sq_block ?_ | refine sq_block_r ?_ | refine sq_block_x ?_ | refine sq_block_o rfl ?_ | refine vq_loop_x ?_ | refine vq_loop_r ?_ | refine vi_chk rfl rfl rfl rfl ?_ | refine vi_chkload rfl rfl (by assumption) rfl rfl ?_ | refine vi_off rfl ?_ | refine vi_calloff rfl ?_ | refine vi_chkoff rfl ?_))
    refine vw_condF rfl ?_
    (repeat (first
    | refine vi_op rfl rfl rfl rfl rfl ?_
    | refine vi_inc rfl rfl (by omega) ?_
    | refine vi_dec rfl rfl (by omega) ?_
    | refine vi_not rfl rfl ?_
    | refine vi_load rfl rfl (by assumption) rfl ?_
    | refine vi_storeL rfl rfl rfl rfl rfl ?_
    | refine vi_nil ?_ | refine sq_seq ?_ | refine sw_seq ?_ | refine sw_items ?_ | refine sw_ret ?_ | refine sq_seq_r ?_ | refine sq_seq_x ?_ | refine sw_skip ?_ | refine sw_exit ?_
    | refine sw_block ?_ | refine sq_block ?_ | refine sq_block_r ?_ | refine sq_block_x ?_ | refine sq_block_o rfl ?_ | refine vq_loop_x ?_ | refine vq_loop_r ?_ | refine vi_chk rfl rfl rfl rfl ?_ | refine vi_chkload rfl rfl (by assumption) rfl rfl ?_ | refine vi_off rfl ?_ | refine vi_calloff rfl ?_ | refine vi_chkoff rfl ?_))
    refine vi_call sysJ rfl rfl ?_
    refine written_spec _ bk sm hj c r s ws hl _ fun t ht => ?_
    cases t with
    | true =>
      have hsn := ht.1 rfl
      have hst : stepR bk sm c r s ws = (⟨0, 191⟩, bk, setSm sm c (r, ⟨0, 191⟩)) := by unfold stepR; rw [if_neg hs2, if_pos hsn]
      obtain ⟨ss, c1, gs, hki, hfs⟩ := hj.seen
      (repeat (first
    | refine vi_op rfl rfl rfl rfl rfl ?_
    | refine vi_inc rfl rfl (by omega) ?_
    | refine vi_dec rfl rfl (by omega) ?_
    | refine vi_not rfl rfl ?_
    | refine vi_load rfl rfl (by assumption) rfl ?_
    | refine vi_storeL rfl rfl rfl rfl rfl ?_
    | refine vi_nil ?_ | refine sq_seq ?_ | refine sw_seq ?_ | refine sw_items ?_ | refine sw_ret ?_ | refine sq_seq_r ?_ | refine sq_seq_x ?_ | refine sw_skip ?_ | refine sw_exit ?_
    | refine sw_block ?_ | refine sq_block ?_ | refine sq_block_r ?_ | refine sq_block_x ?_ | refine sq_block_o rfl ?_ | refine vq_loop_x ?_ | refine vq_loop_r ?_ | refine vi_chk rfl rfl rfl rfl ?_ | refine vi_chkload rfl rfl (by assumption) rfl rfl ?_ | refine vi_off rfl ?_ | refine vi_calloff rfl ?_ | refine vi_chkoff rfl ?_))
      refine vw_condF rfl ?_
      (repeat (first
    | refine vi_op rfl rfl rfl rfl rfl ?_
    | refine vi_inc rfl rfl (by omega) ?_
    | refine vi_dec rfl rfl (by omega) ?_
    | refine vi_not rfl rfl ?_
    | refine vi_load rfl rfl (by assumption) rfl ?_
    | refine vi_storeL rfl rfl rfl rfl rfl ?_
    | refine vi_nil ?_ | refine sq_seq ?_ | refine sw_seq ?_ | refine sw_items ?_ | refine sw_ret ?_ | refine sq_seq_r ?_ | refine sq_seq_x ?_ | refine sw_skip ?_ | refine sw_exit ?_
    | refine sw_block ?_ | refine sq_block ?_ | refine sq_block_r ?_ | refine sq_block_x ?_ | refine sq_block_o rfl ?_ | refine vq_loop_x ?_ | refine vq_loop_r ?_ | refine vi_chk rfl rfl rfl rfl ?_ | refine vi_chkload rfl rfl (by assumption) rfl rfl ?_ | refine vi_off rfl ?_ | refine vi_calloff rfl ?_ | refine vi_chkoff rfl ?_))
      refine vi_mupdH rfl rfl rfl rfl gs rfl (hfs c) fun h5 c' o5 n5 g5 => ?_
      (repeat (first
    | refine vi_op rfl rfl rfl rfl rfl ?_
    | refine vi_inc rfl rfl (by omega) ?_
    | refine vi_dec rfl rfl (by omega) ?_
    | refine vi_not rfl rfl ?_
    | refine vi_load rfl rfl (by assumption) rfl ?_
    | refine vi_storeL rfl rfl rfl rfl rfl ?_
    | refine vi_nil ?_ | refine sq_seq ?_ | refine sw_seq ?_ | refine sw_items ?_ | refine sw_ret ?_ | refine sq_seq_r ?_ | refine sq_seq_x ?_ | refine sw_skip ?_ | refine sw_exit ?_
    | refine sw_block ?_ | refine sq_block ?_ | refine sq_block_r ?_ | refine sq_block_x ?_ | refine sq_block_o rfl ?_ | refine vq_loop_x ?_ | refine vq_loop_r ?_ | refine vi_chk rfl rfl rfl rfl ?_ | refine vi_chkload rfl rfl (by assumption) rfl rfl ?_ | refine vi_off rfl ?_ | refine vi_calloff rfl ?_ | refine vi_chkoff rfl ?_))
      refine vq_end rfl ?_
      have := hq2 hs1 h5 ⟨o5.next, fun r hr hm => o5.same r hr (by simp at hm ⊢; omega)⟩
      rw [hst] at this
      refine this ⟨?_, ?_, ⟨_, _, g5, hki.put _ _ _, fun d => by refine seen_put (x := (r, ⟨0, 191⟩)) hki hfs ?_ d; rfl⟩⟩
      · rw [o5.same 2 (by omega) (by simp)]; exact hj.j
      · rw [o5.same 0 (by omega) (by simp)]; exact hj.when
    | false =>
      have hsn : ¬ Since bk ws s := fun k => by have := ht.2 k; cases this
      have hst : stepR bk sm c r s ws = (⟨bk.length + 1, 0⟩, bk ++ [ws], setSm sm c (r, ⟨bk.length + 1, 0⟩)) := by unfold stepR; rw [if_neg hs2, if_neg hsn]
      (repeat (first
    | refine vi_op rfl rfl rfl rfl rfl ?_
    | refine vi_inc rfl rfl (by omega) ?_
    | refine vi_dec rfl rfl (by omega) ?_
    | refine vi_not rfl rfl ?_
    | refine vi_load rfl rfl (by assumption) rfl ?_
    | refine vi_storeL rfl rfl rfl rfl rfl ?_
    | refine vi_nil ?_ | refine sq_seq ?_ | refine sw_seq ?_ | refine sw_items ?_ | refine sw_ret ?_ | refine sq_seq_r ?_ | refine sq_seq_x ?_ | refine sw_skip ?_ | refine sw_exit ?_
    | refine sw_block ?_ | refine sq_block ?_ | refine sq_block_r ?_ | refine sq_block_x ?_ | refine sq_block_o rfl ?_ | refine vq_loop_x ?_ | refine vq_loop_r ?_ | refine vi_chk rfl rfl rfl rfl ?_ | refine vi_chkload rfl rfl (by assumption) rfl rfl ?_ | refine vi_off rfl ?_ | refine vi_calloff rfl ?_ | refine vi_chkoff rfl ?_))
      refine vw_condT rfl ?_
      (repeat (first
    | refine vi_op rfl rfl rfl rfl rfl ?_
    | refine vi_inc rfl rfl (by omega) ?_
    | refine vi_dec rfl rfl (by omega) ?_
    | refine vi_not rfl rfl ?_
    | refine vi_load rfl rfl (by assumption) rfl ?_
    | refine vi_storeL rfl rfl rfl rfl rfl ?_
    | refine vi_nil ?_ | refine sq_seq ?_ | refine sw_seq ?_ | refine sw_items ?_ | refine sw_ret ?_ | refine sq_seq_r ?_ | refine sq_seq_x ?_ | refine sw_skip ?_ | refine sw_exit ?_
    | refine sw_block ?_ | refine sq_block ?_ | refine sq_block_r ?_ | refine sq_block_x ?_ | refine sq_block_o rfl ?_ | refine vq_loop_x ?_ | refine vq_loop_r ?_ | refine vi_chk rfl rfl rfl rfl ?_ | refine vi_chkload rfl rfl (by assumption) rfl rfl ?_ | refine vi_off rfl ?_ | refine vi_calloff rfl ?_ | refine vi_chkoff rfl ?_))
      refine vi_call sysJ rfl rfl ?_
      refine commit_spec _ bk sm hj hb (by omega) c r s ws hl _ fun h4 o4 j4 w4 => ?_
      have n4 := o4.next
      have g0' : h4.get p0 = some (.cells [.ptr 2 0]) := by rw [o4.same p0 h7.2.2.1 (by simp; omega)]; exact g0
      have g1' : h4.get p1 = some (.cells (bcells c r s ws)) := by rw [o4.same p1 h7.2.2.2 (by simp; omega)]; exact g1
      obtain ⟨ss, c1, gs, hki, hfs⟩ := hj.seen
      have gs' : h4.get 1 = some (.map ss c1) := by rw [o4.same 1 (by omega) (by simp)]; exact gs
      (repeat (first
    | refine vi_op rfl rfl rfl rfl rfl ?_
    | refine vi_inc rfl rfl (by omega) ?_
    | refine vi_dec rfl rfl (by omega) ?_
    | refine vi_not rfl rfl ?_
    | refine vi_load rfl rfl (by assumption) rfl ?_
    | refine vi_storeL rfl rfl rfl rfl rfl ?_
    | refine vi_nil ?_ | refine sq_seq ?_ | refine sw_seq ?_ | refine sw_items ?_ | refine sw_ret ?_ | refine sq_seq_r ?_ | refine sq_seq_x ?_ | refine sw_skip ?_ | refine sw_exit ?_
    | refine sw_block ?_ | refine sq_block ?_ | refine sq_block_r ?_ | refine sq_block_x ?_ | refine sq_block_o rfl ?_ | refine vq_loop_x ?_ | refine vq_loop_r ?_ | refine vi_chk rfl rfl rfl rfl ?_ | refine vi_chkload rfl rfl (by assumption) rfl rfl ?_ | refine vi_off rfl ?_ | refine vi_calloff rfl ?_ | refine vi_chkoff rfl ?_))
      refine vi_mupdH rfl rfl rfl rfl gs' rfl (hfs c) fun h5 c' o5 n5 g5 => ?_
      (repeat (first
    | refine vi_op rfl rfl rfl rfl rfl ?_
    | refine vi_inc rfl rfl (by omega) ?_
    | refine vi_dec rfl rfl (by omega) ?_
    | refine vi_not rfl rfl ?_
    | refine vi_load rfl rfl (by assumption) rfl ?_
    | refine vi_storeL rfl rfl rfl rfl rfl ?_
    | refine vi_nil ?_ | refine sq_seq ?_ | refine sw_seq ?_ | refine sw_items ?_ | refine sw_ret ?_ | refine sq_seq_r ?_ | refine sq_seq_x ?_ | refine sw_skip ?_ | refine sw_exit ?_
    | refine sw_block ?_ | refine sq_block ?_ | refine sq_block_r ?_ | refine sq_block_x ?_ | refine sq_block_o rfl ?_ | refine vq_loop_x ?_ | refine vq_loop_r ?_ | refine vi_chk rfl rfl rfl rfl ?_ | refine vi_chkload rfl rfl (by assumption) rfl rfl ?_ | refine vi_off rfl ?_ | refine vi_calloff rfl ?_ | refine vi_chkoff rfl ?_))
      refine vq_end rfl ?_
      have := hq2 hs1 h5 (o4.trans o5 (fun r hr => by simp at hr ⊢; omega) (fun r hr => by simp at hr ⊢; omega))
      rw [hst] at this
      refine this ⟨?_, ?_, ⟨_, _, g5, hki.put _ _ _, fun d => by refine seen_put (x := (r, ⟨bk.length + 1, 0⟩)) hki hfs ?_ d; rfl⟩⟩
      · rw [o5.same 2 (by omega) (by simp), j4]; simp
      · rw [o5.same 0 (by omega) (by simp)]; exact w4
end Go.AM.J

set_option linter.unusedVariables false
set_option linter.unusedSimpArgs false
namespace Go.AM.J
open Go Go.AM

theorem lk_told (o : Option (Nat × Ver)) : lkV true (.agg [.int .u64 0, .int .u64 0, .int .i64 0]) (o.map toldAV) = .tup [.agg (tcells (o.getD (0, ⟨0, 0⟩))), .bool o.isSome] := by
  cases o <;> rfl
theorem step_rest {bk : List (List Wr)} {sm : Sm} {c r s : Nat} {ws : List Wr} (hne : ws ≠ []) (h1 : (sm c).isSome = true → r ≠ ((sm c).getD (0, ⟨0, 0⟩)).1) (h2 : (sm c).isSome = true → ¬ r < ((sm c).getD (0, ⟨0, 0⟩)).1) : step bk sm c r s ws = stepR bk sm c r s ws := by
  unfold step
  rw [if_neg hne]
  cases hs : sm c with
  | none => rfl
  | some x =>
    rw [hs] at h1 h2
    simp only at h1 h2 ⊢
    rw [if_neg (show ¬ r = x.1 from h1 rfl), if_neg (show ¬ r < x.1 from h2 rfl)]
set_option maxHeartbeats 4000000 in
theorem say_spec (h : Heap) (bk : List (List Wr)) (sm : Sm) (hj : JH h bk sm) (hb : bk.length < 1000) (h7 : 7 ≤ h.next) (c r s : Nat) (ws : List Wr) (hgd : Good ws)
    (Q : AV → Heap → Prop) (hq : ∀ h', Only [0, 1, 2] h h' → JH h' (step bk sm c r s ws).2.1 (step bk sm c r s ws).2.2 → Q (verAV (step bk sm c r s ws).1) h') :
    C 9 [.ptr 2 0, .agg (bcells c r s ws)] h Q := by
  refine vw_start sysJ fn9 rfl ?_
  have hl4 := hgd.len
  refine sw_seq ?_
  refine sw_seq ?_
  refine sw_items ?_
  refine vi_nil ?_
  refine sq_seq ?_
  refine sw_items ?_
  refine vi_hbox rfl fun h1 o1 n1 g1 => ?_
  refine vi_hbox rfl fun h2 o2 n2 g2 => ?_
  have e0 : h2.get h.next = some (.cells [.ptr 2 0]) := by rw [o2.same h.next (by omega) (by simp)]; exact g1
  have e1 : h2.get h1.next = some (.cells (bcells c r s ws)) := g2
  have o12 : Only [] h h2 := o1.trans o2 (fun r hr => hr) (fun r hr => hr)
  have j2 := hj.keep (Only.low o12 h7) ⟨by simp, by simp, by simp⟩
  have gj := j2.j
  clear g1 g2
  (repeat (first
    | refine vi_op rfl rfl rfl rfl rfl ?_
    | refine vi_inc rfl rfl (by omega) ?_
    | refine vi_dec rfl rfl (by omega) ?_
    | refine vi_not rfl rfl ?_
    | refine vi_load rfl rfl (by assumption) rfl ?_
    | refine vi_storeL rfl rfl rfl rfl rfl ?_
    | refine vi_nil ?_ | refine sq_seq ?_ | refine sw_seq ?_ | refine sw_items ?_ | refine sw_ret ?_ | refine sq_seq_r ?_ | refine sq_seq_x ?_ | refine sw_skip ?_ | refine sw_exit ?_
    | refine sw_block ?_ | refine sq_block ?_ | refine sq_block_r ?_ | refine sq_block_x ?_ | refine sq_block_o rfl ?_ | refine vq_loop_x ?_ | refine vq_loop_r ?_ | refine vi_chk rfl rfl rfl rfl ?_ | refine vi_chkload rfl rfl (by assumption) rfl rfl ?_ | refine vi_off rfl ?_ | refine vi_calloff rfl ?_ | refine vi_chkoff rfl ?_))
  refine vi_call sysJ rfl rfl ?_
  by_cases hne : ws = []
  · subst hne
    refine check_none _ c r s _ ?_
    (repeat (first
    | refine vi_op rfl rfl rfl rfl rfl ?_
    | refine vi_inc rfl rfl (by omega) ?_
    | refine vi_dec rfl rfl (by omega) ?_
    | refine vi_not rfl rfl ?_
    | refine vi_load rfl rfl (by assumption) rfl ?_
    | refine vi_storeL rfl rfl rfl rfl rfl ?_
    | refine vi_nil ?_ | refine sq_seq ?_ | refine sw_seq ?_ | refine sw_items ?_ | refine sw_ret ?_ | refine sq_seq_r ?_ | refine sq_seq_x ?_ | refine sw_skip ?_ | refine sw_exit ?_
    | refine sw_block ?_ | refine sq_block ?_ | refine sq_block_r ?_ | refine sq_block_x ?_ | refine sq_block_o rfl ?_ | refine vq_loop_x ?_ | refine vq_loop_r ?_ | refine vi_chk rfl rfl rfl rfl ?_ | refine vi_chkload rfl rfl (by assumption) rfl rfl ?_ | refine vi_off rfl ?_ | refine vi_calloff rfl ?_ | refine vi_chkoff rfl ?_))
    refine vw_condT rfl ?_
    (repeat (first
    | refine vi_op rfl rfl rfl rfl rfl ?_
    | refine vi_inc rfl rfl (by omega) ?_
    | refine vi_dec rfl rfl (by omega) ?_
    | refine vi_not rfl rfl ?_
    | refine vi_load rfl rfl (by assumption) rfl ?_
    | refine vi_storeL rfl rfl rfl rfl rfl ?_
    | refine vi_nil ?_ | refine sq_seq ?_ | refine sw_seq ?_ | refine sw_items ?_ | refine sw_ret ?_ | refine sq_seq_r ?_ | refine sq_seq_x ?_ | refine sw_skip ?_ | refine sw_exit ?_
    | refine sw_block ?_ | refine sq_block ?_ | refine sq_block_r ?_ | refine sq_block_x ?_ | refine sq_block_o rfl ?_ | refine vq_loop_x ?_ | refine vq_loop_r ?_ | refine vi_chk rfl rfl rfl rfl ?_ | refine vi_chkload rfl rfl (by assumption) rfl rfl ?_ | refine vi_off rfl ?_ | refine vi_calloff rfl ?_ | refine vi_chkoff rfl ?_))
    refine vq_end rfl ?_
    have hst : step bk sm c r s [] = (⟨0, 50⟩, bk, sm) := by unfold step; rw [if_pos rfl]
    have := hq h2 (o12.trans (.refl [] _) (fun r hr => nomatch hr) (fun r hr => nomatch hr))
    rw [hst] at this
    exact this j2
  refine check_spec _ c r s ws hgd hne _ ?_
  obtain ⟨ss, c1, gs, hki, hfs⟩ := j2.seen
  (repeat (first
    | refine vi_op rfl rfl rfl rfl rfl ?_
    | refine vi_inc rfl rfl (by omega) ?_
    | refine vi_dec rfl rfl (by omega) ?_
    | refine vi_not rfl rfl ?_
    | refine vi_load rfl rfl (by assumption) rfl ?_
    | refine vi_storeL rfl rfl rfl rfl rfl ?_
    | refine vi_nil ?_ | refine sq_seq ?_ | refine sw_seq ?_ | refine sw_items ?_ | refine sw_ret ?_ | refine sq_seq_r ?_ | refine sq_seq_x ?_ | refine sw_skip ?_ | refine sw_exit ?_
    | refine sw_block ?_ | refine sq_block ?_ | refine sq_block_r ?_ | refine sq_block_x ?_ | refine sq_block_o rfl ?_ | refine vq_loop_x ?_ | refine vq_loop_r ?_ | refine vi_chk rfl rfl rfl rfl ?_ | refine vi_chkload rfl rfl (by assumption) rfl rfl ?_ | refine vi_off rfl ?_ | refine vi_calloff rfl ?_ | refine vi_chkoff rfl ?_))
  refine vw_condF rfl ?_
  (repeat (first
    | refine vi_op rfl rfl rfl rfl rfl ?_
    | refine vi_inc rfl rfl (by omega) ?_
    | refine vi_dec rfl rfl (by omega) ?_
    | refine vi_not rfl rfl ?_
    | refine vi_load rfl rfl (by assumption) rfl ?_
    | refine vi_storeL rfl rfl rfl rfl rfl ?_
    | refine vi_nil ?_ | refine sq_seq ?_ | refine sw_seq ?_ | refine sw_items ?_ | refine sw_ret ?_ | refine sq_seq_r ?_ | refine sq_seq_x ?_ | refine sw_skip ?_ | refine sw_exit ?_
    | refine sw_block ?_ | refine sq_block ?_ | refine sq_block_r ?_ | refine sq_block_x ?_ | refine sq_block_o rfl ?_ | refine vq_loop_x ?_ | refine vq_loop_r ?_ | refine vi_chk rfl rfl rfl rfl ?_ | refine vi_chkload rfl rfl (by assumption) rfl rfl ?_ | refine vi_off rfl ?_ | refine vi_calloff rfl ?_ | refine vi_chkoff rfl ?_))
  refine vi_lookupE _ rfl rfl rfl gs rfl (hfs c) (lk_told _) ?_
  generalize hold : (sm c).getD (0, ⟨0, 0⟩) = old
  generalize hwas : (sm c).isSome = was
  refine vi_op rfl rfl rfl rfl rfl ?_
  refine vi_op rfl rfl rfl rfl rfl ?_
  refine vi_op rfl rfl rfl rfl rfl ?_
  refine vi_halloc fun h3 o3 n3 g3 => ?_
  refine vi_halloc fun h4 o4 n4 g4 => ?_
  have g3' : h4.get h2.next = some (.cells [.int .u64 0, .int .u64 0, .int .i64 0]) := by rw [o4.same _ (by omega) (by simp)]; exact g3
  refine vi_storeH rfl rfl rfl rfl rfl g3' rfl fun h5 o5 n5 g5 => ?_
  have g4' : h5.get h3.next = some (.cells [.bool false]) := by rw [o5.same _ (by omega) (by simp; omega)]; exact g4
  refine vi_storeH rfl rfl rfl rfl rfl g4' rfl fun h6 o6 n6 g6 => ?_
  have f2 : h6.get h2.next = some (.cells (tcells old)) := by rw [o6.same _ (by omega) (by simp; omega)]; exact g5
  have f3 : h6.get h3.next = some (.cells [.bool was]) := g6
  have oo : ∀ x, x < h2.next → h6.get x = h2.get x := fun x hx => by
    rw [o6.same x (by omega) (by simp; omega), o5.same x (by omega) (by simp; omega), o4.same x (by omega) (by simp), o3.same x (by omega) (by simp)]
  have f0 : h6.get h.next = some (.cells [.ptr 2 0]) := by rw [oo _ (by omega)]; exact e0
  have f1 : h6.get h1.next = some (.cells (bcells c r s ws)) := by rw [oo _ (by omega)]; exact e1
  have o26 : Only [] h2 h6 := ⟨by omega, fun x hx _ => oo x hx⟩
  have oh6 : Only [] h h6 := o12.trans o26 (fun r hr => hr) (fun r hr => hr)
  have j6 := hj.keep (Only.low oh6 h7) ⟨by simp, by simp, by simp⟩
  clear g3 g4 g5 g6 g3' g4' e0 e1 gj
  have gj := j6.j
  have fin : (was = true → r ≠ old.1) → SW [] C rest9 (endPost i9 Q) (toEnv (mkV (syT h.next h1.next h2.next h3.next))) h6 := fun hnr =>
    say_rest h6 h.next h1.next h2.next h3.next c r s ws old was bk sm f0 f1 f2 f3 j6 hb (by omega) ⟨by omega, by omega, by omega, by omega⟩ Q
      (fun hw hlt => by
        have hsm : ∃ x, sm c = some x := Option.isSome_iff_exists.1 (by rw [hwas]; exact hw)
        obtain ⟨x, hx⟩ := hsm
        have hox : old = x := by rw [← hold, hx]; rfl
        have hst : step bk sm c r s ws = (⟨0, 193⟩, bk, sm) := by
          unfold step
          rw [if_neg hne, hx]
          simp only
          rw [if_neg (by rw [← hox]; exact hnr hw), if_pos (by rw [← hox]; exact hlt)]
        have := hq h6 (oh6.trans (.refl [] _) (fun r hr => nomatch hr) (fun r hr => nomatch hr))
        rw [hst] at this
        exact this j6)
      (fun hnl h' o' j' => by
        have hst := step_rest (bk := bk) (sm := sm) (c := c) (r := r) (s := s) (ws := ws) hne (by rw [hold, hwas]; exact hnr) (by rw [hold, hwas]; exact hnl)
        have := hq h' (oh6.trans o' (fun r hr => nomatch hr) (fun r hr => hr))
        rw [hst] at this
        exact this j')
  cases was with
  | false =>
    (repeat (first
    | refine vi_op rfl rfl rfl rfl rfl ?_
    | refine vi_inc rfl rfl (by omega) ?_
    | refine vi_dec rfl rfl (by omega) ?_
    | refine vi_not rfl rfl ?_
    | refine vi_load rfl rfl (by assumption) rfl ?_
    | refine vi_storeL rfl rfl rfl rfl rfl ?_
    | refine vi_nil ?_ | refine sq_seq ?_ | refine sw_seq ?_ | refine sw_items ?_ | refine sw_ret ?_ | refine sq_seq_r ?_ | refine sq_seq_x ?_ | refine sw_skip ?_ | refine sw_exit ?_
    | refine sw_block ?_ | refine sq_block ?_ | refine sq_block_r ?_ | refine sq_block_x ?_ | refine sq_block_o rfl ?_ | refine vq_loop_x ?_ | refine vq_loop_r ?_ | refine vi_chk rfl rfl rfl rfl ?_ | refine vi_chkload rfl rfl (by assumption) rfl rfl ?_ | refine vi_off rfl ?_ | refine vi_calloff rfl ?_ | refine vi_chkoff rfl ?_))
    refine vw_condF rfl ?_
    refine sw_skip ?_
    refine sq_seq ?_
    exact vw_weak (syT h.next h1.next h2.next h3.next) ⟨rfl, rfl, rfl, rfl, rfl, trivial⟩ (fin (fun e => by cases e))
  | true =>
    have hx : AV.bool ((old.1 : Int) == (r : Int)) = AV.bool (decide (r = old.1)) := by
      congr 1
      by_cases e : r = old.1
      · subst e; simp
      · have : ¬ (old.1 : Int) = (r : Int) := fun k => e (by omega)
        simp [e, this]
    (repeat (first
    | refine vi_opE rfl rfl rfl rfl rfl (by assumption) ?_
    | refine vi_op rfl rfl rfl rfl rfl ?_
    | refine vi_inc rfl rfl (by omega) ?_
    | refine vi_dec rfl rfl (by omega) ?_
    | refine vi_not rfl rfl ?_
    | refine vi_load rfl rfl (by assumption) rfl ?_
    | refine vi_storeL rfl rfl rfl rfl rfl ?_
    | refine vi_nil ?_ | refine sq_seq ?_ | refine sw_seq ?_ | refine sw_items ?_ | refine sw_ret ?_ | refine sq_seq_r ?_ | refine sq_seq_x ?_ | refine sw_skip ?_ | refine sw_exit ?_
    | refine sw_block ?_ | refine sq_block ?_ | refine sq_block_r ?_ | refine sq_block_x ?_ | refine sq_block_o rfl ?_ | refine vq_loop_x ?_ | refine vq_loop_r ?_ | refine vi_chk rfl rfl rfl rfl ?_ | refine vi_chkload rfl rfl (by assumption) rfl rfl ?_ | refine vi_off rfl ?_ | refine vi_calloff rfl ?_ | refine vi_chkoff rfl ?_))
    refine vw_cond _ rfl (fun hc => ?_) (fun hc => ?_)
    · have hc' : r = old.1 := of_decide_eq_true hc
      obtain ⟨x, hx⟩ : ∃ x, sm c = some x := Option.isSome_iff_exists.1 hwas
      have hox : old = x := by rw [← hold, hx]; rfl
      have hst : step bk sm c r s ws = (old.2, bk, sm) := by
        unfold step
        rw [if_neg hne, hx]
        simp only
        rw [if_pos (by rw [← hox]; exact hc'), hox]
      (repeat (first
    | refine vi_op rfl rfl rfl rfl rfl ?_
    | refine vi_inc rfl rfl (by omega) ?_
    | refine vi_dec rfl rfl (by omega) ?_
    | refine vi_not rfl rfl ?_
    | refine vi_load rfl rfl (by assumption) rfl ?_
    | refine vi_storeL rfl rfl rfl rfl rfl ?_
    | refine vi_nil ?_ | refine sq_seq ?_ | refine sw_seq ?_ | refine sw_items ?_ | refine sw_ret ?_ | refine sq_seq_r ?_ | refine sq_seq_x ?_ | refine sw_skip ?_ | refine sw_exit ?_
    | refine sw_block ?_ | refine sq_block ?_ | refine sq_block_r ?_ | refine sq_block_x ?_ | refine sq_block_o rfl ?_ | refine vq_loop_x ?_ | refine vq_loop_r ?_ | refine vi_chk rfl rfl rfl rfl ?_ | refine vi_chkload rfl rfl (by assumption) rfl rfl ?_ | refine vi_off rfl ?_ | refine vi_calloff rfl ?_ | refine vi_chkoff rfl ?_))
      refine vq_end rfl ?_
      have := hq h6 (oh6.trans (.refl [] _) (fun r hr => nomatch hr) (fun r hr => nomatch hr))
      rw [hst] at this
      exact this j6
    · have hc' : ¬ r = old.1 := of_decide_eq_false hc
      refine sw_skip ?_
      refine sq_seq ?_
      exact vw_weak (syT h.next h1.next h2.next h3.next) ⟨rfl, rfl, rfl, rfl, rfl, trivial⟩ (fin (fun _ => hc'))
end Go.AM.J
