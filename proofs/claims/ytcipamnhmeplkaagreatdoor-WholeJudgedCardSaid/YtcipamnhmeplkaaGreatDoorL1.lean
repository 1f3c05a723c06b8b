/- Own work. This text shows: what is reckoned; a write is found; a number is picked. -/
import Derived.Test.YtcipamnhmeplkaaGreatDoorAm7
import Derived.Test.YtcipamnhmeplkaaGreatDoorJs
set_option linter.unusedVariables false
set_option linter.unusedSimpArgs false
namespace Go.AM.J
open Go Go.AM
/-- a write -/
structure Wr where
  key : List UInt8
  val : List UInt8
  gone : Bool
  deriving DecidableEq
def Wr.av (w : Wr) : AV := .agg [.str w.key, .str w.val, .bool w.gone]
def zeroW : AV := .agg [.str [], .str [], .bool false]
def findW (ws : List Wr) (key : List UInt8) : Option Wr := ws.find? (fun w => w.key == key)
def avO : Option Wr → AV
  | some w => w.av
  | none => zeroW

theorem findW_none {ws : List Wr} {key : List UInt8} {i : Nat} {w : Wr} (h : findW (ws.take i) key = none) (hw : ws[i]? = some w) :
    findW (ws.take (i + 1)) key = (if w.key = key then some w else none) := by
  have : ws.take (i + 1) = ws.take i ++ [w] := by rw [List.take_add_one, hw]; rfl
  unfold findW at h ⊢
  rw [this, List.find?_append, h]
  simp only [Option.none_or, List.find?_cons, List.find?_nil]
  by_cases hk : w.key = key
  · simp [hk]
  · have : (w.key == key) = false := by simpa using hk
    simp [hk, this]
theorem findW_take {ws : List Wr} {key : List UInt8} {i : Nat} {w : Wr} (h : findW (ws.take i) key = some w) : findW ws key = some w := by
  unfold findW at h ⊢
  rw [← List.take_append_drop i ws, List.find?_append, h]; rfl

def hasK (ws : List Wr) (key : List UInt8) : Bool := (findW ws key).isSome
def encB (ws : List Wr) : AV := .vs .unk (ws.map Wr.av)
/-- a value of a book -/
def BV (v : AV) (bk : List (List Wr)) : Prop := (v = .nils ∧ bk = []) ∨ ∃ c, v = .vs c (bk.map encB)
theorem BV.slen {v : AV} {bk : List (List Wr)} (h : BV v bk) : AM.slen v = some bk.length := by
  rcases h with ⟨rfl, rfl⟩ | ⟨c, rfl⟩
  · rfl
  · simp [AM.slen]
theorem BV.vs {v : AV} {bk : List (List Wr)} (h : BV v bk) {i : Nat} (hi : i < bk.length) : ∃ c, v = .vs c (bk.map encB) := by
  rcases h with ⟨rfl, rfl⟩ | ⟨c, rfl⟩
  · simp at hi
  · exact ⟨c, rfl⟩
/-- the numbers that are handed out -/
def DH (h : Heap) (xs : List Int) (b : Nat) : Prop := ∃ a : Nat, a ≤ b ∧ h.get 6 = some (.cells [.vs .unk (xs.map (.int .i64)), .int .i64 (a : Int)])
theorem DH.mono {h : Heap} {xs : List Int} {b c : Nat} (k : DH h xs b) (hc : b ≤ c) : DH h xs c := by
  obtain ⟨a, h1, h2⟩ := k
  exact ⟨a, by omega, h2⟩
theorem DH.keep {h h' : Heap} {xs : List Int} {b : Nat} {R : List Nat} (k : DH h xs b) (o : Only R h h') (h6 : 6 < h.next) (hR : 6 ∉ R) : DH h' xs b := by
  obtain ⟨a, h1, h2⟩ := k
  exact ⟨a, h1, by rw [o.same 6 h6 hR]; exact h2⟩

/-! when a key was written last -/
def lastF (key : List UInt8) : Nat → Nat → List (List Wr) → Nat
  | _, a, [] => a
  | n, a, ws :: r => lastF key (n + 1) (if hasK ws key then n + 1 else a) r
def lastW (bk : List (List Wr)) (key : List UInt8) : Nat := lastF key 0 0 bk
theorem lastF_append (key : List UInt8) (ws : List Wr) : ∀ (b : List (List Wr)) (n a : Nat), lastF key n a (b ++ [ws]) = if hasK ws key then n + b.length + 1 else lastF key n a b
  | [], n, a => by simp [lastF]
  | x :: b, n, a => by
    simp only [List.cons_append, lastF, lastF_append key ws b, List.length_cons]
    split
    · omega
    · rfl
theorem lastW_append (bk : List (List Wr)) (ws : List Wr) (key : List UInt8) : lastW (bk ++ [ws]) key = if hasK ws key then bk.length + 1 else lastW bk key := by
  unfold lastW
  rw [lastF_append]; simp
theorem lastW_nil (key : List UInt8) : lastW [] key = 0 := rfl
theorem lastW_take {bk : List (List Wr)} {i : Nat} {ws : List Wr} (h : bk[i]? = some ws) (key : List UInt8) : lastW (bk.take (i + 1)) key = if hasK ws key then i + 1 else lastW (bk.take i) key := by
  have : bk.take (i + 1) = bk.take i ++ [ws] := by rw [List.take_add_one, h]; rfl
  have hl : (bk.take i).length = i := by
    rw [List.length_take]
    have := (List.getElem?_eq_some_iff.1 h).1
    omega
  rw [this, lastW_append, hl]
theorem lastW_gt {bk : List (List Wr)} {key : List UInt8} {s : Nat} : s < lastW bk key ↔ ∃ i ws, s ≤ i ∧ bk[i]? = some ws ∧ hasK ws key = true := by
  have gen : ∀ n, n ≤ bk.length → (s < lastW (bk.take n) key ↔ ∃ i ws, s ≤ i ∧ i < n ∧ bk[i]? = some ws ∧ hasK ws key = true) := by
    intro n
    induction n with
    | zero => intro _; simp [lastW_nil]
    | succ n ih =>
      intro hn
      have hlt : n < bk.length := by omega
      have hg : bk[n]? = some bk[n] := List.getElem?_eq_getElem hlt
      have ih := ih (by omega)
      rw [lastW_take hg]
      cases hk : hasK bk[n] key with
      | true =>
        simp only [if_true]
        constructor
        · intro h; exact ⟨n, _, by omega, by omega, hg, hk⟩
        · rintro ⟨i, ws, h1, h2, _⟩; omega
      | false =>
        simp only [Bool.false_eq_true, if_false, ih]
        constructor
        · rintro ⟨i, ws, h1, h2, h3, h4⟩; exact ⟨i, ws, h1, by omega, h3, h4⟩
        · rintro ⟨i, ws, h1, h2, h3, h4⟩
          by_cases hi : i = n
          · subst hi; rw [hg] at h3; cases h3; rw [hk] at h4; cases h4
          · exact ⟨i, ws, h1, by omega, h3, h4⟩
  have := gen bk.length (Nat.le_refl _)
  rw [List.take_length] at this
  rw [this]
  constructor
  · rintro ⟨i, ws, h1, h2, h3, h4⟩; exact ⟨i, ws, h1, h3, h4⟩
  · rintro ⟨i, ws, h1, h3, h4⟩; exact ⟨i, ws, h1, (List.getElem?_eq_some_iff.1 h3).1, h3, h4⟩
theorem lastW_le (bk : List (List Wr)) (key : List UInt8) : lastW bk key ≤ bk.length := by
  by_cases h : bk.length < lastW bk key
  · obtain ⟨i, ws, h1, h2, _⟩ := lastW_gt.1 h
    have := (List.getElem?_eq_some_iff.1 h2).1
    omega
  · omega

/-- was one of these keys written behind a timestamp? -/
def Since (bk : List (List Wr)) (ws : List Wr) (s : Nat) : Prop := ∃ w ∈ ws, s < lastW bk w.key

/-- batches that may be -/
structure Good (ws : List Wr) : Prop where
  len : ws.length ≤ 4
  each : ∀ w ∈ ws, 0 < w.key.length ∧ w.key.length ≤ 64 ∧ w.val.length ≤ 256 ∧ (w.gone = true → w.val = [])
  order : ∀ (i : Nat) a b, ws[i]? = some a → ws[i + 1]? = some b → bytesLt a.key b.key = true
end Go.AM.J

set_option linter.unusedVariables false
set_option linter.unusedSimpArgs false
namespace Go.AM.J
open Go Go.AM

structure Ver where
  at_ : Nat
  err : Int
def verAV (v : Ver) : AV := .agg [.int .u64 (v.at_ : Int), .int .i64 v.err]
abbrev Sm := Nat → Option (Nat × Ver)
structure StJ where
  bk : List (List Wr)
  sm : Sm
instance (bk : List (List Wr)) (ws : List Wr) (s : Nat) : Decidable (Since bk ws s) := inferInstanceAs (Decidable (∃ w ∈ ws, s < lastW bk w.key))
def setSm (sm : Sm) (c : Nat) (x : Nat × Ver) : Sm := fun d => if d = c then some x else sm d
/-- what is decided behind the first looks -/
def stepR (bk : List (List Wr)) (sm : Sm) (c r s : Nat) (ws : List Wr) : Ver × List (List Wr) × Sm :=
  if bk.length < s then (⟨0, 190⟩, bk, sm)
  else if Since bk ws s then (⟨0, 191⟩, bk, setSm sm c (r, ⟨0, 191⟩))
  else (⟨bk.length + 1, 0⟩, bk ++ [ws], setSm sm c (r, ⟨bk.length + 1, 0⟩))
def step (bk : List (List Wr)) (sm : Sm) (c r s : Nat) (ws : List Wr) : Ver × List (List Wr) × Sm :=
  if ws = [] then (⟨0, 50⟩, bk, sm) else
  match sm c with
  | some x => if r = x.1 then (x.2, bk, sm) else if r < x.1 then (⟨0, 193⟩, bk, sm) else stepR bk sm c r s ws
  | none => stepR bk sm c r s ws

def encL (n : Nat) : Option AV := if n = 0 then none else some (.int .u64 (n : Int))
def toldAV (x : Nat × Ver) : AV := .agg [.int .u64 (x.1 : Int), .int .u64 (x.2.at_ : Int), .int .i64 x.2.err]
structure JW (h : Heap) (bk : List (List Wr)) : Prop where
  when : ∃ es c, h.get 0 = some (.map es c) ∧ KS es ∧ ∀ key, mfind (.str key) es = some (encL (lastW bk key))
structure JH (h : Heap) (bk : List (List Wr)) (sm : Sm) : Prop where
  j : h.get 2 = some (.cells [.int .u64 (bk.length : Int), .mp 0, .mp 1])
  when : ∃ es c, h.get 0 = some (.map es c) ∧ KS es ∧ ∀ key, mfind (.str key) es = some (encL (lastW bk key))
  seen : ∃ es c, h.get 1 = some (.map es c) ∧ KI .u64 es ∧ ∀ c : Nat, mfind (.int .u64 (c : Int)) es = some ((sm c).map toldAV)
def BT (h : Heap) (v : AV) (bk : List (List Wr)) : Prop := (v = .nils ∧ bk = []) ∨ ∃ t, v = .vs (.tok t bk.length) (bk.map encB) ∧ 7 ≤ t ∧ t < h.next ∧ h.get t = some (.tip bk.length 1)
theorem BT.bv {h : Heap} {v : AV} {bk : List (List Wr)} (k : BT h v bk) : BV v bk := by
  rcases k with k | ⟨t, k, _⟩
  · exact .inl k
  · exact .inr ⟨_, k⟩
structure WH (h : Heap) (bk : List (List Wr)) (sm : Sm) : Prop where
  w : ∃ v, h.get 5 = some (.cells [v, .mp 3, .mp 4]) ∧ BT h v bk
  last : ∃ es c, h.get 3 = some (.map es c) ∧ KI .i64 es ∧ ∀ c : Nat, mfind (.int .i64 (c : Int)) es = some ((sm c).map fun x => .int .i64 (x.1 : Int))
  said : ∃ es c, h.get 4 = some (.map es c) ∧ KI .i64 es ∧ ∀ c : Nat, mfind (.int .i64 (c : Int)) es = some ((sm c).map fun x => verAV x.2)
/-- of the first objects only these are not as before -/
structure Low (R : List Nat) (h h' : Heap) : Prop where
  next : h.next ≤ h'.next
  same : ∀ r, r < 7 → r ∉ R → h'.get r = h.get r
theorem Only.low {R : List Nat} {h h' : Heap} (o : Only R h h') (h7 : 7 ≤ h.next) : Low R h h' := ⟨o.next, fun r hr hn => o.same r (by omega) hn⟩
theorem Low.trans {R S T : List Nat} {h h' h2 : Heap} (a : Low R h h') (b : Low S h' h2) (h1 : ∀ r ∈ R, r ∈ T) (h3 : ∀ r ∈ S, r ∈ T) : Low T h h2 :=
  ⟨Nat.le_trans a.next b.next, fun r hr hn => by rw [b.same r hr (fun k => hn (h3 r k)), a.same r hr (fun k => hn (h1 r k))]⟩
theorem JH.keep {h h' : Heap} {bk : List (List Wr)} {sm : Sm} {R : List Nat} (k : JH h bk sm) (o : Low R h h') (hR : 0 ∉ R ∧ 1 ∉ R ∧ 2 ∉ R) : JH h' bk sm := by
  obtain ⟨h1, h2, h3⟩ := k
  refine ⟨?_, ?_, ?_⟩
  · rw [o.same 2 (by omega) hR.2.2]; exact h1
  · rw [o.same 0 (by omega) hR.1]; exact h2
  · rw [o.same 1 (by omega) hR.2.1]; exact h3
theorem WH.keep {h h' : Heap} {bk : List (List Wr)} {sm : Sm} {R : List Nat} (k : WH h bk sm) (o : Only R h h') (h7 : 7 ≤ h.next) (hR : ∀ r ∈ R, r ∉ [3, 4, 5] ∧ r < 7) : WH h' bk sm := by
  obtain ⟨⟨v, h1, hb⟩, h2, h3⟩ := k
  refine ⟨⟨v, ?_, ?_⟩, ?_, ?_⟩
  · rw [o.same 5 (by omega) (fun k => (hR 5 k).1 (by simp))]; exact h1
  · rcases hb with hb | ⟨t, e, h7', ht, hg⟩
    · exact .inl hb
    · exact .inr ⟨t, e, h7', Nat.lt_of_lt_of_le ht o.next, by rw [o.same t ht (fun k => by have := (hR t k).2; omega)]; exact hg⟩
  · rw [o.same 3 (by omega) (fun k => (hR 3 k).1 (by simp))]; exact h2
  · rw [o.same 4 (by omega) (fun k => (hR 4 k).1 (by simp))]; exact h3
theorem DH.keepL {h h' : Heap} {xs : List Int} {b : Nat} {R : List Nat} (k : DH h xs b) (o : Low R h h') (hR : 6 ∉ R) : DH h' xs b := by
  obtain ⟨a, h1, h2⟩ := k
  exact ⟨a, h1, by rw [o.same 6 (by omega) hR]; exact h2⟩
end Go.AM.J

set_option linter.unusedVariables false
set_option linter.unusedSimpArgs false
namespace Go.AM.J
open Go Go.AM
def findT (ws : List Wr) (key : List UInt8) (i : Nat) : List (Nat × AV) := [(0, .vs .unk (ws.map Wr.av)), (1, .str key), (4, zeroW), (5, .bool false), (6, .int .i64 (i : Nat))]
theorem find_spec (h : Heap) (ws : List Wr) (key : List UInt8) (hlen : ws.length < 1000) (Q : AV → Heap → Prop) (hq : Q (.tup [avO (findW ws key), .bool (findW ws key).isSome]) h) :
    C 13 [.vs .unk (ws.map Wr.av), .str key] h Q := by
  refine vw_start sysJ fn13 rfl ?_
  (repeat (first
    | refine vi_op rfl rfl rfl rfl rfl ?_
    | refine vi_inc rfl rfl (by omega) ?_
    | refine vi_dec rfl rfl (by omega) ?_
    | refine vi_not rfl rfl ?_
    | refine vi_load rfl rfl (by assumption) rfl ?_
    | refine vi_storeL rfl rfl rfl rfl rfl ?_
    | refine vi_nil ?_ | refine sq_seq ?_ | refine sw_seq ?_ | refine sw_items ?_ | refine sw_ret ?_ | refine sq_seq_r ?_ | refine sq_seq_x ?_ | refine sw_skip ?_ | refine sw_exit ?_
    | refine sw_block ?_ | refine sq_block ?_ | refine sq_block_r ?_ | refine sq_block_x ?_ | refine sq_block_o rfl ?_ | refine vq_loop_x ?_ | refine vq_loop_r ?_ | refine vi_chk rfl rfl rfl rfl ?_ | refine vi_chkload rfl rfl (by assumption) rfl rfl ?_ | refine vi_off rfl ?_ | refine vi_calloff rfl ?_ | refine vi_chkoff rfl ?_))
  refine vw_loop sysJ (fun n B h' => h' = h ∧ ∃ i, n = ws.length - i ∧ i ≤ ws.length ∧ findW (ws.take i) key = none ∧
    B = mkV (findT ws key i)) (findT ws key 0) _ ⟨rfl, rfl, rfl, rfl, rfl, trivial⟩ ⟨rfl, 0, rfl, Nat.zero_le _, rfl, rfl⟩ ?_
  rintro n B h' ⟨rfl, i, hn, hi, hf, rfl⟩
  (repeat (first
    | refine vi_op rfl rfl rfl rfl rfl ?_
    | refine vi_inc rfl rfl (by omega) ?_
    | refine vi_dec rfl rfl (by omega) ?_
    | refine vi_not rfl rfl ?_
    | refine vi_load rfl rfl (by assumption) rfl ?_
    | refine vi_storeL rfl rfl rfl rfl rfl ?_
    | refine vi_nil ?_ | refine sq_seq ?_ | refine sw_seq ?_ | refine sw_items ?_ | refine sw_ret ?_ | refine sq_seq_r ?_ | refine sq_seq_x ?_ | refine sw_skip ?_ | refine sw_exit ?_
    | refine sw_block ?_ | refine sq_block ?_ | refine sq_block_r ?_ | refine sq_block_x ?_ | refine sq_block_o rfl ?_ | refine vq_loop_x ?_ | refine vq_loop_r ?_ | refine vi_chk rfl rfl rfl rfl ?_ | refine vi_chkload rfl rfl (by assumption) rfl rfl ?_ | refine vi_off rfl ?_ | refine vi_calloff rfl ?_ | refine vi_chkoff rfl ?_))
  refine vw_cond _ rfl (fun hc => ?_) (fun hc => ?_)
  · simp only [decide_eq_true_eq, List.length_map] at hc
    have hlt : i < ws.length := by omega
    obtain ⟨w, hw⟩ : ∃ w, ws[i]? = some w := ⟨ws[i], List.getElem?_eq_getElem hlt⟩
    have hf1 := findW_none hf hw
    have hwm : (ws.map Wr.av)[i]? = some w.av := by simp [hw]
    (repeat (first
    | refine vi_op rfl rfl rfl rfl rfl ?_
    | refine vi_inc rfl rfl (by omega) ?_
    | refine vi_dec rfl rfl (by omega) ?_
    | refine vi_not rfl rfl ?_
    | refine vi_load rfl rfl (by assumption) rfl ?_
    | refine vi_storeL rfl rfl rfl rfl rfl ?_
    | refine vi_nil ?_ | refine sq_seq ?_ | refine sw_seq ?_ | refine sw_items ?_ | refine sw_ret ?_ | refine sq_seq_r ?_ | refine sq_seq_x ?_ | refine sw_skip ?_ | refine sw_exit ?_
    | refine sw_block ?_ | refine sq_block ?_ | refine sq_block_r ?_ | refine sq_block_x ?_ | refine sq_block_o rfl ?_ | refine vq_loop_x ?_ | refine vq_loop_r ?_ | refine vi_chk rfl rfl rfl rfl ?_ | refine vi_chkload rfl rfl (by assumption) rfl rfl ?_ | refine vi_off rfl ?_ | refine vi_calloff rfl ?_ | refine vi_chkoff rfl ?_))
    refine vi_iaddr rfl rfl rfl hwm rfl ?_
    (repeat (first
    | refine vi_op rfl rfl rfl rfl rfl ?_
    | refine vi_inc rfl rfl (by omega) ?_
    | refine vi_dec rfl rfl (by omega) ?_
    | refine vi_not rfl rfl ?_
    | refine vi_load rfl rfl (by assumption) rfl ?_
    | refine vi_storeL rfl rfl rfl rfl rfl ?_
    | refine vi_nil ?_ | refine sq_seq ?_ | refine sw_seq ?_ | refine sw_items ?_ | refine sw_ret ?_ | refine sq_seq_r ?_ | refine sq_seq_x ?_ | refine sw_skip ?_ | refine sw_exit ?_
    | refine sw_block ?_ | refine sq_block ?_ | refine sq_block_r ?_ | refine sq_block_x ?_ | refine sq_block_o rfl ?_ | refine vq_loop_x ?_ | refine vq_loop_r ?_ | refine vi_chk rfl rfl rfl rfl ?_ | refine vi_chkload rfl rfl (by assumption) rfl rfl ?_ | refine vi_off rfl ?_ | refine vi_calloff rfl ?_ | refine vi_chkoff rfl ?_))
    refine vw_cond _ rfl (fun hk => ?_) (fun hk => ?_)
    · have hk' : w.key = key := by simpa using hk
      rw [if_pos hk'] at hf1
      have hr := findW_take hf1
      (repeat (first
    | refine vi_op rfl rfl rfl rfl rfl ?_
    | refine vi_inc rfl rfl (by omega) ?_
    | refine vi_dec rfl rfl (by omega) ?_
    | refine vi_not rfl rfl ?_
    | refine vi_load rfl rfl (by assumption) rfl ?_
    | refine vi_storeL rfl rfl rfl rfl rfl ?_
    | refine vi_nil ?_ | refine sq_seq ?_ | refine sw_seq ?_ | refine sw_items ?_ | refine sw_ret ?_ | refine sq_seq_r ?_ | refine sq_seq_x ?_ | refine sw_skip ?_ | refine sw_exit ?_
    | refine sw_block ?_ | refine sq_block ?_ | refine sq_block_r ?_ | refine sq_block_x ?_ | refine sq_block_o rfl ?_ | refine vq_loop_x ?_ | refine vq_loop_r ?_ | refine vi_chk rfl rfl rfl rfl ?_ | refine vi_chkload rfl rfl (by assumption) rfl rfl ?_ | refine vi_off rfl ?_ | refine vi_calloff rfl ?_ | refine vi_chkoff rfl ?_))
      refine vi_iaddr rfl rfl rfl hwm rfl ?_
      (repeat (first
    | refine vi_op rfl rfl rfl rfl rfl ?_
    | refine vi_inc rfl rfl (by omega) ?_
    | refine vi_dec rfl rfl (by omega) ?_
    | refine vi_not rfl rfl ?_
    | refine vi_load rfl rfl (by assumption) rfl ?_
    | refine vi_storeL rfl rfl rfl rfl rfl ?_
    | refine vi_nil ?_ | refine sq_seq ?_ | refine sw_seq ?_ | refine sw_items ?_ | refine sw_ret ?_ | refine sq_seq_r ?_ | refine sq_seq_x ?_ | refine sw_skip ?_ | refine sw_exit ?_
    | refine sw_block ?_ | refine sq_block ?_ | refine sq_block_r ?_ | refine sq_block_x ?_ | refine sq_block_o rfl ?_ | refine vq_loop_x ?_ | refine vq_loop_r ?_ | refine vi_chk rfl rfl rfl rfl ?_ | refine vi_chkload rfl rfl (by assumption) rfl rfl ?_ | refine vi_off rfl ?_ | refine vi_calloff rfl ?_ | refine vi_chkoff rfl ?_))
      refine vq_end rfl ?_
      rw [hr] at hq
      exact hq
    · have hk' : ¬ w.key = key := by simpa using hk
      rw [if_neg hk'] at hf1
      (repeat (first
    | refine vi_op rfl rfl rfl rfl rfl ?_
    | refine vi_inc rfl rfl (by omega) ?_
    | refine vi_dec rfl rfl (by omega) ?_
    | refine vi_not rfl rfl ?_
    | refine vi_load rfl rfl (by assumption) rfl ?_
    | refine vi_storeL rfl rfl rfl rfl rfl ?_
    | refine vi_nil ?_ | refine sq_seq ?_ | refine sw_seq ?_ | refine sw_items ?_ | refine sw_ret ?_ | refine sq_seq_r ?_ | refine sq_seq_x ?_ | refine sw_skip ?_ | refine sw_exit ?_
    | refine sw_block ?_ | refine sq_block ?_ | refine sq_block_r ?_ | refine sq_block_x ?_ | refine sq_block_o rfl ?_ | refine vq_loop_x ?_ | refine vq_loop_r ?_ | refine vi_chk rfl rfl rfl rfl ?_ | refine vi_chkload rfl rfl (by assumption) rfl rfl ?_ | refine vi_off rfl ?_ | refine vi_calloff rfl ?_ | refine vi_chkoff rfl ?_))
      exact vq_loop (ws.length - (i + 1)) (findT ws key (i + 1)) (by omega) ⟨rfl, rfl, rfl, rfl, rfl, trivial⟩ ⟨rfl, i + 1, rfl, by omega, hf1, rfl⟩
  · simp only [decide_eq_false_iff_not, List.length_map] at hc
    have hi' : i = ws.length := by omega
    have hr : findW ws key = none := by rw [hi', List.take_length] at hf; exact hf
    rw [hr] at hq
    (repeat (first
    | refine vi_op rfl rfl rfl rfl rfl ?_
    | refine vi_inc rfl rfl (by omega) ?_
    | refine vi_dec rfl rfl (by omega) ?_
    | refine vi_not rfl rfl ?_
    | refine vi_load rfl rfl (by assumption) rfl ?_
    | refine vi_storeL rfl rfl rfl rfl rfl ?_
    | refine vi_nil ?_ | refine sq_seq ?_ | refine sw_seq ?_ | refine sw_items ?_ | refine sw_ret ?_ | refine sq_seq_r ?_ | refine sq_seq_x ?_ | refine sw_skip ?_ | refine sw_exit ?_
    | refine sw_block ?_ | refine sq_block ?_ | refine sq_block_r ?_ | refine sq_block_x ?_ | refine sq_block_o rfl ?_ | refine vq_loop_x ?_ | refine vq_loop_r ?_ | refine vi_chk rfl rfl rfl rfl ?_ | refine vi_chkload rfl rfl (by assumption) rfl rfl ?_ | refine vi_off rfl ?_ | refine vi_calloff rfl ?_ | refine vi_chkoff rfl ?_))
    refine vq_end rfl ?_
    exact hq

theorem pick_spec (h : Heap) (k : Int) (n : Nat) (h0 : 0 < n) (h1 : n < 1000) (Q : AV → Heap → Prop) (hq : ∀ j : Nat, j < n → Q (.int .i64 (j : Int)) h) :
    C 30 [.int .i64 k, .int .i64 (n : Int)] h Q := by
  refine vw_start sysJ fn30 rfl ?_
  have hb1 : k.tmod n < n := Int.tmod_lt_of_pos k (by omega)
  have hb2 : -(n : Int) < k.tmod n := Int.lt_tmod_of_pos k (by omega)
  (repeat (first
    | refine vi_op rfl rfl rfl rfl rfl ?_
    | refine vi_inc rfl rfl (by omega) ?_
    | refine vi_dec rfl rfl (by omega) ?_
    | refine vi_not rfl rfl ?_
    | refine vi_load rfl rfl (by assumption) rfl ?_
    | refine vi_storeL rfl rfl rfl rfl rfl ?_
    | refine vi_nil ?_ | refine sq_seq ?_ | refine sw_seq ?_ | refine sw_items ?_ | refine sw_ret ?_ | refine sq_seq_r ?_ | refine sq_seq_x ?_ | refine sw_skip ?_ | refine sw_exit ?_
    | refine sw_block ?_ | refine sq_block ?_ | refine sq_block_r ?_ | refine sq_block_x ?_ | refine sq_block_o rfl ?_ | refine vq_loop_x ?_ | refine vq_loop_r ?_ | refine vi_chk rfl rfl rfl rfl ?_ | refine vi_chkload rfl rfl (by assumption) rfl rfl ?_ | refine vi_off rfl ?_ | refine vi_calloff rfl ?_ | refine vi_chkoff rfl ?_))
  refine vi_rem rfl rfl rfl (by omega) ?_
  (repeat (first
    | refine vi_op rfl rfl rfl rfl rfl ?_
    | refine vi_inc rfl rfl (by omega) ?_
    | refine vi_dec rfl rfl (by omega) ?_
    | refine vi_not rfl rfl ?_
    | refine vi_load rfl rfl (by assumption) rfl ?_
    | refine vi_storeL rfl rfl rfl rfl rfl ?_
    | refine vi_nil ?_ | refine sq_seq ?_ | refine sw_seq ?_ | refine sw_items ?_ | refine sw_ret ?_ | refine sq_seq_r ?_ | refine sq_seq_x ?_ | refine sw_skip ?_ | refine sw_exit ?_
    | refine sw_block ?_ | refine sq_block ?_ | refine sq_block_r ?_ | refine sq_block_x ?_ | refine sq_block_o rfl ?_ | refine vq_loop_x ?_ | refine vq_loop_r ?_ | refine vi_chk rfl rfl rfl rfl ?_ | refine vi_chkload rfl rfl (by assumption) rfl rfl ?_ | refine vi_off rfl ?_ | refine vi_calloff rfl ?_ | refine vi_chkoff rfl ?_))
  refine vw_cond _ rfl (fun hc => ?_) (fun hc => ?_)
  · have hc' : k.tmod n < 0 := by simpa using hc
    obtain ⟨j, hj⟩ : ∃ j : Nat, k.tmod n + n = j := ⟨(k.tmod n + n).toNat, by omega⟩
    (repeat (first
    | refine vi_op rfl rfl rfl rfl rfl ?_
    | refine vi_inc rfl rfl (by omega) ?_
    | refine vi_dec rfl rfl (by omega) ?_
    | refine vi_not rfl rfl ?_
    | refine vi_load rfl rfl (by assumption) rfl ?_
    | refine vi_storeL rfl rfl rfl rfl rfl ?_
    | refine vi_nil ?_ | refine sq_seq ?_ | refine sw_seq ?_ | refine sw_items ?_ | refine sw_ret ?_ | refine sq_seq_r ?_ | refine sq_seq_x ?_ | refine sw_skip ?_ | refine sw_exit ?_
    | refine sw_block ?_ | refine sq_block ?_ | refine sq_block_r ?_ | refine sq_block_x ?_ | refine sq_block_o rfl ?_ | refine vq_loop_x ?_ | refine vq_loop_r ?_ | refine vi_chk rfl rfl rfl rfl ?_ | refine vi_chkload rfl rfl (by assumption) rfl rfl ?_ | refine vi_off rfl ?_ | refine vi_calloff rfl ?_ | refine vi_chkoff rfl ?_))
    refine vi_add rfl rfl rfl hj (by omega) (by omega) ?_
    (repeat (first
    | refine vi_op rfl rfl rfl rfl rfl ?_
    | refine vi_inc rfl rfl (by omega) ?_
    | refine vi_dec rfl rfl (by omega) ?_
    | refine vi_not rfl rfl ?_
    | refine vi_load rfl rfl (by assumption) rfl ?_
    | refine vi_storeL rfl rfl rfl rfl rfl ?_
    | refine vi_nil ?_ | refine sq_seq ?_ | refine sw_seq ?_ | refine sw_items ?_ | refine sw_ret ?_ | refine sq_seq_r ?_ | refine sq_seq_x ?_ | refine sw_skip ?_ | refine sw_exit ?_
    | refine sw_block ?_ | refine sq_block ?_ | refine sq_block_r ?_ | refine sq_block_x ?_ | refine sq_block_o rfl ?_ | refine vq_loop_x ?_ | refine vq_loop_r ?_ | refine vi_chk rfl rfl rfl rfl ?_ | refine vi_chkload rfl rfl (by assumption) rfl rfl ?_ | refine vi_off rfl ?_ | refine vi_calloff rfl ?_ | refine vi_chkoff rfl ?_))
    refine vq_end rfl ?_
    exact hq j (by omega)
  · have hc' : ¬ k.tmod n < 0 := by simpa using hc
    obtain ⟨j, hj⟩ : ∃ j : Nat, k.tmod n = j := ⟨(k.tmod n).toNat, by omega⟩
    (repeat (first
    | refine vi_op rfl rfl rfl rfl rfl ?_
    | refine vi_inc rfl rfl (by omega) ?_
    | refine vi_dec rfl rfl (by omega) ?_
    | refine vi_not rfl rfl ?_
    | refine vi_load rfl rfl (by assumption) rfl ?_
    | refine vi_storeL rfl rfl rfl rfl rfl ?_
    | refine vi_nil ?_ | refine sq_seq ?_ | refine sw_seq ?_ | refine sw_items ?_ | refine sw_ret ?_ | refine sq_seq_r ?_ | refine sq_seq_x ?_ | refine sw_skip ?_ | refine sw_exit ?_
    | refine sw_block ?_ | refine sq_block ?_ | refine sq_block_r ?_ | refine sq_block_x ?_ | refine sq_block_o rfl ?_ | refine vq_loop_x ?_ | refine vq_loop_r ?_ | refine vi_chk rfl rfl rfl rfl ?_ | refine vi_chkload rfl rfl (by assumption) rfl rfl ?_ | refine vi_off rfl ?_ | refine vi_calloff rfl ?_ | refine vi_chkoff rfl ?_))
    refine vq_end rfl ?_
    have := hq j (by omega)
    rw [← hj] at this
    exact this
end Go.AM.J
