/- Own work. This text shows: how the machine's values lie in the model's memory, and the first operations. -/
import Derived.Test.YtcipamnhmeplkaaGreatDoorAm1
import Derived.Orders
import Derived.Laws.Cells
import Derived.Laws.Strings
import Derived.Laws.Strings2
import Derived.Laws.Concat
import Derived.Laws.Bits
import Derived.Laws.StructEq
set_option linter.unusedVariables false
set_option linter.unusedSimpArgs false
namespace Go.AM

inductive RefSt where
  | none | live (b base lim : Nat) | dead
  deriving DecidableEq

structure Tok where
  e : Nat
  b : Nat
  fin : Nat
  lim : Nat
  sz : Nat

/-- How the abstract references lie in the world; `F`: cells that nobody writes any more. -/
structure Sim where
  ρ : Nat → RefSt
  tk : Nat → Option Tok
  F : Nat → Nat → Option Value

def CapOk (S : Sim) (c : Cap) (base : Option Addr) (len cap : Nat) : Prop :=
  match c with
  | .unk => True
  | .exact => cap = len
  | .nn => base.isSome = true
  | .nil0 => base = none
  | .tok t e => ∃ x, S.tk t = some x ∧ e ≤ x.e ∧ (e = x.e → len < cap → ∃ o, base = some ⟨x.b, o, none⟩ ∧ o + len * x.sz = x.fin ∧ o + cap * x.sz ≤ x.lim)

mutual
def VRel (S : Sim) : AV → Value → Prop
  | .bool b, c => c = .bool b
  | .int k n, c => c = .int k n
  | .str s, c => c = .string ⟨s.toArray⟩
  | .nilp, c => c = .pointer none
  | .ptr r off, c => match S.ρ r with
      | .live b base _ => c = .pointer (some ⟨b, base + off, none⟩)
      | .dead => ∃ b o, c = .pointer (some ⟨b, o, none⟩)
      | .none => False
  | .ep cs off, c => ∃ b o, c = .pointer (some ⟨b, o + off, none⟩) ∧ VMem S cs b o
  | .adr _ _, _ => False
  | .nils, c => c = .slice none 0 0
  | .vs cp xs, c => ∃ base cap, c = .slice base xs.length cap ∧ xs.length ≤ cap ∧ CapOk S cp base xs.length cap ∧
      (xs = [] ∨ ∃ b o sz, base = some ⟨b, o, none⟩ ∧ 1 ≤ sz ∧ VEls S xs b o sz)
  | .hs r off n sz, c => match S.ρ r with
      | .live b base lim => ∃ a cap, c = .slice (some a) n cap ∧ n ≤ cap ∧ (0 < cap → a = ⟨b, base + off, none⟩ ∧ base + off + cap * sz ≤ lim)
      | .dead => ∃ a cap, c = .slice (some a) n cap ∧ n ≤ cap ∧ (0 < cap → a.spot = none)
      | .none => False
  | .nilm, c => c = .map none
  | .mp r, c => match S.ρ r with
      | .live b _ _ => c = .map (some b)
      | .dead => ∃ b, c = .map (some b)
      | .none => False
  | .fn f x y, c => ∃ cx cy : List Value, c = .func f cx.toArray cy.toArray ∧ VRelL S x cx ∧ VRelL S y cy
  | .nilf, c => c = .nilFunc
  | .ifc t v, c => ∃ cv, c = .iface t cv ∧ VRel S v cv
  | .nili, c => c = .nilIface
  | .agg cs, c => ∃ l : List Value, c = .agg l.toArray ∧ VRelL S cs l
  | .tup cs, c => ∃ l : List Value, c = .tuple l.toArray ∧ VRelL S cs l
def VRelL (S : Sim) : List AV → List Value → Prop
  | [], l => l = []
  | v :: vs, l => ∃ c cs, l = c :: cs ∧ VRel S v c ∧ VRelL S vs cs
def VMem (S : Sim) : List AV → Nat → Nat → Prop
  | [], _, _ => True
  | v :: vs, b, o => (∃ c, S.F b o = some c ∧ VRel S v c) ∧ VMem S vs b (o + 1)
def VEls (S : Sim) : List AV → Nat → Nat → Nat → Prop
  | [], _, _, _ => True
  | .agg cs :: xs, b, o, sz => cs.length = sz ∧ VMem S cs b o ∧ VEls S xs b (o + sz) sz
  | x :: xs, b, o, sz => sz = 1 ∧ (∃ c, S.F b o = some c ∧ VRel S x c) ∧ VEls S xs b (o + sz) sz
end

structure SimLe (S S' : Sim) : Prop where
  ρ : ∀ r, S'.ρ r = S.ρ r ∨ S.ρ r = .none ∨ (S'.ρ r = .dead ∧ ∃ b base lim, S.ρ r = .live b base lim)
  tk : ∀ t x, S.tk t = some x → ∃ x', S'.tk t = some x' ∧ x.e ≤ x'.e ∧ (x.e = x'.e → x' = x)
  F : ∀ b o v, S.F b o = some v → S'.F b o = some v

theorem SimLe.refl (S : Sim) : SimLe S S := ⟨fun _ => .inl rfl, fun _ x h => ⟨x, h, Nat.le_refl _, fun _ => rfl⟩, fun _ _ _ h => h⟩
theorem SimLe.trans {A B C : Sim} (h : SimLe A B) (k : SimLe B C) : SimLe A C := by
  refine ⟨fun r => ?_, fun t x hx => ?_, fun b o v hv => k.F _ _ _ (h.F _ _ _ hv)⟩
  · rcases h.ρ r with h1 | h1 | ⟨h1, h2⟩
    · rcases k.ρ r with k1 | k1 | ⟨k1, k2⟩
      · exact .inl (k1.trans h1)
      · exact .inr (.inl (by rw [← h1]; exact k1))
      · exact .inr (.inr ⟨k1, by rw [← h1]; exact k2⟩)
    · exact .inr (.inl h1)
    · rcases k.ρ r with k1 | k1 | ⟨k1, k2⟩
      · exact .inr (.inr ⟨k1.trans h1, h2⟩)
      · rw [h1] at k1; cases k1
      · exact .inr (.inr ⟨k1, h2⟩)
  · obtain ⟨y, hy, h1, h2⟩ := h.tk t x hx
    obtain ⟨z, hz, k1, k2⟩ := k.tk t y hy
    refine ⟨z, hz, Nat.le_trans h1 k1, fun e => ?_⟩
    have e1 : x.e = y.e := by omega
    have := h2 e1; subst this
    exact k2 e

theorem CapOk.mono {S S' : Sim} (h : SimLe S S') {c : Cap} {base : Option Addr} {len cap : Nat} (k : CapOk S c base len cap) : CapOk S' c base len cap := by
  cases c with
  | unk => trivial
  | exact => exact k
  | nn => exact k
  | nil0 => exact k
  | tok t e =>
    obtain ⟨x, hx, he, hk⟩ := k
    obtain ⟨y, hy, h1, h2⟩ := h.tk t x hx
    refine ⟨y, hy, by omega, fun e1 => ?_⟩
    have e2 : x.e = y.e := by omega
    have := h2 e2; subst this
    exact hk e1

mutual
theorem VRel.mono {S S' : Sim} (h : SimLe S S') : ∀ (v : AV) (c : Value), VRel S v c → VRel S' v c
  | .bool b, c, k => by simp only [VRel] at *; exact k
  | .int _ _, c, k => by simp only [VRel] at *; exact k
  | .str s, c, k => by simp only [VRel] at *; exact k
  | .nilp, c, k => by simp only [VRel] at *; exact k
  | .ptr r off, c, k => by
    simp only [VRel] at *
    rcases h.ρ r with h1 | h1 | ⟨h1, b, base, lim, h2⟩
    · rw [h1]; exact k
    · rw [h1] at k; exact k.elim
    · rw [h1]; rw [h2] at k; exact ⟨_, _, k⟩
  | .ep cs off, c, k => by
    simp only [VRel] at *
    obtain ⟨b, o, hc, hm⟩ := k
    exact ⟨b, o, hc, VMem.mono h cs b o hm⟩
  | .adr _ _, c, k => by simp only [VRel] at *
  | .nils, c, k => by simp only [VRel] at *; exact k
  | .vs cp xs, c, k => by
    simp only [VRel] at *
    obtain ⟨base, cap, hc, hl, ho, hx⟩ := k
    refine ⟨base, cap, hc, hl, ho.mono h, hx.imp id ?_⟩
    rintro ⟨b, o, sz, h1, h2, h3⟩
    exact ⟨b, o, sz, h1, h2, VEls.mono h xs b o sz h3⟩
  | .hs r off n sz, c, k => by
    simp only [VRel] at *
    rcases h.ρ r with h1 | h1 | ⟨h1, b, base, lim, h2⟩
    · rw [h1]; exact k
    · rw [h1] at k; exact k.elim
    · rw [h1]; rw [h2] at k
      obtain ⟨a, cap, hc, hl, hk⟩ := k
      exact ⟨a, cap, hc, hl, fun h0 => by rw [(hk h0).1]⟩
  | .nilm, c, k => by simp only [VRel] at *; exact k
  | .mp r, c, k => by
    simp only [VRel] at *
    rcases h.ρ r with h1 | h1 | ⟨h1, b, base, lim, h2⟩
    · rw [h1]; exact k
    · rw [h1] at k; exact k.elim
    · rw [h1]; rw [h2] at k; exact ⟨_, k⟩
  | .fn f x y, c, k => by
    simp only [VRel] at *
    obtain ⟨cx, cy, hc, hx, hy⟩ := k
    exact ⟨cx, cy, hc, VRelL.mono h x cx hx, VRelL.mono h y cy hy⟩
  | .nilf, c, k => by simp only [VRel] at *; exact k
  | .ifc t v, c, k => by
    simp only [VRel] at *
    obtain ⟨cv, hc, hv⟩ := k
    exact ⟨cv, hc, VRel.mono h v cv hv⟩
  | .nili, c, k => by simp only [VRel] at *; exact k
  | .agg cs, c, k => by
    simp only [VRel] at *
    obtain ⟨l, hc, hl⟩ := k
    exact ⟨l, hc, VRelL.mono h cs l hl⟩
  | .tup cs, c, k => by
    simp only [VRel] at *
    obtain ⟨l, hc, hl⟩ := k
    exact ⟨l, hc, VRelL.mono h cs l hl⟩
theorem VRelL.mono {S S' : Sim} (h : SimLe S S') : ∀ (vs : List AV) (l : List Value), VRelL S vs l → VRelL S' vs l
  | [], l, k => by simp only [VRelL] at *; exact k
  | v :: vs, l, k => by
    simp only [VRelL] at *
    obtain ⟨c, cs, hl, hv, hvs⟩ := k
    exact ⟨c, cs, hl, VRel.mono h v c hv, VRelL.mono h vs cs hvs⟩
theorem VMem.mono {S S' : Sim} (h : SimLe S S') : ∀ (vs : List AV) (b o : Nat), VMem S vs b o → VMem S' vs b o
  | [], b, o, k => by simp only [VMem]
  | v :: vs, b, o, k => by
    simp only [VMem] at *
    obtain ⟨⟨c, hF, hv⟩, hvs⟩ := k
    exact ⟨⟨c, h.F _ _ _ hF, VRel.mono h v c hv⟩, VMem.mono h vs b (o + 1) hvs⟩
theorem VEls.mono {S S' : Sim} (h : SimLe S S') : ∀ (xs : List AV) (b o sz : Nat), VEls S xs b o sz → VEls S' xs b o sz
  | [], b, o, sz, k => by simp only [VEls]
  | x :: xs, b, o, sz, k => by
    cases x with
    | agg cs =>
      simp only [VEls] at *
      exact ⟨k.1, VMem.mono h cs b o k.2.1, VEls.mono h xs b (o + sz) sz k.2.2⟩
    | _ =>
      simp only [VEls] at *
      obtain ⟨h1, ⟨c, hF, hv⟩, h3⟩ := k
      exact ⟨h1, ⟨c, h.F _ _ _ hF, VRel.mono h _ c hv⟩, VEls.mono h xs b (o + sz) sz h3⟩
end

end Go.AM

set_option linter.unusedVariables false
set_option linter.unusedSimpArgs false
namespace Go.AM
variable {S : Sim}

theorem VRelL.len : ∀ {vs : List AV} {l : List Value}, VRelL S vs l → l.length = vs.length
  | [], l, h => by simp only [VRelL] at h; simp [h]
  | v :: vs, l, h => by
    simp only [VRelL] at h
    obtain ⟨c, cs, rfl, _, h⟩ := h
    simp [h.len]
theorem VRelL.get : ∀ {vs : List AV} {l : List Value}, VRelL S vs l → ∀ (i : Nat) v, vs[i]? = some v → ∃ c, l[i]? = some c ∧ VRel S v c
  | [], l, h, i, v, hv => by simp at hv
  | u :: vs, l, h, i, v, hv => by
    simp only [VRelL] at h
    obtain ⟨c, cs, rfl, hc, h⟩ := h
    cases i with
    | zero => simp at hv; subst hv; exact ⟨c, rfl, hc⟩
    | succ i => simp at hv ⊢; exact h.get i v hv
theorem VRelL.of : ∀ {vs : List AV} {l : List Value}, l.length = vs.length → (∀ (i : Nat) v c, vs[i]? = some v → l[i]? = some c → VRel S v c) → VRelL S vs l
  | [], l, hl, _ => by simp only [VRelL]; cases l <;> simp_all
  | v :: vs, [], hl, _ => by simp at hl
  | v :: vs, c :: cs, hl, h => by
    simp only [VRelL]
    exact ⟨c, cs, rfl, h 0 v c rfl rfl, VRelL.of (by simpa using hl) fun i v c h1 h2 => h (i + 1) v c (by simpa using h1) (by simpa using h2)⟩
theorem VRelL.nil : VRelL S [] [] := by simp only [VRelL]
theorem VRelL.cons {v : AV} {c : Value} {vs : List AV} {l : List Value} (h : VRel S v c) (k : VRelL S vs l) : VRelL S (v :: vs) (c :: l) := by
  simp only [VRelL]; exact ⟨c, l, rfl, h, k⟩
theorem VRelL.app : ∀ {a : List AV} {x : List Value} {b : List AV} {y : List Value}, VRelL S a x → VRelL S b y → VRelL S (a ++ b) (x ++ y)
  | [], x, b, y, h, k => by simp only [VRelL] at h; subst h; simpa using k
  | v :: a, x, b, y, h, k => by
    simp only [VRelL] at h
    obtain ⟨c, cs, rfl, hc, h⟩ := h
    exact (h.app k).cons hc
theorem VRelL.take {a : List AV} {x : List Value} (h : VRelL S a x) (n : Nat) : VRelL S (a.take n) (x.take n) := by
  refine .of (by simp [h.len]) fun i v c h1 h2 => ?_
  rw [List.getElem?_take] at h1 h2
  split at h1 <;> simp_all
  obtain ⟨c', e, hv⟩ := h.get i v h1
  simp_all
theorem VRelL.drop {a : List AV} {x : List Value} (h : VRelL S a x) (n : Nat) : VRelL S (a.drop n) (x.drop n) := by
  refine .of (by simp [h.len]) fun i v c h1 h2 => ?_
  rw [List.getElem?_drop] at h1 h2
  obtain ⟨c', e, hv⟩ := h.get _ v h1
  simp_all
theorem VRelL.set {a : List AV} {x : List Value} (h : VRelL S a x) (i : Nat) {v : AV} {c : Value} (hv : VRel S v c) : VRelL S (a.set i v) (x.set i c) := by
  refine .of (by simp [h.len]) fun j u d h1 h2 => ?_
  rw [List.getElem?_set] at h1 h2
  split at h1
  · rename_i hij
    subst hij
    rw [if_pos rfl] at h2
    split at h1 <;> split at h2 <;> simp_all
  · rename_i hij
    rw [if_neg hij] at h2
    obtain ⟨d', e, hd⟩ := h.get j u h1
    simp_all

theorem VMem.get : ∀ {vs : List AV} {b o : Nat}, VMem S vs b o → ∀ (i : Nat) v, vs[i]? = some v → ∃ c, S.F b (o + i) = some c ∧ VRel S v c
  | [], b, o, h, i, v, hv => by simp at hv
  | u :: vs, b, o, h, i, v, hv => by
    simp only [VMem] at h
    cases i with
    | zero => simp at hv; subst hv; exact h.1
    | succ i =>
      simp at hv
      obtain ⟨c, e, hc⟩ := h.2.get i v hv
      exact ⟨c, by rw [← e]; congr 1; omega, hc⟩
theorem VMem.of : ∀ {vs : List AV} {b o : Nat}, (∀ (i : Nat) v, vs[i]? = some v → ∃ c, S.F b (o + i) = some c ∧ VRel S v c) → VMem S vs b o
  | [], b, o, _ => by simp only [VMem]
  | v :: vs, b, o, h => by
    simp only [VMem]
    refine ⟨h 0 v rfl, VMem.of fun i u hu => ?_⟩
    obtain ⟨c, e, hc⟩ := h (i + 1) u (by simpa using hu)
    exact ⟨c, by rw [← e]; congr 1; omega, hc⟩
theorem VMem.app {a b : List AV} {k o : Nat} : VMem S (a ++ b) k o ↔ VMem S a k o ∧ VMem S b k (o + a.length) := by
  constructor
  · intro h
    refine ⟨.of fun i v hv => h.get i v ?_, .of fun i v hv => ?_⟩
    · rw [List.getElem?_append_left (List.getElem?_eq_some_iff.1 hv).1]; exact hv
    · obtain ⟨c, e, hc⟩ := h.get (a.length + i) v (by rw [List.getElem?_append_right (by omega)]; simpa using hv)
      exact ⟨c, by rw [← e]; congr 1; omega, hc⟩
  · rintro ⟨h, k⟩
    refine .of fun i v hv => ?_
    by_cases hi : i < a.length
    · exact h.get i v (by rwa [List.getElem?_append_left hi] at hv)
    · rw [List.getElem?_append_right (by omega)] at hv
      obtain ⟨c, e, hc⟩ := k.get _ v hv
      exact ⟨c, by rw [← e]; congr 1; omega, hc⟩
theorem VMem.take {a : List AV} {k o : Nat} (h : VMem S a k o) (n : Nat) : VMem S (a.take n) k o :=
  .of fun i v hv => h.get i v (by rw [List.getElem?_take] at hv; split at hv <;> simp_all)
theorem VMem.drop {a : List AV} {k o : Nat} (h : VMem S a k o) (n : Nat) : VMem S (a.drop n) k (o + n) :=
  .of fun i v hv => by
    rw [List.getElem?_drop] at hv
    obtain ⟨c, e, hc⟩ := h.get _ v hv
    exact ⟨c, by rw [← e]; congr 1; omega, hc⟩

theorem AV.cells_of_ne {v : AV} (h : ∀ cs, v ≠ .agg cs) : v.cells = [v] := by
  cases v <;> first | rfl | exact absurd rfl (h _)
theorem VEls.cons {x : AV} {xs : List AV} {b o sz : Nat} : VEls S (x :: xs) b o sz ↔ x.cells.length = sz ∧ VMem S x.cells b o ∧ VEls S xs b (o + sz) sz := by
  cases x with
  | agg cs => simp only [VEls, AV.cells]
  | _ => simp only [VEls, AV.cells, VMem, List.length_cons, List.length_nil, and_true, Nat.zero_add]; constructor <;> rintro ⟨h1, h2, h3⟩ <;> exact ⟨h1.symm, h2, h3⟩
theorem VEls.nil {b o sz : Nat} : VEls S [] b o sz := by simp only [VEls]
theorem VEls.app {b sz : Nat} : ∀ {xs ys : List AV} {o : Nat}, VEls S (xs ++ ys) b o sz ↔ VEls S xs b o sz ∧ VEls S ys b (o + xs.length * sz) sz
  | [], ys, o => by simp [VEls.nil]
  | x :: xs, ys, o => by
    rw [List.cons_append, VEls.cons, VEls.cons, VEls.app, show o + (x :: xs).length * sz = o + sz + xs.length * sz by simp [Nat.add_mul]; omega]
    constructor
    · rintro ⟨a, b, c, d⟩; exact ⟨⟨a, b, c⟩, d⟩
    · rintro ⟨⟨a, b, c⟩, d⟩; exact ⟨a, b, c, d⟩
theorem VEls.get {b sz : Nat} : ∀ {xs : List AV} {o : Nat}, VEls S xs b o sz → ∀ (j : Nat) x, xs[j]? = some x → x.cells.length = sz ∧ VMem S x.cells b (o + j * sz)
  | [], o, h, j, x, hx => by simp at hx
  | y :: xs, o, h, j, x, hx => by
    rw [VEls.cons] at h
    cases j with
    | zero => simp at hx; subst hx; exact ⟨h.1, by simpa using h.2.1⟩
    | succ j =>
      simp at hx
      have := h.2.2.get j x hx
      exact ⟨this.1, by rw [show o + (j + 1) * sz = o + sz + j * sz by simp [Nat.add_mul]; omega]; exact this.2⟩
theorem VEls.take {xs : List AV} {b o sz : Nat} (h : VEls S xs b o sz) (n : Nat) : VEls S (xs.take n) b o sz := by
  rw [← List.take_append_drop n xs, VEls.app] at h
  exact h.1
theorem VEls.drop {xs : List AV} {b o sz : Nat} (h : VEls S xs b o sz) (n : Nat) (hn : n ≤ xs.length) : VEls S (xs.drop n) b (o + n * sz) sz := by
  rw [← List.take_append_drop n xs, VEls.app] at h
  have := h.2
  rwa [List.length_take, Nat.min_eq_left hn] at this
theorem flat_len {sz : Nat} : ∀ {xs : List AV}, (∀ x ∈ xs, x.cells.length = sz) → (xs.flatMap AV.cells).length = xs.length * sz
  | [], _ => by simp
  | x :: xs, h => by
    simp only [List.flatMap_cons, List.length_append, List.length_cons]
    rw [h x (by simp), flat_len fun y hy => h y (by simp [hy]), Nat.add_mul]; omega
theorem VEls.sizes {b sz : Nat} {xs : List AV} {o : Nat} (h : VEls S xs b o sz) : ∀ x ∈ xs, x.cells.length = sz := fun x hx => by
  obtain ⟨j, hj⟩ := List.mem_iff_getElem?.1 hx
  exact (h.get j x hj).1
theorem VEls.flat {b sz : Nat} : ∀ {xs : List AV} {o : Nat}, VEls S xs b o sz ↔ (∀ x ∈ xs, x.cells.length = sz) ∧ VMem S (xs.flatMap AV.cells) b o
  | [], o => by simp [VEls.nil, VMem]
  | x :: xs, o => by
    rw [VEls.cons, VEls.flat, List.flatMap_cons, VMem.app]
    constructor
    · rintro ⟨a, b, c, d⟩
      exact ⟨fun y hy => by rcases List.mem_cons.1 hy with rfl | hy; exact a; exact c y hy, b, by rw [a]; exact d⟩
    · rintro ⟨a, b, c⟩
      have := a x (by simp)
      exact ⟨this, b, fun y hy => a y (by simp [hy]), by rw [← this]; exact c⟩

theorem CapOk.unk {base : Option Addr} {len cap : Nat} : CapOk S .unk base len cap := trivial
theorem VRel.er1 {v : AV} {c : Value} (h : VRel S v c) : VRel S v.er1 c := by
  cases v with
  | nils =>
    simp only [VRel] at h; subst h
    simp only [AV.er1, VRel]
    exact ⟨none, 0, rfl, Nat.le_refl _, trivial, .inl trivial⟩
  | vs cp xs =>
    simp only [VRel] at h
    obtain ⟨base, cap, hc, hl, _, hx⟩ := h
    simp only [AV.er1, VRel]
    exact ⟨base, cap, hc, hl, trivial, hx⟩
  | _ => exact h
theorem VRel.ek1 {v : AV} {c : Value} (h : VRel S v c) : VRel S v.ek1 c := by
  cases v with
  | vs cp xs =>
    simp only [VRel] at h
    obtain ⟨base, cap, hc, hl, _, hx⟩ := h
    simp only [AV.ek1, VRel]
    exact ⟨base, cap, hc, hl, trivial, hx⟩
  | _ => exact h
theorem VRelL.er1 {vs : List AV} {l : List Value} (h : VRelL S vs l) : VRelL S (vs.map AV.er1) l :=
  .of (by simp [h.len]) fun i v c h1 h2 => by
    simp only [List.getElem?_map, Option.map_eq_some_iff] at h1
    obtain ⟨u, hu, rfl⟩ := h1
    obtain ⟨c', e, hc⟩ := h.get i u hu
    rw [e] at h2; cases h2
    exact hc.er1
theorem VRelL.ek1 {vs : List AV} {l : List Value} (h : VRelL S vs l) : VRelL S (vs.map AV.ek1) l :=
  .of (by simp [h.len]) fun i v c h1 h2 => by
    simp only [List.getElem?_map, Option.map_eq_some_iff] at h1
    obtain ⟨u, hu, rfl⟩ := h1
    obtain ⟨c', e, hc⟩ := h.get i u hu
    rw [e] at h2; cases h2
    exact hc.ek1
theorem VRel.er {v : AV} {c : Value} (h : VRel S v c) : VRel S v.er c := by
  cases v with
  | agg cs =>
    simp only [VRel] at h
    obtain ⟨l, rfl, hl⟩ := h
    simp only [AV.er, VRel]
    exact ⟨l, rfl, hl.er1⟩
  | _ => exact h.er1
theorem VRel.ek {v : AV} {c : Value} (h : VRel S v c) : VRel S v.ek c := by
  cases v with
  | agg cs =>
    simp only [VRel] at h
    obtain ⟨l, rfl, hl⟩ := h
    simp only [AV.ek, VRel]
    exact ⟨l, rfl, hl.ek1⟩
  | _ => exact h.ek1
theorem VRelL.er {vs : List AV} {l : List Value} (h : VRelL S vs l) : VRelL S (vs.map AV.er) l :=
  .of (by simp [h.len]) fun i v c h1 h2 => by
    simp only [List.getElem?_map, Option.map_eq_some_iff] at h1
    obtain ⟨u, hu, rfl⟩ := h1
    obtain ⟨c', e, hc⟩ := h.get i u hu
    rw [e] at h2; cases h2
    exact hc.er
theorem VRel.erR {v : AV} {c : Value} (h : VRel S v c) : VRel S v.erR c := by
  cases v with
  | tup cs =>
    simp only [VRel] at h
    obtain ⟨l, rfl, hl⟩ := h
    simp only [AV.erR, VRel]
    exact ⟨l, rfl, hl.er⟩
  | _ => exact h.er

/-- the cells of a value -/
theorem VRel.cells {v : AV} {c : Value} (h : VRel S v c) : ∃ l : List Value, c.cells = l.toArray ∧ VRelL S v.cells l := by
  cases v with
  | agg cs =>
    simp only [VRel] at h
    obtain ⟨l, rfl, hl⟩ := h
    exact ⟨l, rfl, hl⟩
  | adr t o => simp only [VRel] at h
  | _ =>
    refine ⟨[c], ?_, VRelL.nil.cons h⟩
    simp only [VRel] at h
    first
      | (subst h; rfl)
      | (obtain ⟨_, _, rfl, _⟩ := h; rfl)
      | (obtain ⟨_, rfl, _⟩ := h; rfl)
      | (split at h <;> first | (subst h; rfl) | (obtain ⟨_, _, rfl⟩ := h; rfl) | (obtain ⟨_, _, rfl, _⟩ := h; rfl) | (obtain ⟨_, rfl⟩ := h; rfl) | exact h.elim)

end Go.AM

set_option linter.unusedVariables false
set_option linter.unusedSimpArgs false
namespace Go.AM

def Owns (S : Sim) (b : Nat) : Prop := (∃ r base lim, S.ρ r = .live b base lim) ∨ ∃ t x, S.tk t = some x ∧ x.b = b

/-- not frozen between two places -/
def Thaw (fr : Nat × Nat) (lo hi : Nat) : Prop := ∀ o, lo ≤ o → o ≤ o → ¬(fr.1 ≤ o ∧ o < fr.2)

def EntRel (S : Sim) : List (AV × AV × Nat) → List MapEntry → Prop
  | [], l => l = []
  | (k, v, n) :: es, l => ∃ m ms, l = m :: ms ∧ VRel S k m.key ∧ VRel S v m.val ∧ m.born = n ∧ EntRel S es ms

def ObjRel (S : Sim) (w : World) (r : Nat) : AObj → Prop
  | .cells cs => ∃ b base lim, S.ρ r = .live b base lim ∧ ∃ c el fr, w.heap[b]? = some (.cells c el fr) ∧ base + cs.length ≤ lim ∧ lim ≤ c.size ∧
      Thaw fr base lim ∧ ∀ i v, cs[i]? = some v → ∃ cv, c[base + i]? = some cv ∧ VRel S v cv
  | .map es clk => ∃ b base lim, S.ρ r = .live b base lim ∧ ∃ ces, w.heap[b]? = some (.map ces clk) ∧ EntRel S es ces.toList ∧
      (es.map (·.2.2)).Pairwise (· < ·) ∧ ∀ x ∈ es, x.2.2 < clk
  | .tip e sz => ∃ x, S.tk r = some x ∧ x.e = e ∧ x.sz = sz ∧ ∃ c el fr, w.heap[x.b]? = some (.cells c el fr) ∧ x.fin ≤ x.lim ∧ x.lim ≤ c.size ∧ Thaw fr x.fin x.lim
  | .sit s pos => ∃ b lim, S.ρ r = .live b 0 lim ∧ w.heap[b]? = some (.stringIter ⟨s.toArray⟩ pos)
  | .mit m es clk left cur => ∃ b lim, S.ρ r = .live b 0 lim ∧ match m with
      | none => ∃ a c d, w.heap[b]? = some (.mapIter none a c d)
      | some mr => ∃ mb, (S.ρ mr = .dead ∨ ∃ x y, S.ρ mr = .live mb x y) ∧ ∃ seen, w.heap[b]? = some (.mapIter (some mb) clk seen clk) ∧
          left = es.filter (fun x => !seen.contains x.2.2) ∧ (∀ u, cur = some u → ∃ k v n, u = .tup [k, v] ∧ (k, v, n) ∈ es ∧ seen.back? = some n)

structure WRel (G : GTab) (S : Sim) (h : Heap) (w : World) : Prop where
  obj : ∀ r x, h.get r = some x → ObjRel S w r x
  inj : ∀ r r' b x y x' y', S.ρ r = .live b x y → S.ρ r' = .live b x' y' → r = r'
  tinj : ∀ t t' x x', S.tk t = some x → S.tk t' = some x' → x.b = x'.b → t = t'
  rt : ∀ r b x y t z, S.ρ r = .live b x y → S.tk t = some z → z.b ≠ b
  ob : ∀ b, Owns S b → b < w.heap.size
  Fc : ∀ b o v, S.F b o = some v → w.cell? ⟨b, o, none⟩ = some v
  Fr : ∀ b o v r x y, S.F b o = some v → S.ρ r ≠ .live b x y
  Ft : ∀ b o v t x, S.F b o = some v → S.tk t = some x → x.b = b → o < x.fin
  nr : ∀ r, h.next ≤ r → S.ρ r = .none
  nt : ∀ t, h.next ≤ t → S.tk t = none
  no : ∀ r, h.next ≤ r → h.get r = none
  gl : ∀ g cs, G g = some cs → VMem S cs g 0

structure Ext (S : Sim) (w : World) (S' : Sim) (w' : World) : Prop where
  le : SimLe S S'
  size : w.heap.size ≤ w'.heap.size
  same : ∀ b, b < w.heap.size → ¬ Owns S b → w'.heap[b]? = w.heap[b]?
  owns : ∀ b, Owns S' b → Owns S b ∨ w.heap.size ≤ b
  F : ∀ b o, S'.F b o ≠ none → S.F b o ≠ none ∨ Owns S b ∨ w.heap.size ≤ b
  os : w'.os = w.os
  tape : w'.tape = w.tape
  output : w'.output = w.output

theorem Ext.refl (S : Sim) (w : World) : Ext S w S w := ⟨.refl S, Nat.le_refl _, fun _ _ _ => rfl, fun _ h => .inl h, fun _ _ h => .inl h, rfl, rfl, rfl⟩
theorem Ext.trans {A B C : Sim} {u v w : World} (h : Ext A u B v) (k : Ext B v C w) : Ext A u C w where
  le := h.le.trans k.le
  size := Nat.le_trans h.size k.size
  same b hb ho := by
    rw [k.same b (Nat.lt_of_lt_of_le hb h.size) (fun e => (h.owns b e).elim ho (fun e => by omega)), h.same b hb ho]
  owns b hb := by
    rcases k.owns b hb with e | e
    · exact h.owns b e
    · exact .inr (Nat.le_trans h.size e)
  F b o hf := by
    rcases k.F b o hf with e | e | e
    · exact h.F b o e
    · exact .inr (h.owns b e)
    · exact .inr (.inr (Nat.le_trans h.size e))
  os := k.os.trans h.os
  tape := k.tape.trans h.tape
  output := k.output.trans h.output
/-- a draw turns nothing -/
theorem Ext.drawn (S : Sim) (w : World) (n : Nat) : Ext S w S { w with drawn := n } := ⟨.refl S, Nat.le_refl _, fun _ _ _ => rfl, fun _ h => .inl h, fun _ _ h => .inl h, rfl, rfl, rfl⟩

def Priv (S : Sim) (w : World) (b : Nat) : Prop := b < w.heap.size ∧ ¬ Owns S b ∧ ∀ o, S.F b o = none

theorem Priv.ext {S S' : Sim} {w w' : World} {b : Nat} (h : Priv S w b) (k : Ext S w S' w') : Priv S' w' b := by
  refine ⟨Nat.lt_of_lt_of_le h.1 k.size, fun e => (k.owns b e).elim h.2.1 (fun e => by have := h.1; omega), fun o => ?_⟩
  cases e : S'.F b o with
  | none => rfl
  | some v =>
    rcases k.F b o (by rw [e]; simp) with e | e | e
    · exact absurd (h.2.2 o) e
    · exact absurd e h.2.1
    · have := h.1; omega

def tm (a : Act) (i : Nat) : Value := a.tmps.getD i undef

def SlotRel (A : Ann) (S : Sim) (e : Env) (a : Act) (w : World) (i : Nat) (v : AV) : Prop :=
  if A.prom.contains i then
    ∃ b, tm a i = .pointer (some ⟨b, 0, none⟩) ∧ Priv S w b ∧ ∃ l el fr, w.heap[b]? = some (.cells (List.toArray l) el fr) ∧ VRelL S v.cells l ∧ ∀ o, ¬(fr.1 ≤ o ∧ o < fr.2)
  else if A.adrs.contains i then
    (v = .tup [] ∧ tm a i = undef) ∨ ∃ t off b, v = .adr t off ∧ A.prom.contains t = true ∧ (∃ u, e.get t = some u) ∧ tm a t = .pointer (some ⟨b, 0, none⟩) ∧ tm a i = .pointer (some ⟨b, off, none⟩)
  else VRel S v (tm a i)

structure ERel (A : Ann) (S : Sim) (e : Env) (a : Act) (w : World) : Prop where
  slot : ∀ i v, e.get i = some v → SlotRel A S e a w i v
  apart : ∀ i j b o p, A.prom.contains i = true → A.prom.contains j = true → (∃ v, e.get i = some v) → (∃ v, e.get j = some v) →
    tm a i = .pointer (some ⟨b, o, none⟩) → tm a j = .pointer (some ⟨b, p, none⟩) → i = j
  size : A.ntmps ≤ a.tmps.size
  defers : a.defers = []

theorem tm_put {a : Act} {d : Nat} {c : Value} (hd : d < a.tmps.size) (i : Nat) : tm (a.put (some d) c) i = if d = i then c else tm a i := by
  show (a.tmps.setIfInBounds d c).getD i undef = if d = i then c else a.tmps.getD i undef
  by_cases h : d = i
  · subst h; simp [hd]
  · simp [Array.getElem?_setIfInBounds_ne h, h]
theorem put_size {a : Act} {d : Option Nat} {c : Value} : (a.put d c).tmps.size = a.tmps.size := by cases d <;> simp [Act.put]
theorem put_defers {a : Act} {d : Option Nat} {c : Value} : (a.put d c).defers = a.defers := by cases d <;> simp [Act.put]

theorem SlotRel.ext {A : Ann} {S S' : Sim} {e : Env} {a : Act} {w w' : World} {i : Nat} {v : AV} (h : SlotRel A S e a w i v) (k : Ext S w S' w') : SlotRel A S' e a w' i v := by
  unfold SlotRel at *
  split
  · rename_i hp
    rw [if_pos hp] at h
    obtain ⟨b, h1, h2, l, el, fr, h3, h4, h5⟩ := h
    exact ⟨b, h1, h2.ext k, l, el, fr, by rw [k.same b h2.1 h2.2.1]; exact h3, h4.mono k.le, h5⟩
  · rename_i hp
    rw [if_neg hp] at h
    split
    · rename_i hq; rw [if_pos hq] at h; exact h
    · rename_i hq; rw [if_neg hq] at h; exact h.mono k.le
theorem ERel.ext {A : Ann} {S S' : Sim} {e : Env} {a : Act} {w w' : World} (h : ERel A S e a w) (k : Ext S w S' w') : ERel A S' e a w' :=
  ⟨fun i v hv => (h.slot i v hv).ext k, h.apart, h.size, h.defers⟩

/-- a plain slot is written -/
theorem ERel.put {A : Ann} {S : Sim} {e : Env} {a : Act} {w : World} (h : ERel A S e a w) {d : Nat} {v : AV} {c : Value} (hd : d < A.ntmps) (hp : A.prom.contains d = false) (hs : A.adrs.contains d = false)
    (hv : VRel S v c) : ERel A S (e.put d v) (a.put (some d) c) w := by
  have hd' : d < a.tmps.size := Nat.lt_of_lt_of_le hd h.size
  have ne : ∀ i, A.prom.contains i = true → d ≠ i := fun i hi e => by subst e; rw [hp] at hi; cases hi
  refine ⟨fun i u hu => ?_, fun i j b o p hi hj hie hje => ?_, by rw [put_size]; exact h.size, by rw [put_defers]; exact h.defers⟩
  · rw [Tr.get_put] at hu
    by_cases hdi : d = i
    · subst hdi
      rw [if_pos rfl] at hu
      cases hu
      unfold SlotRel
      rw [if_neg (by rw [hp]; simp), if_neg (by rw [hs]; simp), tm_put hd', if_pos rfl]
      exact hv
    · rw [if_neg hdi] at hu
      have hu' := h.slot i u hu
      unfold SlotRel at *
      split
      · rename_i hq
        rw [if_pos hq] at hu'
        rw [tm_put hd', if_neg hdi]
        exact hu'
      · rename_i hq
        rw [if_neg hq] at hu'
        split
        · rename_i hr
          rw [if_pos hr] at hu'
          rcases hu' with ⟨h1, h2⟩ | ⟨t, off, b, h1, h2, ⟨x, hx⟩, h4, h5⟩
          · exact .inl ⟨h1, by rw [tm_put hd', if_neg hdi]; exact h2⟩
          · exact .inr ⟨t, off, b, h1, h2, ⟨x, by rw [Tr.get_put, if_neg (ne t h2)]; exact hx⟩, by rw [tm_put hd', if_neg (ne t h2)]; exact h4, by rw [tm_put hd', if_neg hdi]; exact h5⟩
        · rename_i hr
          rw [if_neg hr] at hu'
          rw [tm_put hd', if_neg hdi]
          exact hu'
  · rw [Tr.get_put, if_neg (ne i hi)] at hie
    rw [Tr.get_put, if_neg (ne j hj)] at hje
    rw [tm_put hd', tm_put hd', if_neg (ne i hi), if_neg (ne j hj)]
    exact h.apart i j b o p hi hj hie hje

/-- slots go -/
theorem ERel.del {A : Ann} {S : Sim} {e : Env} {a : Act} {w : World} (h : ERel A S e a w) {d : Nat} (hs : A.prom.contains d = false) : ERel A S (e.del d) a w := by
  have ne : ∀ i, A.prom.contains i = true → d ≠ i := fun i hi e => by subst e; rw [hs] at hi; cases hi
  refine ⟨fun i u hu => ?_, fun i j b o p hi hj hie hje => ?_, h.size, h.defers⟩
  · rw [Tr.get_del] at hu
    by_cases hdi : d = i
    · rw [if_pos hdi] at hu; cases hu
    · rw [if_neg hdi] at hu
      have hu' := h.slot i u hu
      unfold SlotRel at *
      split
      · rename_i hq; rw [if_pos hq] at hu'; exact hu'
      · rename_i hq
        rw [if_neg hq] at hu'
        split
        · rename_i hr
          rw [if_pos hr] at hu'
          rcases hu' with h1 | ⟨t, off, b, h1, h2, ⟨x, hx⟩, h4, h5⟩
          · exact .inl h1
          · exact .inr ⟨t, off, b, h1, h2, ⟨x, by rw [Tr.get_del, if_neg (ne t h2)]; exact hx⟩, h4, h5⟩
        · rename_i hr; rw [if_neg hr] at hu'; exact hu'
  · rw [Tr.get_del, if_neg (ne i hi)] at hie
    rw [Tr.get_del, if_neg (ne j hj)] at hje
    exact h.apart i j b o p hi hj hie hje

/-- an address of a local variable is noted -/
theorem ERel.putAdr {A : Ann} {S : Sim} {e : Env} {a : Act} {w : World} (h : ERel A S e a w) {d : Nat} {t off b : Nat} (hd : d < A.ntmps) (hp : A.prom.contains d = false) (hs : A.adrs.contains d = true)
    (ht : A.prom.contains t = true) (hu : ∃ u, e.get t = some u) (hb : tm a t = .pointer (some ⟨b, 0, none⟩)) :
    ERel A S (e.put d (.adr t off)) (a.put (some d) (.pointer (some ⟨b, off, none⟩))) w := by
  have hd' : d < a.tmps.size := Nat.lt_of_lt_of_le hd h.size
  have ne : ∀ i, A.prom.contains i = true → d ≠ i := fun i hi e => by subst e; rw [hp] at hi; cases hi
  refine ⟨fun i u hu' => ?_, fun i j b o p hi hj hie hje => ?_, by rw [put_size]; exact h.size, by rw [put_defers]; exact h.defers⟩
  · rw [Tr.get_put] at hu'
    by_cases hdi : d = i
    · subst hdi
      rw [if_pos rfl] at hu'
      cases hu'
      unfold SlotRel
      rw [if_neg (by rw [hp]; simp), if_pos hs]
      refine .inr ⟨t, off, b, rfl, ht, ?_, ?_, ?_⟩
      · obtain ⟨x, hx⟩ := hu; exact ⟨x, by rw [Tr.get_put, if_neg (ne t ht)]; exact hx⟩
      · rw [tm_put hd', if_neg (ne t ht)]; exact hb
      · rw [tm_put hd', if_pos rfl]
    · rw [if_neg hdi] at hu'
      have hu'' := h.slot i u hu'
      unfold SlotRel at *
      split
      · rename_i hq
        rw [if_pos hq] at hu''
        rw [tm_put hd', if_neg hdi]
        exact hu''
      · rename_i hq
        rw [if_neg hq] at hu''
        split
        · rename_i hr
          rw [if_pos hr] at hu''
          rcases hu'' with ⟨h1, h2⟩ | ⟨t', off, b, h1, h2, ⟨x, hx⟩, h4, h5⟩
          · exact .inl ⟨h1, by rw [tm_put hd', if_neg hdi]; exact h2⟩
          · exact .inr ⟨t', off, b, h1, h2, ⟨x, by rw [Tr.get_put, if_neg (ne t' h2)]; exact hx⟩, by rw [tm_put hd', if_neg (ne t' h2)]; exact h4, by rw [tm_put hd', if_neg hdi]; exact h5⟩
        · rename_i hr
          rw [if_neg hr] at hu''
          rw [tm_put hd', if_neg hdi]
          exact hu''
  · rw [Tr.get_put, if_neg (ne i hi)] at hie
    rw [Tr.get_put, if_neg (ne j hj)] at hje
    rw [tm_put hd', tm_put hd', if_neg (ne i hi), if_neg (ne j hj)]
    exact h.apart i j b o p hi hj hie hje

/-- an unwanted operation -/
theorem ERel.skip {A : Ann} {S : Sim} {e : Env} {a : Act} {w : World} (h : ERel A S e a w) {d : Nat} (hd : d < A.ntmps) (hp : A.prom.contains d = false) :
    ERel A S (e.put d (.tup [])) (a.put (some d) undef) w := by
  cases hs : A.adrs.contains d with
  | false =>
    refine h.put hd hp hs ?_
    simp only [VRel]
    exact ⟨[], rfl, VRelL.nil⟩
  | true =>
    have hd' : d < a.tmps.size := Nat.lt_of_lt_of_le hd h.size
    have ne : ∀ i, A.prom.contains i = true → d ≠ i := fun i hi e => by subst e; rw [hp] at hi; cases hi
    refine ⟨fun i u hu' => ?_, fun i j b o p hi hj hie hje => ?_, by rw [put_size]; exact h.size, by rw [put_defers]; exact h.defers⟩
    · rw [Tr.get_put] at hu'
      by_cases hdi : d = i
      · subst hdi
        rw [if_pos rfl] at hu'
        cases hu'
        unfold SlotRel
        rw [if_neg (by rw [hp]; simp), if_pos hs]
        exact .inl ⟨rfl, by rw [tm_put hd', if_pos rfl]⟩
      · rw [if_neg hdi] at hu'
        have hu'' := h.slot i u hu'
        unfold SlotRel at *
        split
        · rename_i hq
          rw [if_pos hq] at hu''
          rw [tm_put hd', if_neg hdi]
          exact hu''
        · rename_i hq
          rw [if_neg hq] at hu''
          split
          · rename_i hr
            rw [if_pos hr] at hu''
            rcases hu'' with ⟨h1, h2⟩ | ⟨t', off, b, h1, h2, ⟨x, hx⟩, h4, h5⟩
            · exact .inl ⟨h1, by rw [tm_put hd', if_neg hdi]; exact h2⟩
            · exact .inr ⟨t', off, b, h1, h2, ⟨x, by rw [Tr.get_put, if_neg (ne t' h2)]; exact hx⟩, by rw [tm_put hd', if_neg (ne t' h2)]; exact h4, by rw [tm_put hd', if_neg hdi]; exact h5⟩
          · rename_i hr
            rw [if_neg hr] at hu''
            rw [tm_put hd', if_neg hdi]
            exact hu''
    · rw [Tr.get_put, if_neg (ne i hi)] at hie
      rw [Tr.get_put, if_neg (ne j hj)] at hje
      rw [tm_put hd', tm_put hd', if_neg (ne i hi), if_neg (ne j hj)]
      exact h.apart i j b o p hi hj hie hje

end Go.AM

set_option linter.unusedVariables false
set_option linter.unusedSimpArgs false
namespace Go.AM
open Go

theorem mapM_rel {S : Sim} {f : Value → Option AV} : ∀ {l : List Value} {r : List AV}, l.mapM f = some r → (∀ v ∈ l, ∀ x, f v = some x → VRel S x v) → VRelL S r l
  | [], r, h, _ => by simp at h; subst h; exact VRelL.nil
  | v :: l, r, h, k => by
    simp only [List.mapM_cons, Option.bind_eq_bind, Option.bind_eq_some_iff, Option.pure_def, Option.some.injEq] at h
    obtain ⟨x, hx, y, hy, rfl⟩ := h
    exact (mapM_rel hy fun u hu => k u (by simp [hu])).cons (k v (by simp) x hx)
theorem ofVal_rel {S : Sim} : ∀ (n : Nat) (v : Value) (x : AV), ofVal n v = some x → VRel S x v
  | 0, v, x, h => by simp [ofVal] at h
  | n + 1, v, x, h => by
    unfold ofVal at h
    split at h
    all_goals first
      | (cases h; simp only [VRel]; done)
      | (cases h; simp [VRel]; done)
      | skip
    · split at h
      · rename_i hc
        simp only [Bool.and_eq_true, Array.isEmpty_iff] at hc
        obtain ⟨rfl, rfl⟩ := hc
        cases h
        simp only [VRel]
        exact ⟨[], [], rfl, VRelL.nil, VRelL.nil⟩
      · cases h
    · split at h
      · rename_i cs _ l hl
        cases h
        simp only [VRel]
        exact ⟨cs.toList, by simp, mapM_rel hl fun v _ x hx => ofVal_rel n v x hx⟩
      · cases h
    · split at h
      · rename_i hc
        simp only [Array.isEmpty_iff] at hc
        subst hc
        cases h
        simp only [VRel]
        exact ⟨[], rfl, VRelL.nil⟩
      · cases h
    · cases h

section
variable {P : Program} {G : GTab} {A : Ann} {S : Sim} {e : Env} {h : Heap} {a : Act} {w : World}

theorem opd_rel {x : Operand} {ox : Opd} {v : AV} (ho : opd G A x = some ox) (he : ERel A S e a w) (hw : WRel G S h w) (hv : val e ox = some v) : VRel S v (a.eval x) := by
  unfold opd at ho
  split at ho
  · split at ho
    · cases ho
    · rename_i t hc
      cases ho
      simp only [Bool.or_eq_true, not_or, Bool.not_eq_true] at hc
      have := he.slot t v hv
      unfold SlotRel at this
      rw [if_neg (by rw [hc.1]; simp), if_neg (by rw [hc.2]; simp)] at this
      exact this
  · split at ho
    · rename_i c x' hx
      cases ho
      simp only [val, Option.some.injEq] at hv
      subst hv
      exact ofVal_rel 8 _ _ hx
    · cases ho
  · split at ho
    · rename_i g _ cs hg
      cases ho
      simp only [val, Option.some.injEq] at hv
      subst hv
      simp only [VRel]
      exact ⟨g, 0, rfl, hw.gl g cs hg⟩
    · cases ho
  · cases ho
    simp only [val, Option.some.injEq] at hv
    subst hv
    simp only [VRel]
    exact ⟨[], [], rfl, VRelL.nil, VRelL.nil⟩

theorem opds_rel : ∀ {l : List Operand} {os : List Opd} {vs : List AV}, l.mapM (opd G A) = some os → ERel A S e a w → WRel G S h w → vals e os = some vs → VRelL S vs (l.map a.eval)
  | [], os, vs, ho, _, _, hv => by
    simp at ho; subst ho
    simp only [vals, Option.some.injEq] at hv
    subst hv
    exact VRelL.nil
  | x :: l, os, vs, ho, he, hw, hv => by
    simp only [List.mapM_cons, Option.bind_eq_bind, Option.bind_eq_some_iff, Option.pure_def, Option.some.injEq] at ho
    obtain ⟨o, ho1, os', ho2, rfl⟩ := ho
    unfold vals at hv
    split at hv
    · rename_i v hv1
      split at hv
      · rename_i vs' hv2
        cases hv
        exact (opds_rel ho2 he hw hv2).cons (opd_rel ho1 he hw hv1)
      · cases hv
    · cases hv

/-- an operation that computes -/
def Pure (P : Program) (S : Sim) (w : World) (v : AV) (s : Sem Next) : Prop := ∃ c, s.run P w = .ok (.value c) w ∧ VRel S v c

theorem nat_rel {x : Operand} {ox : Opd} {j : Nat} (ho : opd G A x = some ox) (he : ERel A S e a w) (hw : WRel G S h w) (hj : nat? e ox = some j) : ∃ k, a.eval x = .int k (j : Int) := by
  unfold nat? at hj
  split at hj
  · rename_i k n hv
    split at hj
    · cases hj
      have := opd_rel ho he hw hv
      simp only [VRel] at this
      exact ⟨k, by rw [this]; congr 1; omega⟩
    · cases hj
  · cases hj

theorem run_asIntOf_int (k : IntKind) (n : Int) : (asIntOf (.int k n)).run P w = .ok (k, n) w := rfl
theorem run_asInt_int (k : IntKind) (n : Int) : (asInt (.int k n)).run P w = .ok n w := rfl

theorem snd_mov {o : Oper} {x : Operand} {ox : Opd} {v : AV} (hop : o.op = .move x ∨ o.op = .assign x) (ho : opd G A x = some ox) (he : ERel A S e a w) (hw : WRel G S h w) (hv : val e ox = some v) :
    Pure P S w v (execOp a.eval o) := by
  refine ⟨a.eval x, ?_, opd_rel ho he hw hv⟩
  rcases hop with hop | hop <;> simp [execOp, hop]

theorem snd_pick {o : Oper} {c x y : Operand} {oc ox oy : Opd} {v : AV} {b : Bool} (hop : o.op = .pick c x y) (hc : opd G A c = some oc) (hx : opd G A x = some ox) (hy : opd G A y = some oy) (he : ERel A S e a w) (hw : WRel G S h w)
    (hb : val e oc = some (.bool b)) (hv : val e (if b then ox else oy) = some v) : Pure P S w v (execOp a.eval o) := by
  have h1 := opd_rel hc he hw hb
  simp only [VRel] at h1
  cases b
  · exact ⟨a.eval y, by simp [execOp, hop, h1, asBool], opd_rel hy he hw hv⟩
  · exact ⟨a.eval x, by simp [execOp, hop, h1, asBool], opd_rel hx he hw hv⟩

theorem snd_extract {o : Oper} {x : Operand} {ox : Opd} {l : List AV} {i : Nat} {v : AV} (hop : o.op = .extract x i) (ho : opd G A x = some ox) (he : ERel A S e a w) (hw : WRel G S h w) (hv : val e ox = some (.tup l)) (hi : l[i]? = some v) :
    Pure P S w v (execOp a.eval o) := by
  have h1 := opd_rel ho he hw hv
  simp only [VRel] at h1
  obtain ⟨cs, h1, h2⟩ := h1
  obtain ⟨c, hc, hvc⟩ := h2.get i v hi
  exact ⟨c, by simp [execOp, hop, h1, Instr.extract, hc], hvc⟩

theorem snd_iface {o : Oper} {t : TypeId} {x : Operand} {ox : Opd} {v : AV} {d : TypeDesc} (hop : o.op = .makeInterface t x) (hd : P.underlying t = some d) (hn : ∀ m, d ≠ .interface m) (ho : opd G A x = some ox) (he : ERel A S e a w) (hw : WRel G S h w) (hv : val e ox = some v) :
    Pure P S w (.ifc t v) (execOp a.eval o) := by
  refine ⟨.iface t (a.eval x), ?_, by simp only [VRel]; exact ⟨_, rfl, opd_rel ho he hw hv⟩⟩
  simp only [execOp, hop, Sem.run_bind, Instr.makeInterface, run_underlying hd, Result.andThen_ok]
  cases d <;> first | rfl | exact absurd rfl (hn _)

theorem snd_mkfn {o : Oper} {f : Fn} {fi ca : Array Operand} {l m : List Opd} {va vb : List AV} (hop : o.op = .makeFunc f fi ca) (hl : opds G A fi.toList = some l) (hm : opds G A ca.toList = some m) (he : ERel A S e a w) (hw : WRel G S h w)
    (ha : vals e l = some va) (hb : vals e m = some vb) : Pure P S w (.fn f (va.map AV.er) (vb.map AV.er)) (execOp a.eval o) := by
  refine ⟨.func f (fi.map a.eval) (ca.map a.eval), by simp [execOp, hop, Instr.makeFunc], ?_⟩
  simp only [VRel]
  exact ⟨fi.toList.map a.eval, ca.toList.map a.eval, by simp [← Array.toList_map], (opds_rel hl he hw ha).er, (opds_rel hm he hw hb).er⟩

/-- the operation is one of those that answer a value -/
theorem run_v {s : Sem Value} {c : Value} {w w' : World} (h : s.run P w = .ok c w') : (do pure (Next.value (← s)) : Sem Next).run P w = .ok (.value c) w' := by
  simp [h]

theorem run_builtin {o : Oper} {c : Call} {b : Builtin} (hop : o.op = .call c) (hcc : c.callee = .builtin b) :
    (execOp a.eval o).run P w = (builtin b c.argTypes o.type (c.args.map fun | .const _ => true | _ => false) (c.args.map a.eval)).run P w := by
  simp only [execOp, hop, resolve, hcc, Sem.run_bind, Sem.run_pure, Result.andThen_ok, invoke]
  rfl

theorem snd_lenS {o : Oper} {x : Operand} {ox : Opd} {s : List UInt8} {t : TypeId} {c : Call} (hop : o.op = .call c) (hcc : c.callee = .builtin .len) (hca : c.args.toList = [x]) (hct : c.argTypes.toList = [t])
    (ht : P.underlying t = some .string) (ho : opd G A x = some ox) (he : ERel A S e a w) (hw : WRel G S h w) (hv : val e ox = some (.str s)) :
    Pure P S w (.int .i64 s.length) (execOp a.eval o) := by
  have h1 := opd_rel ho he hw hv
  simp only [VRel] at h1
  refine ⟨.int .i64 s.length, ?_, by simp only [VRel]⟩
  rw [run_builtin hop hcc]
  have e1 : c.args = #[x] := by rw [← Array.toList_inj]; exact hca
  have e2 : c.argTypes = #[t] := by rw [← Array.toList_inj]; exact hct
  refine run_v ?_
  simp only [e1, e2, List.map_toArray, List.map_cons, List.map_nil, Builtin.len_, h1]
  simp [run_underlying ht, goInt]
  rfl

theorem snd_lenV {o : Oper} {x : Operand} {ox : Opd} {v : AV} {n : Nat} {t e' : TypeId} {c : Call} (hop : o.op = .call c) (hcc : c.callee = .builtin .len) (hca : c.args.toList = [x]) (hct : c.argTypes.toList = [t])
    (ht : P.underlying t = some (.slice e')) (ho : opd G A x = some ox) (he : ERel A S e a w) (hw : WRel G S h w) (hv : val e ox = some v) (hn : slen v = some n) :
    Pure P S w (.int .i64 n) (execOp a.eval o) := by
  have h1 := opd_rel ho he hw hv
  refine ⟨.int .i64 n, ?_, by simp only [VRel]⟩
  rw [run_builtin hop hcc]
  have e1 : c.args = #[x] := by rw [← Array.toList_inj]; exact hca
  have e2 : c.argTypes = #[t] := by rw [← Array.toList_inj]; exact hct
  have h2 : ∃ base cap, a.eval x = .slice base n cap := by
    cases v <;> simp only [slen, Option.some.injEq, reduceCtorEq] at hn
    · subst hn; simp only [VRel] at h1; exact ⟨_, _, h1⟩
    · subst hn; simp only [VRel] at h1; obtain ⟨base, cap, h1, _⟩ := h1; exact ⟨_, _, h1⟩
    · subst hn
      simp only [VRel] at h1
      split at h1
      · obtain ⟨_, _, h1, _⟩ := h1; exact ⟨_, _, h1⟩
      · obtain ⟨_, _, h1, _⟩ := h1; exact ⟨_, _, h1⟩
      · exact h1.elim
  obtain ⟨base, cap, h2⟩ := h2
  refine run_v ?_
  simp only [e1, e2, List.map_toArray, List.map_cons, List.map_nil, Builtin.len_, h2]
  simp [run_underlying ht, goInt]

theorem snd_minmax {o : Oper} {mx : Bool} {os : List Opd} {v r : AV} {l : List AV} {c : Call} (hop : o.op = .call c) (hcc : c.callee = .builtin (if mx then .max else .min)) (ho : opds G A c.args.toList = some os)
    (he : ERel A S e a w) (hw : WRel G S h w) (hv : vals e os = some (v :: l)) (hr : foldMM mx v l = some r) : Pure P S w r (execOp a.eval o) := by
  have h1 := opds_rel ho he hw hv
  simp only [VRelL] at h1
  obtain ⟨c0, cs, h1, h2, h3⟩ := h1
  have key : ∀ (l : List AV) (cs : List Value) (v : AV) (c0 : Value) (r : AV), VRel S v c0 → VRelL S l cs → foldMM mx v l = some r → ∃ c, (cs.foldlM (if mx then Builtin.max2 else Builtin.min2) c0).run P w = .ok c w ∧ VRel S r c := by
    intro l
    induction l with
    | nil =>
      intro cs v c0 r h2 h3 hr
      simp only [VRelL] at h3; subst h3
      simp only [foldMM, Option.some.injEq] at hr
      subst hr
      exact ⟨c0, by simp, h2⟩
    | cons u l ih =>
      intro cs v c0 r h2 h3 hr
      simp only [VRelL] at h3
      obtain ⟨c1, cs', rfl, h4, h5⟩ := h3
      cases v <;> cases u <;> simp only [foldMM, reduceCtorEq] at hr
      rename_i k n j m
      split at hr
      · rename_i hkj
        subst hkj
        simp only [VRel] at h2 h4
        subst h2 h4
        obtain ⟨c, hc, hrel⟩ := ih cs' _ (.int k (if mx then (if m > n then m else n) else (if m < n then m else n))) r (by simp only [VRel]) h5 hr
        refine ⟨c, ?_, hrel⟩
        rw [List.foldlM_cons, Sem.run_bind]
        have : ((if mx then Builtin.max2 else Builtin.min2) (.int k n) (.int k m)).run P w = .ok (.int k (if mx then (if m > n then m else n) else (if m < n then m else n))) w := by
          cases mx <;> simp [Builtin.max2, Builtin.min2]
        rw [this, Result.andThen_ok, hc]
      · cases hr
  obtain ⟨cc, hcc', hrel⟩ := key l cs v c0 r h2 h3 hr
  refine ⟨cc, ?_, hrel⟩
  rw [run_builtin hop hcc]
  have h6 : (c.args.map a.eval).toList = c0 :: cs := by rw [Array.toList_map]; exact h1
  cases mx
  · simp only [Bool.false_eq_true, if_false, builtin] at *
    exact run_v (by simp only [Builtin.min_, h6]; exact hcc')
  · simp only [if_true, builtin] at *
    exact run_v (by simp only [Builtin.max_, h6]; exact hcc')

theorem run_binOp {o : Oper} {op : BinOp} {t u : TypeId} {x y : Operand} (hop : o.op = .binOp op t x y u) :
    (execOp a.eval o).run P w = (do pure (Next.value (← (do eqGuard op t x y (a.eval x) (a.eval y); binOp op t (a.eval x) (a.eval y)))) : Sem Next).run P w := by
  simp only [execOp, hop]

theorem snd_bin {o : Oper} {op : BinOp} {t u : TypeId} {x y : Operand} {ox oy : Opd} {p q v : AV} (hop : o.op = .binOp op t x y u) (hx : opd G A x = some ox) (hy : opd G A y = some oy) (he : ERel A S e a w) (hw : WRel G S h w)
    (hp : val e ox = some p) (hq : val e oy = some q) (hv : binop op p q = some v) : Pure P S w v (execOp a.eval o) := by
  have h1 := opd_rel hx he hw hp
  have h2 := opd_rel hy he hw hq
  rw [Pure, run_binOp hop]
  cases p <;> cases q <;> simp only [binop, reduceCtorEq] at hv <;> simp only [VRel] at h1 h2
  · -- integers
    rename_i k m j n
    rw [h1, h2]
    have hg : (eqGuard op t x y (.int k m) (.int j n)).run P w = .ok () w := by cases op <;> rfl
    have fin : ∀ c, (binOp op t (.int k m) (.int j n)).run P w = .ok c w → VRel S v c → ∃ c, (do pure (Next.value (← (do eqGuard op t x y (.int k m) (.int j n); binOp op t (.int k m) (.int j n)))) : Sem Next).run P w = .ok (.value c) w ∧ VRel S v c :=
      fun c hc hr => ⟨c, run_v (by rw [Sem.run_bind, hg, Result.andThen_ok, hc]), hr⟩
    cases op <;> simp only [arith] at hv
    case shl =>
      split at hv
      · cases hv
      · rename_i hn; cases hv
        refine (fun hr hc => fin _ hc hr) (by simp only [VRel]; rfl) ?_
        simp [binOp, Op.shift, hn]
    case shr =>
      split at hv
      · cases hv
      · rename_i hn; cases hv
        refine (fun hr hc => fin _ hc hr) (by simp only [VRel]; rfl) ?_
        simp [binOp, Op.shift, hn]
    case quo =>
      split at hv
      · rename_i hk; subst hk
        split at hv
        · cases hv
        · rename_i hn; cases hv
          refine (fun hr hc => fin _ hc hr) (by simp only [VRel]; rfl) ?_
          simp [binOp, Op.intDiv, hn]
      · cases hv
    case rem =>
      split at hv
      · rename_i hk; subst hk
        split at hv
        · cases hv
        · rename_i hn; cases hv
          refine (fun hr hc => fin _ hc hr) (by simp only [VRel]; rfl) ?_
          simp [binOp, Op.intDiv, hn]
      · cases hv
    all_goals
      split at hv
      · rename_i hk
        subst hk
        cases hv
        refine (fun hr hc => fin _ hc hr) (by simp only [VRel]; rfl) ?_
        simp [binOp, Op.intArith, Op.intBits, Op.intCmp]
      · cases hv
  · -- strings
    rename_i m n
    rw [h1, h2]
    have hg : (eqGuard op t x y (.string ⟨m.toArray⟩) (.string ⟨n.toArray⟩)).run P w = .ok () w := by cases op <;> rfl
    have fin : ∀ c, (binOp op t (.string ⟨m.toArray⟩) (.string ⟨n.toArray⟩)).run P w = .ok c w → VRel S v c → ∃ c, (do pure (Next.value (← (do eqGuard op t x y (.string ⟨m.toArray⟩) (.string ⟨n.toArray⟩); binOp op t (.string ⟨m.toArray⟩) (.string ⟨n.toArray⟩)))) : Sem Next).run P w = .ok (.value c) w ∧ VRel S v c :=
      fun c hc hr => ⟨c, run_v (by rw [Sem.run_bind, hg, Result.andThen_ok, hc]), hr⟩
    have hlt : ∀ a b : List UInt8, bytesLt a b = Op.bytesLess a b := by
      intro a
      induction a with
      | nil => intro b; cases b <;> rfl
      | cons x a ih => intro b; cases b <;> simp [bytesLt, Op.bytesLess, ih]
    cases op <;> simp only [reduceCtorEq] at hv
    case add =>
      split at hv
      · rename_i hl; cases hv
        refine (fun hr hc => fin _ hc hr) (by simp only [VRel]; rfl) ?_
        have h9 : IntKind.i64.max = 2 ^ 63 - 1 := by decide
        have h8 : ¬ (((ByteArray.mk m.toArray).size + (ByteArray.mk n.toArray).size : Nat) : Int) > IntKind.i64.max := by
          rw [h9]
          have e1 : (ByteArray.mk m.toArray).size = m.length := rfl
          have e2 : (ByteArray.mk n.toArray).size = n.length := rfl
          rw [e1, e2]
          omega
        simp only [binOp, Op.stringOp, if_neg h8, Sem.run_pure, ByteArray.mk_append_mk]
      · cases hv
    all_goals
      cases hv
      refine (fun hr hc => fin _ hc hr) (by simp only [VRel]; rfl) ?_
      simp only [binOp, Op.stringOp, ByteArray.toList_mk, Sem.run_pure, hlt]

end
end Go.AM

set_option linter.unusedVariables false
set_option linter.unusedSimpArgs false
namespace Go.AM
open Go
section
variable {P : Program} {G : GTab} {A : Ann} {S : Sim} {e : Env} {h : Heap} {a : Act} {w : World}

theorem snd_un {o : Oper} {op : UnOp} {t : TypeId} {x : Operand} {ox : Opd} {p v : AV} (hop : o.op = .unOp op t x) (hx : opd G A x = some ox) (he : ERel A S e a w) (hw : WRel G S h w)
    (hp : val e ox = some p) (hv : unop op p = some v) : Pure P S w v (execOp a.eval o) := by
  have h1 := opd_rel hx he hw hp
  have e1 : execOp a.eval o = (do pure (Next.value (← Op.unary op (a.eval x))) : Sem Next) := by simp only [execOp, hop]
  rw [Pure, e1]
  cases p <;> simp only [unop, reduceCtorEq] at hv <;> simp only [VRel] at h1 <;> rw [h1]
  · cases op <;> simp only [reduceCtorEq, Option.some.injEq] at hv
    subst hv
    exact ⟨_, run_v (by rfl), by simp only [VRel]⟩
  · cases op <;> simp only [reduceCtorEq, Option.some.injEq] at hv
    · subst hv
      exact ⟨_, run_v (by simp only [Op.unary, Op.intArith]; rfl), by simp only [VRel]⟩
    · subst hv
      exact ⟨_, run_v (by simp only [Op.unary, Op.intBits]; rfl), by simp only [VRel]⟩

theorem run_convertOp {o : Oper} {s d : TypeId} {x : Operand} (hop : o.op = .convert s d x) : execOp a.eval o = (do pure (Next.value (← convert s d (a.eval x))) : Sem Next) := by simp only [execOp, hop]

theorem snd_cvI {o : Oper} {s d : TypeId} {x : Operand} {ox : Opd} {k j : IntKind} {ds : TypeDesc} {n : Int} (hop : o.op = .convert s d x) (hs : P.underlying s = some ds) (hd : P.underlying d = some (.int k)) (hx : opd G A x = some ox)
    (he : ERel A S e a w) (hw : WRel G S h w) (hp : val e ox = some (.int j n)) : Pure P S w (.int k (k.wrap n)) (execOp a.eval o) := by
  have h1 := opd_rel hx he hw hp
  simp only [VRel] at h1
  rw [Pure, run_convertOp hop, h1]
  exact ⟨.int k (k.wrap n), run_v (by simp [convert, run_underlying hs, run_underlying hd, Conv.intToInt]), by simp only [VRel]⟩

theorem snd_cvSS {o : Oper} {s d : TypeId} {x : Operand} {ox : Opd} {b : List UInt8} (hop : o.op = .convert s d x) (hs : P.underlying s = some .string) (hd : P.underlying d = some .string) (hx : opd G A x = some ox)
    (he : ERel A S e a w) (hw : WRel G S h w) (hp : val e ox = some (.str b)) : Pure P S w (.str b) (execOp a.eval o) := by
  have h1 := opd_rel hx he hw hp
  simp only [VRel] at h1
  rw [Pure, run_convertOp hop, h1]
  exact ⟨.string ⟨b.toArray⟩, run_v (by simp [convert, run_underlying hs, run_underlying hd]), by simp only [VRel]⟩

theorem run_part {t : TypeId} {cs : List Value} {off : Nat} (hc : cell1 P t = true) {c : Value} (hn : (ldN P t = none → cs[off]? = some c) ∧ (∀ n, ldN P t = some n → ((cs.drop off).take n).length = n ∧ c = .agg ((cs.drop off).take n).toArray)) (hu : (P.underlying t).isSome = true) (hi : (P.info? t).isSome = true) :
    (part t cs.toArray off).run P w = .ok c w := by
  obtain ⟨i, hi⟩ := Option.isSome_iff_exists.1 hi
  obtain ⟨d, hd⟩ := Option.isSome_iff_exists.1 hu
  have hsz : (sizeOf t).run P w = .ok (P.cellsOf t) w := by
    simp [sizeOf, typeInfo, hi, Program.cellsOf]
  have hag : (isAgg t).run P w = .ok (aggT P t) w := by
    simp only [isAgg, Sem.run_bind, run_underlying hd, Result.andThen_ok, aggT, hd]
    cases d <;> rfl
  simp only [part, Sem.run_bind, hag, Result.andThen_ok]
  unfold ldN at hn
  cases hb : aggT P t with
  | true =>
    simp only [hb, if_true] at hn
    obtain ⟨h1, h2⟩ := hn.2 _ rfl
    simp only [if_true, Sem.run_bind, hsz, Result.andThen_ok, Sem.run_pure]
    rw [h2]
    simp only [List.extract_toArray, List.extract_eq_take_drop, Nat.add_sub_cancel_left]
  | false =>
    simp only [hb, Bool.false_eq_true, if_false] at hn
    have := hn.1 trivial
    simp [this]

theorem cut_rel {cs : List AV} {l : List Value} {off : Nat} {n : Option Nat} {v : AV} (hr : VRelL S cs l) (hc : cut cs off n = some v) :
    ∃ c, VRel S v c ∧ (n = none → l[off]? = some c) ∧ ∀ m, n = some m → ((l.drop off).take m).length = m ∧ c = .agg ((l.drop off).take m).toArray := by
  cases n with
  | none =>
    simp only [cut] at hc
    obtain ⟨c, h1, h2⟩ := hr.get off v hc
    exact ⟨c, h2, (fun _ => h1), (fun m hm => by cases hm)⟩
  | some m =>
    simp only [cut] at hc
    split at hc
    · rename_i hl
      cases hc
      have h1 := (hr.drop off).take m
      refine ⟨.agg ((l.drop off).take m).toArray, ?_, (fun hm => by cases hm), (fun k hk => by cases hk; exact ⟨by rw [h1.len]; exact hl, rfl⟩)⟩
      simp only [AV.er, VRel]
      exact ⟨_, rfl, h1.er1⟩
    · cases hc

theorem info_of_underlying {t : TypeId} {d : TypeDesc} (h : P.underlying t = some d) : (P.info? t).isSome = true := by
  unfold Program.underlying at h
  split at h
  · rename_i hi; rw [hi]; rfl
  · rename_i hi; rw [hi]; rfl
  · cases h
theorem cell1_known {t : TypeId} (h : cell1 P t = true) : (P.info? t).isSome = true := by
  simp only [cell1, Bool.and_eq_true] at h
  obtain ⟨d, hd⟩ := Option.isSome_iff_exists.1 h.1
  exact info_of_underlying hd
theorem cell1_under {t : TypeId} (h : cell1 P t = true) : (P.underlying t).isSome = true := by
  simp only [cell1, Bool.and_eq_true] at h
  exact h.1

theorem snd_field {o : Oper} {t : TypeId} {x : Operand} {f : Nat} {ox : Opd} {fs : Array Field} {fl : Field} {cs : List AV} {v : AV} (hop : o.op = .field t x f) (hx : opd G A x = some ox) (ht : P.underlying t = some (.struct fs)) (hf : fs[f]? = some fl)
    (hc : cell1 P fl.type = true) (hu : (P.underlying fl.type).isSome = true) (he : ERel A S e a w) (hw : WRel G S h w) (hp : val e ox = some (.agg cs)) (hv : cut cs fl.offset (ldN P fl.type) = some v) : Pure P S w v (execOp a.eval o) := by
  have h1 := opd_rel hx he hw hp
  simp only [VRel] at h1
  obtain ⟨l, h1, h2⟩ := h1
  have e1 : execOp a.eval o = (do pure (Next.value (← Instr.field t (a.eval x) f)) : Sem Next) := by simp only [execOp, hop]
  rw [Pure, e1, h1]
  obtain ⟨c, h3, h4⟩ := cut_rel h2 hv
  exact ⟨c, run_v (by simp only [Instr.field, Sem.run_bind, run_underlying ht, Result.andThen_ok, hf, asAgg, Sem.run_pure]; exact run_part hc h4 hu (cell1_known hc)), h3⟩

theorem snd_idxS {o : Oper} {t : TypeId} {x ix : Operand} {ox oi : Opd} {s : List UInt8} {j : Nat} {b : UInt8} (hop : o.op = .index t x ix) (hx : opd G A x = some ox) (hi : opd G A ix = some oi) (ht : P.underlying t = some .string)
    (he : ERel A S e a w) (hw : WRel G S h w) (hp : val e ox = some (.str s)) (hj : nat? e oi = some j) (hb : s[j]? = some b) : Pure P S w (.int .u8 b.toNat) (execOp a.eval o) := by
  have h1 := opd_rel hx he hw hp
  simp only [VRel] at h1
  obtain ⟨k, h2⟩ := nat_rel hi he hw hj
  have e1 : execOp a.eval o = (do pure (Next.value (← Instr.index t (a.eval x) (a.eval ix))) : Sem Next) := by simp only [execOp, hop]
  rw [Pure, e1, h1, h2]
  refine ⟨.int .u8 b.toNat, run_v ?_, by simp only [VRel]⟩
  have h3 : (ByteArray.mk s.toArray)[j]? = some b := by
    obtain ⟨hlt, hb⟩ := List.getElem?_eq_some_iff.1 hb
    rw [ByteArray.getElem?_lt' _ _ (by exact hlt)]
    exact congrArg some hb
  simp only [Instr.index, Sem.run_bind, run_asIntOf_int, Result.andThen_ok, run_underlying ht]
  simp [h3]

theorem snd_idxA {o : Oper} {t el : TypeId} {x ix : Operand} {ox oi : Opd} {n : Nat} {cs : List AV} {j : Nat} {v : AV} (hop : o.op = .index t x ix) (hx : opd G A x = some ox) (hi : opd G A ix = some oi) (ht : P.underlying t = some (.array n el))
    (hc : cell1 P el = true) (hu : (P.underlying el).isSome = true) (he : ERel A S e a w) (hw : WRel G S h w) (hp : val e ox = some (.agg cs)) (hj : nat? e oi = some j) (hjn : j < n) (hv : cut cs (j * P.cellsOf el) (if aggT P el then some (P.cellsOf el) else none) = some v) :
    Pure P S w v (execOp a.eval o) := by
  have h1 := opd_rel hx he hw hp
  simp only [VRel] at h1
  obtain ⟨l, h1, h2⟩ := h1
  obtain ⟨k, h3⟩ := nat_rel hi he hw hj
  have e1 : execOp a.eval o = (do pure (Next.value (← Instr.index t (a.eval x) (a.eval ix))) : Sem Next) := by simp only [execOp, hop]
  rw [Pure, e1, h1, h3]
  obtain ⟨c, h4, h5⟩ := cut_rel h2 hv
  refine ⟨c, run_v ?_, h4⟩
  obtain ⟨i, hi⟩ := Option.isSome_iff_exists.1 (cell1_known hc)
  have hsz : (sizeOf el).run P w = .ok (P.cellsOf el) w := by simp [sizeOf, typeInfo, hi, Program.cellsOf]
  simp only [Instr.index, Sem.run_bind, run_asIntOf_int, Result.andThen_ok, run_underlying ht]
  rw [if_pos (by omega)]
  simp only [Sem.run_bind, hsz, Result.andThen_ok, Int.toNat_natCast]
  exact run_part hc h5 hu (cell1_known hc)

theorem snd_eqB {o : Oper} {neg : Bool} {t u : TypeId} {x y : Operand} {ox oy : Opd} {p q : Bool} (hop : o.op = .binOp (if neg then .neq else .eql) t x y u) (hx : opd G A x = some ox) (hy : opd G A y = some oy) (he : ERel A S e a w) (hw : WRel G S h w)
    (ht : P.underlying t = some .bool) (hp : val e ox = some (.bool p)) (hq : val e oy = some (.bool q)) : Pure P S w (.bool (if neg then !(p == q) else p == q)) (execOp a.eval o) := by
  have h1 := opd_rel hx he hw hp
  have h2 := opd_rel hy he hw hq
  simp only [VRel] at h1 h2
  rw [Pure, run_binOp hop, h1, h2]
  refine ⟨_, run_v ?_, by simp only [VRel]; rfl⟩
  have hq : (Op.equal t (.bool p) (.bool q)).run P w = .ok (p == q) w := by
    have key : ∀ d, (Op.equalIn (d + 1) t (.bool p) (.bool q)).run P w = .ok (p == q) w := fun d => by
      simp only [Op.equalIn, Sem.run_bind, run_underlying ht, Result.andThen_ok, Sem.run_pure]
    exact key 9999
  cases neg
  · rw [Sem.run_bind, show (eqGuard (if false = true then BinOp.neq else BinOp.eql) t x y (.bool p) (.bool q)).run P w = .ok () w from rfl, Result.andThen_ok]
    simp only [Bool.false_eq_true, if_false, binOp, Sem.run_bind, hq, Result.andThen_ok, Sem.run_pure]
  · rw [Sem.run_bind, show (eqGuard (if true = true then BinOp.neq else BinOp.eql) t x y (.bool p) (.bool q)).run P w = .ok () w from rfl, Result.andThen_ok]
    simp only [if_true, binOp, Sem.run_bind, hq, Result.andThen_ok, Sem.run_pure]

theorem run_equal_nil {t : TypeId} {d : TypeDesc} {n : AV} {p : AV} {b : Bool} {c c' : Value} (ht : P.underlying t = some d) (hn : nilOf d n = true) (hp : VRel S p c) (hc : VRel S n c') (hb : eqNil p n = some b) :
    (Op.equal t c c').run P w = .ok b w := by
  have key : ∀ k, (Op.equalIn (k + 1) t c c').run P w = .ok b w := fun k => by
    simp only [Op.equalIn, Sem.run_bind, run_underlying ht, Result.andThen_ok]
    unfold eqNil at hb
    split at hb <;> cases hb <;> simp only [VRel] at hp hc
    · subst hp hc; cases d <;> simp only [nilOf, Bool.false_eq_true] at hn; rfl
    · subst hc; cases d <;> simp only [nilOf, Bool.false_eq_true] at hn
      split at hp
      · subst hp; rfl
      · obtain ⟨_, _, rfl⟩ := hp; rfl
      · exact hp.elim
    · subst hc; cases d <;> simp only [nilOf, Bool.false_eq_true] at hn
      obtain ⟨_, _, rfl, _⟩ := hp; rfl
    · subst hp hc; cases d <;> simp only [nilOf, Bool.false_eq_true] at hn; rfl
    · subst hc; cases d <;> simp only [nilOf, Bool.false_eq_true] at hn
      split at hp
      · obtain ⟨_, _, rfl, _⟩ := hp; rfl
      · obtain ⟨_, _, rfl, _⟩ := hp; rfl
      · exact hp.elim
    · subst hc; cases d <;> simp only [nilOf, Bool.false_eq_true] at hn
      obtain ⟨_, _, rfl, _, _, h⟩ := hp
      rcases h with h | ⟨_, _, _, rfl, _⟩
      · cases h
      · rfl
    · subst hc; cases d <;> simp only [nilOf, Bool.false_eq_true] at hn
      obtain ⟨base, _, rfl, _, hcap, _⟩ := hp
      simp only [CapOk] at hcap
      cases base with
      | none => cases hcap
      | some _ => rfl
    · subst hc; cases d <;> simp only [nilOf, Bool.false_eq_true] at hn
      obtain ⟨base, cap, rfl, _, hcap, _⟩ := hp
      simp only [CapOk] at hcap
      subst hcap
      rfl
    · subst hp hc; cases d <;> simp only [nilOf, Bool.false_eq_true] at hn; rfl
    · subst hc; cases d <;> simp only [nilOf, Bool.false_eq_true] at hn
      split at hp
      · subst hp; rfl
      · obtain ⟨_, rfl⟩ := hp; rfl
      · exact hp.elim
    · subst hp hc; cases d <;> simp only [nilOf, Bool.false_eq_true] at hn; rfl
    · subst hc; cases d <;> simp only [nilOf, Bool.false_eq_true] at hn
      obtain ⟨_, _, rfl, _⟩ := hp; rfl
    · subst hp hc; cases d <;> simp only [nilOf, Bool.false_eq_true] at hn; rfl
    · subst hc; cases d <;> simp only [nilOf, Bool.false_eq_true] at hn
      obtain ⟨_, rfl, _⟩ := hp; rfl
  exact key 9999

theorem snd_eqN {o : Oper} {neg : Bool} {t u : TypeId} {x y : Operand} {ox : Opd} {p n : AV} {b : Bool} {d : TypeDesc} (hop : o.op = .binOp (if neg then .neq else .eql) t x y u) (hx : opd G A x = some ox) (hy : opd G A y = some (.c n))
    (he : ERel A S e a w) (hw : WRel G S h w) (ht : P.underlying t = some d) (hn : nilOf d n = true) (hp : val e ox = some p) (hb : eqNil p n = some b) : Pure P S w (.bool (if neg then !b else b)) (execOp a.eval o) := by
  have h1 := opd_rel hx he hw hp
  have h2 : VRel S n (a.eval y) := opd_rel hy he hw rfl
  rw [Pure, run_binOp hop]
  have hq := run_equal_nil (P := P) (w := w) ht hn h1 h2 hb
  have hg : (eqGuard (if neg then .neq else .eql) t x y (a.eval x) (a.eval y)).run P w = .ok () w := by
    have hy' : n = .nili → ∃ v, y = .const v := by
      rintro rfl
      unfold opd at hy
      split at hy
      · split at hy <;> cases hy
      · exact ⟨_, rfl⟩
      · split at hy <;> cases hy
      · cases hy
    generalize a.eval x = c1 at *
    generalize a.eval y = c2 at *
    unfold eqNil at hb
    split at hb <;> cases hb <;> simp only [VRel] at h1 h2
    all_goals first
      | (subst h1 h2; first | (cases neg <;> rfl; done) | (obtain ⟨v, rfl⟩ := hy' rfl; cases neg <;> cases x <;> rfl))
      | (obtain ⟨_, _, rfl, _⟩ := h1; subst h2; cases neg <;> rfl)
      | (obtain ⟨_, rfl, _⟩ := h1; subst h2; cases neg <;> rfl)
      | (split at h1 <;> first | (subst h1; subst h2; cases neg <;> rfl) | (obtain ⟨_, _, rfl⟩ := h1; subst h2; cases neg <;> rfl) | (obtain ⟨_, _, rfl, _⟩ := h1; subst h2; cases neg <;> rfl) | (obtain ⟨_, rfl⟩ := h1; subst h2; cases neg <;> rfl) | exact h1.elim)
  have hb2 : (binOp (if neg then .neq else .eql) t (a.eval x) (a.eval y)).run P w = .ok (.bool (if neg then !b else b)) w := by
    have e0 : binOp (if neg then .neq else .eql) t (a.eval x) (a.eval y) = (if neg then (do pure (.bool (!(← Op.equal t (a.eval x) (a.eval y))))) else (do pure (.bool (← Op.equal t (a.eval x) (a.eval y)))) : Sem Value) := by
      generalize a.eval x = c1 at *
      generalize a.eval y = c2 at *
      unfold eqNil at hb
      split at hb <;> cases hb <;> simp only [VRel] at h1 h2
      all_goals first
        | (subst h1 h2; cases neg <;> rfl)
        | (obtain ⟨_, _, rfl, _⟩ := h1; subst h2; cases neg <;> rfl)
        | (obtain ⟨_, rfl, _⟩ := h1; subst h2; cases neg <;> rfl)
        | (split at h1 <;> first | (subst h1; subst h2; cases neg <;> rfl) | (obtain ⟨_, _, rfl⟩ := h1; subst h2; cases neg <;> rfl) | (obtain ⟨_, _, rfl, _⟩ := h1; subst h2; cases neg <;> rfl) | (obtain ⟨_, rfl⟩ := h1; subst h2; cases neg <;> rfl) | exact h1.elim)
    rw [e0]
    cases neg <;> simp [hq]
  exact ⟨_, run_v (by rw [Sem.run_bind, hg, Result.andThen_ok, hb2]), by simp only [VRel]⟩

theorem kindOf_scalar {t : TypeId} {k : Nat} (hk : kindOf P t = some k) : ∃ d, P.underlying t = some d ∧ (isAgg t).run P w = .ok false w ∧ ∀ n p q b c c', eqPlain k p q = some b → VRel S p c → VRel S q c' → (Op.equalIn (n + 1) t c c').run P w = .ok b w := by
  unfold kindOf at hk
  split at hk
  · rename_i k' hu
    cases hk
    refine ⟨_, hu, by simp [isAgg, run_underlying hu], fun n p q b c c' hb hp hq => ?_⟩
    cases p <;> cases q <;> simp only [eqPlain, reduceCtorEq] at hb
    split at hb
    · rename_i h1; subst h1; cases hb
      simp only [VRel] at hp hq; subst hp hq
      exact run_equalIn_int w n t _ _ _ _ hu
    · cases hb
  · rename_i hu
    cases hk
    refine ⟨_, hu, by simp [isAgg, run_underlying hu], fun n p q b c c' hb hp hq => ?_⟩
    cases p <;> cases q <;> simp only [eqPlain, reduceCtorEq, Option.some.injEq] at hb
    subst hb
    simp only [VRel] at hp hq; subst hp hq
    rw [run_equalIn_string w n t _ _ hu, ByteArray.toList_mk, ByteArray.toList_mk]
  · rename_i hu
    cases hk
    refine ⟨_, hu, by simp [isAgg, run_underlying hu], fun n p q b c c' hb hp hq => ?_⟩
    cases p <;> cases q <;> simp only [eqPlain, reduceCtorEq, Option.some.injEq] at hb
    subst hb
    simp only [VRel] at hp hq; subst hp hq
    exact run_equalIn_bool' w n t _ _ hu
  · cases hk

theorem run_eqFields_flat (n : Nat) (xs ys : List Value) : ∀ (fs : List Field) (i : Nat) (ks : List Nat) (as bs : List AV) (b : Bool), kindsOf P i fs = some ks → VRelL S as (xs.drop i) → VRelL S bs (ys.drop i) → eqPlains ks as bs = some b →
    (Op.eqFields (n + 1) xs.toArray ys.toArray fs).run P w = .ok b w
  | [], i, ks, as, bs, b, hk, hx, hy, hb => by
    simp only [kindsOf, Option.some.injEq] at hk
    subst hk
    cases as <;> cases bs <;> simp only [eqPlains, reduceCtorEq, Option.some.injEq] at hb
    subst hb
    simp [Op.eqFields]
  | f :: fs, i, ks, as, bs, b, hk, hx, hy, hb => by
    simp only [kindsOf] at hk
    split at hk
    · rename_i k r h1 h2
      split at hk
      · rename_i hc
        simp only [Bool.and_eq_true, beq_iff_eq, bne_iff_ne, ne_eq] at hc
        cases hk
        unfold eqPlains at hb
        split at hb
        · simp_all
        · rename_i k' ks' x a y b' heq
          cases heq
          split at hb
          · rename_i p q hp hq
            cases hb
            obtain ⟨d, hd, hag, heq⟩ := kindOf_scalar (S := S) (w := w) h1
            obtain ⟨cx, ex, hxr⟩ := hx.get 0 x rfl
            obtain ⟨cy, ey, hyr⟩ := hy.get 0 y rfl
            rw [List.getElem?_drop] at ex ey
            have px : (part f.type xs.toArray f.offset).run P w = .ok cx w := by
              simp only [part, Sem.run_bind, hag, Result.andThen_ok, hc.1.1]
              simp only [Nat.add_zero] at ex
              simp [ex]
            have py : (part f.type ys.toArray f.offset).run P w = .ok cy w := by
              simp only [part, Sem.run_bind, hag, Result.andThen_ok, hc.1.1]
              simp only [Nat.add_zero] at ey
              simp [ey]
            simp only [Op.eqFields]
            rw [if_pos hc.1.2]
            simp only [Sem.run_bind, px, py, Result.andThen_ok, heq n x y p cx cy hp hxr hyr]
            have hx' : VRelL S a (xs.drop (i + 1)) := by
              have := hx.drop 1
              simpa [List.drop_drop] using this
            have hy' : VRelL S b' (ys.drop (i + 1)) := by
              have := hy.drop 1
              simpa [List.drop_drop] using this
            cases p
            · simp
            · simp only [Bool.not_true, Bool.false_eq_true, if_false, Bool.true_and]
              exact run_eqFields_flat n xs ys fs (i + 1) r a b' q h2 hx' hy' hq
          · cases hb
        · cases hb
      · cases hk
    · cases hk

theorem snd_eqA {o : Oper} {neg : Bool} {t u : TypeId} {x y : Operand} {ox oy : Opd} {p q : List AV} {b : Bool} {fs : Array Field} {ks : List Nat} (hop : o.op = .binOp (if neg then .neq else .eql) t x y u) (hx : opd G A x = some ox) (hy : opd G A y = some oy)
    (he : ERel A S e a w) (hw : WRel G S h w) (ht : P.underlying t = some (.struct fs)) (hs : P.stoodInHeld t = false) (hk : kindsOf P 0 fs.toList = some ks) (hp : val e ox = some (.agg p)) (hq : val e oy = some (.agg q)) (hb : eqPlains ks p q = some b) :
    Pure P S w (.bool (if neg then !b else b)) (execOp a.eval o) := by
  have h1 := opd_rel hx he hw hp
  have h2 := opd_rel hy he hw hq
  simp only [VRel] at h1 h2
  obtain ⟨l, h1, h3⟩ := h1
  obtain ⟨m, h2, h4⟩ := h2
  rw [Pure, run_binOp hop, h1, h2]
  have hf : P.fieldsOf t = fs := by simp [Program.fieldsOf, ht]
  have key : ∀ d, (Op.equalIn (d + 1 + 1) t (.agg l.toArray) (.agg m.toArray)).run P w = .ok b w := fun d => by
    rw [run_equalIn_struct w (d + 1) t _ _ (by rw [hf]; exact ht) hs, hf]
    exact run_eqFields_flat d l m fs.toList 0 ks p q b hk (by simpa using h3) (by simpa using h4) hb
  have hE : (Op.equal t (.agg l.toArray) (.agg m.toArray)).run P w = .ok b w := key 9998
  have hg2 : P.eqGuardType P.depth t = false := by
    have hd : P.depth = 2 * (P.types.size + Made.depth) + 1 + 1 := rfl
    rw [hd]
    simp only [Program.eqGuardType, ht]
    have : ∀ (gs : List Field) (i : Nat) (ks : List Nat), kindsOf P i gs = some ks → ∀ f ∈ gs, ∀ n, (f.name != "_" && P.eqGuardType (n + 1) f.type) = false := by
      intro gs
      induction gs with
      | nil => intro i ks _ f hf; cases hf
      | cons g gs ih =>
        intro i ks hk f hf n
        simp only [kindsOf] at hk
        split at hk
        · rename_i k r h1 h2
          split at hk
          · cases hk
            rcases List.mem_cons.1 hf with rfl | hf
            · unfold kindOf at h1
              have e1 : P.eqGuardType (n + 1) f.type = false := by
                simp only [Program.eqGuardType]
                split at h1 <;> first | (cases h1; done) | (rename_i hu; rw [hu])
              simp only [e1, Bool.and_false]
            · exact ih _ _ h2 f hf n
          · cases hk
        · cases hk
    rw [Array.any_eq_false']
    intro f hf
    have h9 := this fs.toList 0 ks hk f (by simpa using hf) (2 * (P.types.size + Made.depth))
    simp only [Program.eqGuardType] at h9
    rw [h9]
    simp
  have hg : (eqGuard (if neg then .neq else .eql) t x y (.agg l.toArray) (.agg m.toArray)).run P w = .ok () w := by
    cases neg <;> simp [eqGuard, hg2]
  have hb2 : (binOp (if neg then .neq else .eql) t (.agg l.toArray) (.agg m.toArray)).run P w = .ok (.bool (if neg then !b else b)) w := by
    cases neg <;> simp [binOp, hE]
  exact ⟨_, run_v (by rw [Sem.run_bind, hg, Result.andThen_ok, hb2]), by simp only [VRel]⟩

end
end Go.AM

set_option linter.unusedVariables false
set_option linter.unusedSimpArgs false
namespace Go.AM
open Go
section
variable {P : Program} {G : GTab} {A : Ann} {S S' : Sim} {e : Env} {h : Heap} {a : Act} {w w' : World}

theorem EntRel.mono (k : SimLe S S') : ∀ {es : List (AV × AV × Nat)} {l : List MapEntry}, EntRel S es l → EntRel S' es l
  | [], l, h => h
  | (x, v, n) :: es, l, h => by
    obtain ⟨m, ms, rfl, h1, h2, h3, h4⟩ := h
    exact ⟨m, ms, rfl, h1.mono k, h2.mono k, h3, EntRel.mono k h4⟩

theorem ObjRel.keep {r : Nat} {x : AObj} (ho : ObjRel S w r x) (le : SimLe S S')
    (h1 : ∀ b base lim, S.ρ r = .live b base lim → S'.ρ r = .live b base lim ∧ w'.heap[b]? = w.heap[b]?)
    (h2 : ∀ z, S.tk r = some z → S'.tk r = some z ∧ w'.heap[z.b]? = w.heap[z.b]?) : ObjRel S' w' r x := by
  cases x with
  | cells cs =>
    obtain ⟨b, base, lim, hr, c, el, fr, hb, k1, k2, k3, k4⟩ := ho
    obtain ⟨hr', hb'⟩ := h1 b base lim hr
    exact ⟨b, base, lim, hr', c, el, fr, by rw [hb']; exact hb, k1, k2, k3, fun i v hv => by obtain ⟨cv, e1, e2⟩ := k4 i v hv; exact ⟨cv, e1, e2.mono le⟩⟩
  | map es clk =>
    obtain ⟨b, base, lim, hr, ces, hb, k1, k2, k3⟩ := ho
    obtain ⟨hr', hb'⟩ := h1 b base lim hr
    exact ⟨b, base, lim, hr', ces, by rw [hb']; exact hb, k1.mono le, k2, k3⟩
  | tip e sz =>
    obtain ⟨z, hz, k1, k2, c, el, fr, hb, k3⟩ := ho
    obtain ⟨hz', hb'⟩ := h2 z hz
    exact ⟨z, hz', k1, k2, c, el, fr, by rw [hb']; exact hb, k3⟩
  | sit s pos =>
    obtain ⟨b, lim, hr, hb⟩ := ho
    obtain ⟨hr', hb'⟩ := h1 b 0 lim hr
    exact ⟨b, lim, hr', by rw [hb']; exact hb⟩
  | mit m es clk left cur =>
    obtain ⟨b, lim, hr, hb⟩ := ho
    obtain ⟨hr', hb'⟩ := h1 b 0 lim hr
    refine ⟨b, lim, hr', ?_⟩
    cases m with
    | none => simp only [hb'] at *; exact hb
    | some m =>
      obtain ⟨mb, hm, hrest⟩ := hb
      refine ⟨mb, ?_, ?_⟩
      · rcases le.ρ m with k | k | ⟨k, _⟩
        · rw [k]; exact hm
        · rcases hm with hm | ⟨x, y, hm⟩ <;> rw [k] at hm <;> cases hm
        · exact .inl k
      · rw [hb']; exact hrest

theorem WRel.heap (hw : WRel G S h w) (e : w'.heap = w.heap) : WRel G S h w' where
  obj r x hx := (hw.obj r x hx).keep (.refl S) (fun b base lim k => ⟨k, by rw [e]⟩) (fun z k => ⟨k, by rw [e]⟩)
  inj := hw.inj
  tinj := hw.tinj
  rt := hw.rt
  ob b k := by rw [e]; exact hw.ob b k
  Fc b o v k := by have := hw.Fc b o v k; unfold World.cell? at *; rw [e]; exact this
  Fr := hw.Fr
  Ft := hw.Ft
  nr := hw.nr
  nt := hw.nt
  no := hw.no
  gl := hw.gl

theorem get_of_next {r : Nat} {x : AObj} (hw : WRel G S h w) (hx : h.get r = some x) : r < h.next := by
  rcases Nat.lt_or_ge r h.next with k | k
  · exact k
  · rw [hw.no r k] at hx; cases hx
theorem ρ_next (hw : WRel G S h w) {r b x y : Nat} (k : S.ρ r = .live b x y) : r < h.next := by
  rcases Nat.lt_or_ge r h.next with j | j
  · exact j
  · rw [hw.nr r j] at k; cases k
theorem tk_next (hw : WRel G S h w) {t : Nat} {z : Tok} (k : S.tk t = some z) : t < h.next := by
  rcases Nat.lt_or_ge t h.next with j | j
  · exact j
  · rw [hw.nt t j] at k; cases k

/-! ### New blocks -/

def Sim.addF (S : Sim) (b : Nat) (cs : List Value) : Sim := { S with F := fun x o => if x = b then cs[o]? else S.F x o }
def Sim.addR (S : Sim) (r b base lim : Nat) : Sim := { S with ρ := fun x => if x = r then .live b base lim else S.ρ x }
def Sim.addT (S : Sim) (t : Nat) (z : Tok) : Sim := { S with tk := fun x => if x = t then some z else S.tk x }

theorem cell_push {o : Obj} (e : w'.heap = w.heap.push o) (b : Nat) (hb : b < w.heap.size) : w'.heap[b]? = w.heap[b]? := by
  rw [e, Array.getElem?_push, if_neg (by omega)]
theorem cell_new {o : Obj} (e : w'.heap = w.heap.push o) : w'.heap[w.heap.size]? = some o := by
  rw [e, Array.getElem?_push, if_pos rfl]

/-- the new block is never written -/
theorem new_imm (hw : WRel G S h w) {c : Array Value} {el : TypeId} {fr : Nat × Nat} (e : w'.heap = w.heap.push (.cells c el fr)) (eo : w'.os = w.os) (et : w'.tape = w.tape) (eu : w'.output = w.output)
    {cs : List Value} (hc : ∀ (i : Nat) (v : Value), cs[i]? = some v → c[i]? = some v) :
    Ext S w (S.addF w.heap.size cs) w' ∧ WRel G (S.addF w.heap.size cs) h w' := by
  have hF0 : ∀ o, S.F w.heap.size o = none := fun o => by
    cases k : S.F w.heap.size o with
    | none => rfl
    | some v =>
      have := hw.Fc _ _ _ k
      unfold World.cell? at this
      simp at this
  have le : SimLe S (S.addF w.heap.size cs) := ⟨fun r => .inl rfl, fun t z hz => ⟨z, hz, Nat.le_refl _, fun _ => rfl⟩, fun b o v k => by
    simp only [Sim.addF]
    split
    · rename_i hb; subst hb; rw [hF0] at k; cases k
    · exact k⟩
  have hsz : w'.heap.size = w.heap.size + 1 := by rw [e]; simp
  refine ⟨⟨le, by omega, fun b hb _ => cell_push e b hb, fun b k => .inl k, fun b o k => ?_, eo, et, eu⟩, ?_⟩
  · simp only [Sim.addF] at k
    split at k
    · rename_i hb; exact .inr (.inr (by omega))
    · exact .inl k
  · refine ⟨fun r x hx => ?_, hw.inj, hw.tinj, hw.rt, fun b k => ?_, fun b o v k => ?_, fun b o v r x y k => ?_, fun b o v t z k hz hb => ?_, hw.nr, hw.nt, hw.no, fun g l k => (hw.gl g l k).mono le _ _ _⟩
    · exact (hw.obj r x hx).keep le (fun b base lim k => ⟨k, cell_push e b (hw.ob b (.inl ⟨r, _, _, k⟩))⟩) (fun z k => ⟨k, cell_push e z.b (hw.ob z.b (.inr ⟨r, z, k, rfl⟩))⟩)
    · have := hw.ob b k; omega
    · simp only [Sim.addF] at k
      split at k
      · rename_i hb
        subst hb
        unfold World.cell?
        rw [show (Addr.mk w.heap.size o none).block = w.heap.size from rfl, cell_new e]
        simp [hc o v k]
      · have := hw.Fc b o v k
        unfold World.cell? at *
        simp only at *
        have hlt : b < w.heap.size := by
          rcases Nat.lt_or_ge b w.heap.size with j | j
          · exact j
          · rw [Array.getElem?_eq_none (by omega)] at this; simp at this
        rw [cell_push e b hlt]
        exact this
    · simp only [Sim.addF] at k ⊢
      split at k
      · rename_i hb
        subst hb
        intro hr
        have := hw.ob _ (.inl ⟨r, _, _, hr⟩)
        omega
      · exact hw.Fr b o v r x y k
    · simp only [Sim.addF] at k hz
      split at k
      · rename_i hb'
        subst hb'
        have := hw.ob z.b (.inr ⟨t, z, hz, rfl⟩)
        omega
      · exact hw.Ft b o v t z k hz hb

/-- the new block is an object's -/
theorem new_obj (hw : WRel G S h w) {o : Obj} (e : w'.heap = w.heap.push o) (eo : w'.os = w.os) (et : w'.tape = w.tape) (eu : w'.output = w.output) {x : AObj} {lim : Nat}
    (hx : ∀ S', SimLe S S' → S'.ρ h.next = .live w.heap.size 0 lim → (∀ m b x y, S.ρ m = .live b x y → S'.ρ m = .live b x y) → ObjRel S' w' h.next x) :
    Ext S w (S.addR h.next w.heap.size 0 lim) w' ∧ WRel G (S.addR h.next w.heap.size 0 lim) (h.new x) w' := by
  have hn : S.ρ h.next = .none := hw.nr _ (Nat.le_refl _)
  have le : SimLe S (S.addR h.next w.heap.size 0 lim) := ⟨fun r => by
    simp only [Sim.addR]
    split
    · rename_i k; subst k; exact .inr (.inl hn)
    · exact .inl rfl, fun t z hz => ⟨z, hz, Nat.le_refl _, fun _ => rfl⟩, fun b o v k => k⟩
  have hsz : w'.heap.size = w.heap.size + 1 := by rw [e]; simp
  have keep : ∀ m b x y, S.ρ m = .live b x y → (S.addR h.next w.heap.size 0 lim).ρ m = .live b x y := fun m b x y k => by
    simp only [Sim.addR]
    rw [if_neg (by have := ρ_next hw k; omega)]; exact k
  have owns : ∀ b, Owns (S.addR h.next w.heap.size 0 lim) b → Owns S b ∨ b = w.heap.size := fun b k => by
    rcases k with ⟨r, x, y, k⟩ | ⟨t, z, k, hb⟩
    · simp only [Sim.addR] at k
      split at k
      · cases k; exact .inr rfl
      · exact .inl (.inl ⟨r, x, y, k⟩)
    · exact .inl (.inr ⟨t, z, k, hb⟩)
  refine ⟨⟨le, by omega, fun b hb _ => cell_push e b hb, fun b k => (owns b k).imp id (fun k => by omega), fun b o k => .inl k, eo, et, eu⟩, ?_⟩
  refine ⟨fun r y hy => ?_, fun r r' b x y x' y' k k' => ?_, hw.tinj, fun r b x y t z k hz => ?_, fun b k => ?_, fun b o v k => ?_, fun b o v r x y k hr => ?_, fun b o v t z k hz hb => hw.Ft b o v t z k hz hb, fun r k => ?_, fun t k => hw.nt t (by have := k; simp only [Heap.new] at this; omega), fun r k => ?_, fun g l k => (hw.gl g l k).mono le _ _ _⟩
  · simp only [Heap.get, Heap.new] at hy
    rw [Tr.get_put] at hy
    split at hy
    · rename_i k
      cases hy
      subst k
      exact hx _ le (by simp [Sim.addR]) keep
    · exact (hw.obj r y hy).keep le (fun b base lim' k => ⟨keep r b base lim' k, cell_push e b (hw.ob b (.inl ⟨r, _, _, k⟩))⟩) (fun z k => ⟨k, cell_push e z.b (hw.ob z.b (.inr ⟨r, z, k, rfl⟩))⟩)
  · simp only [Sim.addR] at k k'
    split at k <;> split at k'
    · simp_all
    · cases k
      have := hw.ob _ (.inl ⟨r', _, _, k'⟩)
      omega
    · cases k'
      have := hw.ob _ (.inl ⟨r, _, _, k⟩)
      omega
    · exact hw.inj r r' b x y x' y' k k'
  · simp only [Sim.addR] at k hz
    split at k
    · cases k
      have := hw.ob z.b (.inr ⟨t, z, hz, rfl⟩)
      omega
    · exact hw.rt r b x y t z k hz
  · rcases owns b k with k | k
    · have := hw.ob b k; omega
    · omega
  · have hc := hw.Fc b o v k
    unfold World.cell? at *
    simp only at *
    have hlt : b < w.heap.size := by
      rcases Nat.lt_or_ge b w.heap.size with j | j
      · exact j
      · rw [Array.getElem?_eq_none (by omega)] at hc; simp at hc
    rw [cell_push e b hlt]
    exact hc
  · simp only [Sim.addR] at hr
    split at hr
    · cases hr
      have hc := hw.Fc _ o v k
      unfold World.cell? at hc
      simp at hc
    · exact hw.Fr b o v r x y k hr
  · simp only [Heap.new] at k
    simp only [Sim.addR]
    rw [if_neg (by omega)]
    exact hw.nr r (by omega)
  · simp only [Heap.new, Heap.get] at *
    rw [Tr.get_put, if_neg (by omega)]
    exact hw.no r (by omega)

end
end Go.AM

set_option linter.unusedVariables false
set_option linter.unusedSimpArgs false
namespace Go.AM
open Go
section
variable {P : Program} {G : GTab} {A : Ann} {S S' : Sim} {e : Env} {h : Heap} {a : Act} {w w' : World}

/-- an object's own block is written -/
theorem upd_obj (hw : WRel G S h w) {r b base lim : Nat} {x x' : AObj} (hr : S.ρ r = .live b base lim) (hx : h.get r = some x)
    (hs : w'.heap.size = w.heap.size) (hb : ∀ k, k ≠ b → w'.heap[k]? = w.heap[k]?) (eo : w'.os = w.os) (et : w'.tape = w.tape) (eu : w'.output = w.output)
    (ho : ObjRel S w' r x') : Ext S w S w' ∧ WRel G S (h.set r x') w' := by
  have own : Owns S b := .inl ⟨r, _, _, hr⟩
  refine ⟨⟨.refl S, by omega, fun k _ hk => hb k (fun e => hk (e ▸ own)), fun k hk => .inl hk, fun k o hk => .inl hk, eo, et, eu⟩, ?_⟩
  refine ⟨fun q y hy => ?_, hw.inj, hw.tinj, hw.rt, fun k hk => by rw [hs]; exact hw.ob k hk, fun k o v hk => ?_, hw.Fr, hw.Ft, hw.nr, hw.nt, fun q hq => ?_, hw.gl⟩
  · simp only [Heap.get, Heap.set] at hy
    rw [Tr.get_put] at hy
    split at hy
    · rename_i k; subst k; cases hy; exact ho
    · rename_i hne
      exact (hw.obj q y hy).keep (.refl S) (fun c x y k => ⟨k, hb c (fun e => hne (hw.inj r q b _ _ _ _ hr (e ▸ k)))⟩) (fun z k => ⟨k, hb z.b (fun e => hw.rt r b _ _ q z hr k e)⟩)
  · have hc := hw.Fc k o v hk
    have hne : k ≠ b := fun e => hw.Fr k o v r base lim hk (e ▸ hr)
    unfold World.cell? at *
    simp only at *
    rw [hb k hne]
    exact hc
  · simp only [Heap.get, Heap.set]
    rw [Tr.get_put, if_neg (by have := get_of_next hw hx; simp only [Heap.set] at hq; omega)]
    exact hw.no q hq

/-- an array whose right to grow is a token's -/
theorem new_tok (hw : WRel G S h w) {c : Array Value} {el : TypeId} {fr : Nat × Nat} (e : w'.heap = w.heap.push (.cells c el fr)) (eo : w'.os = w.os) (et : w'.tape = w.tape) (eu : w'.output = w.output)
    {cs : List Value} {n sz cap : Nat} (hc : ∀ (i : Nat) (v : Value), cs[i]? = some v → c[i]? = some v) (hl : cs.length ≤ cap * sz) (hcap : cap * sz ≤ c.size) (hfr : Thaw fr cs.length (cap * sz)) :
    Ext S w ((S.addF w.heap.size cs).addT h.next ⟨n, w.heap.size, cs.length, cap * sz, sz⟩) w' ∧
    WRel G ((S.addF w.heap.size cs).addT h.next ⟨n, w.heap.size, cs.length, cap * sz, sz⟩) (h.new (.tip n sz)) w' := by
  obtain ⟨x1, x2⟩ := new_imm hw e eo et eu hc
  generalize hS1 : S.addF w.heap.size cs = S1 at *
  have hn : S1.tk h.next = none := x2.nt _ (Nat.le_refl _)
  have hT : S.tk = S1.tk := by rw [← hS1]; rfl
  have hR : S.ρ = S1.ρ := by rw [← hS1]; rfl
  generalize hz : (⟨n, w.heap.size, cs.length, cap * sz, sz⟩ : Tok) = z
  have le : SimLe S1 (S1.addT h.next z) := ⟨fun r => .inl rfl, fun t y hy => ⟨y, by
    simp only [Sim.addT]
    rw [if_neg (fun e => by rw [e, hn] at hy; cases hy)]; exact hy, Nat.le_refl _, fun _ => rfl⟩, fun b o v k => k⟩
  have hsz : w'.heap.size = w.heap.size + 1 := by rw [e]; simp
  have hzb : z.b = w.heap.size := by rw [← hz]
  have old : ∀ b, Owns S1 b → b < w.heap.size := fun b k => by
    refine hw.ob b ?_
    rcases k with ⟨r, x, y, k⟩ | ⟨t, y, k, k2⟩
    · exact .inl ⟨r, x, y, by rw [hR]; exact k⟩
    · exact .inr ⟨t, y, by rw [hT]; exact k, k2⟩
  have owns : ∀ b, Owns (S1.addT h.next z) b → Owns S1 b ∨ b = w.heap.size := fun b k => by
    rcases k with ⟨r, x, y, k⟩ | ⟨t, y, k, hb⟩
    · exact .inl (.inl ⟨r, x, y, k⟩)
    · simp only [Sim.addT] at k
      split at k
      · cases k; exact .inr (hb ▸ hzb)
      · exact .inl (.inr ⟨t, y, k, hb⟩)
  have ext2 : Ext S w (S1.addT h.next z) w' := by
    refine ⟨x1.le.trans le, x1.size, x1.same, fun b k => ?_, fun b o k => x1.F b o k, x1.os, x1.tape, x1.output⟩
    rcases owns b k with k | k
    · exact x1.owns b k
    · exact .inr (by omega)
  refine ⟨ext2, fun r x hx => ?_, x2.inj, fun t t' y y' k k' hyy => ?_, fun r b x y t q k hq => ?_, fun b k => ?_, x2.Fc, x2.Fr, fun b o v t y k hy hb => ?_, fun r k => x2.nr r (by simp only [Heap.new] at k; omega), fun t k => ?_, fun r k => ?_, fun g l k => (x2.gl g l k).mono le _ _ _⟩
  · simp only [Heap.get, Heap.new] at hx
    rw [Tr.get_put] at hx
    split at hx
    · rename_i k
      subst k
      cases hx
      refine ⟨z, by simp [Sim.addT], by rw [← hz], by rw [← hz], c, el, fr, by rw [hzb]; exact cell_new e, by rw [← hz]; exact hl, by rw [← hz]; exact hcap, by rw [← hz]; exact hfr⟩
    · rename_i hne
      exact (x2.obj r x hx).keep le (fun b base lim k => ⟨k, rfl⟩) (fun q k => ⟨by simp only [Sim.addT]; rw [if_neg (fun e => hne e.symm)]; exact k, rfl⟩)
  · simp only [Sim.addT] at k k'
    split at k <;> split at k'
    · simp_all
    · cases k
      have := old y'.b (.inr ⟨t', y', k', rfl⟩)
      omega
    · cases k'
      have := old y.b (.inr ⟨t, y, k, rfl⟩)
      omega
    · exact x2.tinj t t' y y' k k' hyy
  · simp only [Sim.addT] at k hq
    split at hq
    · cases hq
      have := old b (.inl ⟨r, x, y, k⟩)
      omega
    · exact x2.rt r b x y t q k hq
  · rcases owns b k with k | k
    · have := old b k; omega
    · omega
  · simp only [Sim.addT] at hy k
    split at hy
    · cases hy
      subst hb
      rw [hzb] at k
      rw [← hS1] at k
      simp only [Sim.addF, if_true] at k
      have := (List.getElem?_eq_some_iff.1 k).1
      rw [← hz]; exact this
    · exact x2.Ft b o v t y k hy hb
  · simp only [Heap.new] at k
    simp only [Sim.addT]
    rw [if_neg (by omega)]
    exact x2.nt t (by omega)
  · simp only [Heap.new, Heap.get] at *
    rw [Tr.get_put, if_neg (by omega)]
    exact x2.no r (by omega)

def Sim.growT (S : Sim) (t : Nat) (z : Tok) (cs : List Value) (n : Nat) : Sim :=
  ⟨S.ρ, fun x => if x = t then some ⟨z.e + n, z.b, z.fin + cs.length, z.lim, z.sz⟩ else S.tk x, fun b o => if b = z.b ∧ z.fin ≤ o then cs[o - z.fin]? else S.F b o⟩

/-- a token's array grows in its place -/
theorem upd_tok (hw : WRel G S h w) {t : Nat} {z : Tok} {cs : List Value} {n : Nat} (hz : S.tk t = some z) (ht : h.get t = some (.tip z.e z.sz)) (hl : z.fin + cs.length ≤ z.lim)
    {c c' : Array Value} {el : TypeId} {fr : Nat × Nat} (hb : w.heap[z.b]? = some (.cells c el fr)) (hb' : w'.heap[z.b]? = some (.cells c' el fr))
    (hs : w'.heap.size = w.heap.size) (hne : ∀ k, k ≠ z.b → w'.heap[k]? = w.heap[k]?) (eo : w'.os = w.os) (et : w'.tape = w.tape) (eu : w'.output = w.output)
    (hcs : c'.size = c.size) (hlow : ∀ i, i < z.fin → c'[i]? = c[i]?) (hnew : ∀ (i : Nat) v, cs[i]? = some v → c'[z.fin + i]? = some v) (hlim : z.lim ≤ c.size) (hth : Thaw fr z.fin z.lim) (hn : 0 < n)
    (S' : Sim) (hS' : S' = S.growT t z cs n) :
    Ext S w S' w' ∧ WRel G S' (h.set t (.tip (z.e + n) z.sz)) w' := by
  have hF0 : ∀ o, z.fin ≤ o → S.F z.b o = none := fun o ho => by
    cases k : S.F z.b o with
    | none => rfl
    | some v => have := hw.Ft z.b o v t z k hz rfl; omega
  have le : SimLe S S' := by
    subst hS'
    unfold Sim.growT
    refine ⟨fun r => .inl rfl, fun q y hy => ?_, fun b o v k => ?_⟩
    · by_cases hq : q = t
      · subst hq
        rw [hz] at hy; cases hy
        exact ⟨_, if_pos rfl, by simp, fun e => by simp at e; omega⟩
      · exact ⟨y, by simp only; rw [if_neg hq]; exact hy, Nat.le_refl _, fun _ => rfl⟩
    · simp only
      split
      · rename_i hb; obtain ⟨rfl, ho⟩ := hb; rw [hF0 o ho] at k; cases k
      · exact k
  have own : Owns S z.b := .inr ⟨t, z, hz, rfl⟩
  have owns : ∀ b, Owns S' b → Owns S b := fun b k => by
    subst hS'
    rcases k with ⟨r, x, y, k⟩ | ⟨q, y, k, hb⟩
    · exact .inl ⟨r, x, y, k⟩
    · simp only [Sim.growT] at k
      split at k
      · cases k; exact hb ▸ own
      · exact .inr ⟨q, y, k, hb⟩
  refine ⟨⟨le, by omega, fun k _ hk => hne k (fun e => hk (e ▸ own)), fun b k => .inl (owns b k), fun b o k => ?_, eo, et, eu⟩, ?_⟩
  · subst hS'
    simp only [Sim.growT] at k
    split at k
    · rename_i hb; exact .inr (.inl (hb.1 ▸ own))
    · exact .inl k
  · have hρ : S'.ρ = S.ρ := by subst hS'; rfl
    refine ⟨fun q y hy => ?_, by rw [hρ]; exact hw.inj, fun q q' y y' k k' hyy => ?_, fun r b x y q u k hu => ?_, fun b k => by rw [hs]; exact hw.ob b (owns b k), fun b o v k => ?_, fun b o v r x y k => ?_, fun b o v q u k hu hb => ?_, fun r k => by rw [hρ]; exact hw.nr r k, fun q k => ?_, fun r k => ?_, fun g l k => (hw.gl g l k).mono le _ _ _⟩
    · simp only [Heap.get, Heap.set] at hy
      rw [Tr.get_put] at hy
      split at hy
      · rename_i k
        subst k
        cases hy
        subst hS'
        refine ⟨_, if_pos rfl, rfl, rfl, c', el, fr, hb', hl, by simp only; omega, fun o h1 h2 => ?_⟩
        simp only at h1 h2
        exact hth o (by omega) h2
      · rename_i hqt
        refine (hw.obj q y hy).keep le (fun b x y k => ⟨by rw [hρ]; exact k, hne b (fun e => hw.rt q b x y t z k hz e.symm)⟩) (fun u k => ⟨by subst hS'; simp only [Sim.growT]; rw [if_neg (fun e => hqt e.symm)]; exact k, hne u.b (fun e => hqt (hw.tinj t q z u hz k e.symm))⟩)
    · have g : ∀ q y, S'.tk q = some y → ∃ u, S.tk q = some u ∧ u.b = y.b := fun q y k => by
        subst hS'
        simp only [Sim.growT] at k
        by_cases hq : q = t
        · rw [if_pos hq] at k; have e9 := Option.some.inj k; exact ⟨z, by rw [hq]; exact hz, by rw [← e9]⟩
        · rw [if_neg hq] at k; exact ⟨y, k, rfl⟩
      obtain ⟨u, hu, e1⟩ := g q y k
      obtain ⟨u', hu', e2⟩ := g q' y' k'
      exact hw.tinj q q' u u' hu hu' (by omega)
    · rw [hρ] at k
      subst hS'
      simp only [Sim.growT] at hu
      split at hu
      · cases hu; exact hw.rt r b x y t z k hz
      · exact hw.rt r b x y q u k hu
    · subst hS'
      simp only [Sim.growT] at k
      split at k
      · rename_i hb2
        obtain ⟨rfl, ho⟩ := hb2
        unfold World.cell?
        simp only [hb']
        have := hnew _ v k
        rw [show z.fin + (o - z.fin) = o by omega] at this
        simpa using this
      · rename_i hb2
        have hc := hw.Fc b o v k
        unfold World.cell? at *
        simp only at *
        by_cases hbz : b = z.b
        · subst hbz
          have ho := hw.Ft z.b o v t z k hz rfl
          rw [hb] at hc
          rw [hb']
          simp only [Option.isSome_none, Bool.false_eq_true, if_false] at hc ⊢
          rw [hlow o ho]; exact hc
        · rw [hne b hbz]; exact hc
    · rw [hρ]
      subst hS'
      simp only [Sim.growT] at k
      split at k
      · rename_i hb2
        obtain ⟨rfl, ho⟩ := hb2
        exact fun hr => hw.rt r z.b x y t z hr hz rfl
      · exact hw.Fr b o v r x y k
    · subst hS'
      simp only [Sim.growT] at k hu
      split at hu
      · cases hu
        simp only at hb ⊢
        subst hb
        split at k
        · have := (List.getElem?_eq_some_iff.1 k).1
          omega
        · have := hw.Ft z.b o v t z k hz rfl
          omega
      · rename_i hqt
        split at k
        · rename_i hb2
          exact absurd (hw.tinj q t u z hu hz (by rw [hb, hb2.1])) hqt
        · exact hw.Ft b o v q u k hu hb
    · subst hS'
      simp only [Sim.growT]
      have hq : t ≠ q := fun e => by have := tk_next hw hz; simp only [Heap.set] at k; omega
      rw [if_neg (fun e => hq e.symm)]
      exact hw.nt q k
    · simp only [Heap.get, Heap.set] at *
      rw [Tr.get_put, if_neg (by have := tk_next hw hz; omega)]
      exact hw.no r k

end
end Go.AM

set_option linter.unusedVariables false
set_option linter.unusedSimpArgs false
namespace Go.AM
open Go
section
variable {P : Program} {G : GTab} {A : Ann} {S S' : Sim} {e : Env} {h h' : Heap} {a : Act} {w w' : World}

/-- what an operation does that may act on memory -/
def Out (P : Program) (G : GTab) (S : Sim) (w : World) (h' : Heap) (v : AV) (s : Sem Next) : Prop :=
  ∃ c w' S', (s.run P w = .ok (.value c) w' ∨ (s.run P w = .ok .skip w' ∧ c = undef)) ∧ Ext S w S' w' ∧ WRel G S' h' w' ∧ VRel S' v c

theorem Pure.out {v : AV} {s : Sem Next} (hp : Pure P S w v s) (hw : WRel G S h w) : Out P G S w h v s := by
  obtain ⟨c, h1, h2⟩ := hp
  exact ⟨c, w, S, .inl h1, .refl S w, hw, h2⟩

/-- a row of cells, known -/
def Row (w : World) (b o : Nat) (l : List Value) : Prop := ∀ (i : Nat) v, l[i]? = some v → w.cell? ⟨b, o + i, none⟩ = some v

theorem add_none (b o i : Nat) : (Addr.mk b o none).add i = ⟨b, o + i, none⟩ := by
  unfold Addr.add
  split
  · rename_i h; subst h; rfl
  · rfl

theorem run_sz {t : TypeId} (hi : (P.info? t).isSome = true) : (sizeOf t).run P w = .ok (P.cellsOf t) w := by
  obtain ⟨i, hi⟩ := Option.isSome_iff_exists.1 hi
  simp [sizeOf, typeInfo, hi, Program.cellsOf]
theorem run_ag {t : TypeId} (hu : (P.underlying t).isSome = true) : (isAgg t).run P w = .ok (aggT P t) w := by
  obtain ⟨d, hd⟩ := Option.isSome_iff_exists.1 hu
  simp only [isAgg, Sem.run_bind, run_underlying hd, Result.andThen_ok, aggT, hd]
  cases d <;> rfl

theorem run_loadVar {t : TypeId} {b o off : Nat} {l : List Value} {c : Value} (hr : Row w b o l) (hc : cell1 P t = true) (hu : (P.underlying t).isSome = true)
    (hn : (ldN P t = none → l[off]? = some c) ∧ (∀ n, ldN P t = some n → ((l.drop off).take n).length = n ∧ c = .agg ((l.drop off).take n).toArray)) : (loadVar t ⟨b, o + off, none⟩).run P w = .ok c w := by
  simp only [loadVar, Sem.run_bind, run_ag hu, Result.andThen_ok]
  unfold ldN at hn
  cases hb : aggT P t with
  | true =>
    simp only [hb, if_true] at hn
    obtain ⟨h1, h2⟩ := hn.2 _ rfl
    simp only [if_true, Sem.run_bind, run_sz (cell1_known hc), Result.andThen_ok]
    have h3 := run_loadCells_list (P := P) w ⟨b, o + off, none⟩ ((l.drop off).take (P.cellsOf t)) (fun j v hj => by
      rw [add_none]
      rw [List.getElem?_take] at hj
      split at hj
      · rw [List.getElem?_drop] at hj
        have := hr (off + j) v hj
        rw [← this]; congr 2; omega
      · cases hj)
    rw [h1] at h3
    simp only [h3, Result.andThen_ok, Sem.run_pure, h2]
  | false =>
    simp only [hb, Bool.false_eq_true, if_false] at hn
    have := hr off c (hn.1 trivial)
    simp only [Bool.false_eq_true, if_false, run_load, this]

/-- the cells of an object, in the world -/
theorem obj_row {r : Nat} {cs : List AV} (hw : WRel G S h w) (hg : h.get r = some (.cells cs)) : ∃ b base lim l, S.ρ r = .live b base lim ∧ VRelL S cs l ∧ Row w b base l := by
  obtain ⟨b, base, lim, hr, c, el, fr, hb, k1, k2, k3, k4⟩ := hw.obj r _ hg
  refine ⟨b, base, lim, (c.toList.drop base).take cs.length, hr, .of (by simp; omega) fun i v u h1 h2 => ?_, fun i v hv => ?_⟩
  · obtain ⟨cv, e1, e2⟩ := k4 i v h1
    have hi := (List.getElem?_eq_some_iff.1 h1).1
    rw [List.getElem?_take, if_pos hi, List.getElem?_drop] at h2
    have : c.toList[base + i]? = some cv := by simpa using e1
    rw [this] at h2; cases h2; exact e2
  · rw [List.getElem?_take] at hv
    split at hv
    · rw [List.getElem?_drop] at hv
      unfold World.cell?
      simp only [hb, Option.isSome_none, Bool.false_eq_true, if_false]
      simpa using hv
    · cases hv
theorem mem_row {cs : List AV} {b o : Nat} (hw : WRel G S h w) (hm : VMem S cs b o) : ∃ l, VRelL S cs l ∧ Row w b o l := by
  induction cs generalizing o with
  | nil => exact ⟨[], VRelL.nil, fun i v hv => by simp at hv⟩
  | cons v cs ih =>
    simp only [VMem] at hm
    obtain ⟨⟨c, h1, h2⟩, h3⟩ := hm
    obtain ⟨l, h4, h5⟩ := ih h3
    refine ⟨c :: l, h4.cons h2, fun i u hu => ?_⟩
    cases i with
    | zero => simp at hu; subst hu; exact hw.Fc _ _ _ h1
    | succ i => simp at hu; have := h5 i u hu; rw [← this]; congr 2; omega

theorem snd_load {o : Oper} {t : TypeId} {x : Operand} {v : AV} {b ob off : Nat} {cs : List AV} {l : List Value} (hop : o.op = .load t x) (hx : a.eval x = .pointer (some ⟨b, ob + off, none⟩))
    (hc : cell1 P t = true) (hu : (P.underlying t).isSome = true) (hl : VRelL S cs l) (hr : Row w b ob l) (hv : cut cs off (ldN P t) = some v) : Pure P S w v (execOp a.eval o) := by
  obtain ⟨c, h1, h2⟩ := cut_rel hl hv
  have e1 : execOp a.eval o = (do pure (Next.value (← Instr.loadAt t (a.eval x))) : Sem Next) := by simp only [execOp, hop]
  rw [Pure, e1, hx]
  exact ⟨c, run_v (by simp only [Instr.loadAt, Instr.sureAddr, Sem.run_bind, Sem.run_pure, Result.andThen_ok]; exact run_loadVar hr hc hu h2), h1⟩

/-! ### Storing -/

theorem oneCell_of {v : AV} {c : Value} (hr : VRel S v c) (hs : v.scal = true) : c.oneCell' = true := by
  cases v <;> simp only [AV.scal, Bool.false_eq_true] at hs <;> simp only [VRel] at hr
  all_goals first
    | (subst hr; rfl)
    | (obtain ⟨_, _, rfl, _⟩ := hr; rfl)
    | (obtain ⟨_, rfl, _⟩ := hr; rfl)
    | (split at hr <;> first | (subst hr; rfl) | (obtain ⟨_, _, rfl⟩ := hr; rfl) | (obtain ⟨_, _, rfl, _⟩ := hr; rfl) | (obtain ⟨_, rfl⟩ := hr; rfl) | exact hr.elim)

/-- cells of one block are written, nothing else turns -/
structure Wrote (w w' : World) (b : Nat) (c c' : Array Value) (el : TypeId) (fr : Nat × Nat) : Prop where
  here : w.heap[b]? = some (.cells c el fr)
  now : w'.heap[b]? = some (.cells c' el fr)
  size : w'.heap.size = w.heap.size
  csize : c'.size = c.size
  else_ : ∀ k, k ≠ b → w'.heap[k]? = w.heap[k]?
  os : w'.os = w.os
  tape : w'.tape = w.tape
  output : w'.output = w.output

theorem run_storeCells_own {b : Nat} {el : TypeId} {fr : Nat × Nat} : ∀ (vs : List Value) (i o : Nat) (c : Array Value) (w : World), w.heap[b]? = some (.cells c el fr) → o + i + vs.length ≤ c.size → (∀ v ∈ vs, v.oneCell' = true) →
    (∀ j, o + i ≤ j → j < o + i + vs.length → ¬(fr.1 ≤ j ∧ j < fr.2)) →
    ∃ w' c', (storeCells ⟨b, o, none⟩ vs i).run P w = .ok () w' ∧ Wrote w w' b c c' el fr ∧ (∀ j v, vs[j]? = some v → c'[o + i + j]? = some v) ∧ ∀ j, (j < o + i ∨ o + i + vs.length ≤ j) → c'[j]? = c[j]?
  | [], i, o, c, w, hb, _, _, _ => ⟨w, c, by simp [storeCells], ⟨hb, hb, rfl, rfl, fun _ _ => rfl, rfl, rfl, rfl⟩, fun j v hv => by simp at hv, fun _ _ => rfl⟩
  | v :: vs, i, o, c, w, hb, hl, h1, hf => by
    simp only [List.length_cons] at hl
    have hcell : w.cell? ⟨b, o + i, none⟩ = some c[o + i] := by
      unfold World.cell?
      simp only [hb, Option.isSome_none, Bool.false_eq_true, if_false]
      rw [Array.getElem?_eq_getElem (by omega)]
    have hfz : w.frozen? ⟨b, o + i, none⟩ = false := by
      unfold World.frozen?
      simp only [hb]
      have := hf (o + i) (by omega) (by simp)
      simpa using this
    have hst : (store ⟨b, o + i, none⟩ v).run P w = .ok () (w.setCell ⟨b, o + i, none⟩ v) := by
      rw [run_store P w _ v _ (h1 v (by simp))]
      simp only [hcell, hfz, Bool.false_eq_true, if_false]
    have hb2 : (w.setCell ⟨b, o + i, none⟩ v).heap[b]? = some (.cells (c.setIfInBounds (o + i) v) el fr) := by
      simp only [World.setCell, Array.getElem?_modify, if_pos, hb]
      rfl
    obtain ⟨w', c', k1, k2, k3, k4⟩ := run_storeCells_own vs (i + 1) o (c.setIfInBounds (o + i) v) (w.setCell ⟨b, o + i, none⟩ v) hb2 (by simp; omega) (fun u hu => h1 u (by simp [hu])) (fun j h2 h3 => hf j (by omega) (by simp only [List.length_cons]; omega))
    refine ⟨w', c', ?_, ⟨hb, k2.now, ?_, ?_, fun k hk => ?_, k2.os, k2.tape, k2.output⟩, fun j u hu => ?_, fun j hj => ?_⟩
    · simp only [storeCells, Sem.run_bind, add_none, hst, Result.andThen_ok, k1]
    · rw [k2.size]; simp [World.setCell]
    · rw [k2.csize]; simp
    · rw [k2.else_ k hk]
      simp only [World.setCell, Array.getElem?_modify]
      rw [if_neg (fun e => hk e.symm)]
    · cases j with
      | zero =>
        simp at hu; subst hu
        rw [Nat.add_zero, k4 (o + i) (.inl (by omega))]
        simp [Array.getElem?_setIfInBounds]; omega
      | succ j =>
        simp at hu
        have := k3 j u hu
        rw [← this]; congr 1; omega
    · simp only [List.length_cons] at hj
      rw [k4 j (by omega), Array.getElem?_setIfInBounds_ne (by omega)]

theorem splice_get {cs new cs' : List AV} {off : Nat} (hs : splice cs off new = some cs') : off + new.length ≤ cs.length ∧ cs'.length = cs.length ∧ (∀ i, (i < off ∨ off + new.length ≤ i) → cs'[i]? = cs[i]?) ∧ ∀ i, i < new.length → cs'[off + i]? = new[i]? := by
  unfold splice at hs
  split at hs
  · rename_i hl
    cases hs
    refine ⟨hl, by simp; omega, fun i hi => ?_, fun i hi => ?_⟩
    · rcases hi with hi | hi
      · rw [List.append_assoc, List.getElem?_append_left (by simp; omega), List.getElem?_take, if_pos hi]
      · rw [List.getElem?_append_right (by simp; omega), List.getElem?_drop]
        congr 1
        simp
        omega
    · rw [List.append_assoc, List.getElem?_append_right (by simp; omega)]
      rw [List.getElem?_append_left (by simp; omega)]
      congr 1
      simp
      omega
  · cases hs

theorem store_obj {r b base lim off : Nat} {cs cs' : List AV} {new : List AV} {l : List Value} (hw : WRel G S h w) (hr : S.ρ r = .live b base lim) (hg : h.get r = some (.cells cs)) (hs : splice cs off new = some cs')
    (hl : VRelL S new l) (h1 : ∀ v ∈ new, v.scal = true) : ∃ w', (storeCells ⟨b, base + off, none⟩ l).run P w = .ok () w' ∧ Ext S w S w' ∧ WRel G S (h.set r (.cells cs')) w' := by
  obtain ⟨b', base', lim', hr', c, el, fr, hb, k1, k2, k3, k4⟩ := hw.obj r _ hg
  rw [hr] at hr'; cases hr'
  obtain ⟨s1, s2, s3, s4⟩ := splice_get hs
  have hlen := hl.len
  have hone : ∀ v ∈ l, v.oneCell' = true := fun v hv => by
    obtain ⟨i, hi⟩ := List.mem_iff_getElem?.1 hv
    have hilt : i < new.length := by have := (List.getElem?_eq_some_iff.1 hi).1; omega
    obtain ⟨c', e1, e2⟩ := hl.get i new[i] (by simp [hilt])
    rw [e1] at hi; cases hi
    exact oneCell_of e2 (h1 _ (List.getElem_mem hilt))
  obtain ⟨w', c', r1, r2, r3, r4⟩ := run_storeCells_own (P := P) l 0 (base + off) c w hb (by omega) hone (fun j j1 j2 => k3 j (by omega) (by omega))
  have hobj : ObjRel S w' r (.cells cs') := by
    refine ⟨b, base, lim, hr, c', el, fr, r2.now, by omega, by rw [r2.csize]; exact k2, k3, fun i v hv => ?_⟩
    by_cases hi : i < off ∨ off + new.length ≤ i
    · rw [s3 i hi] at hv
      obtain ⟨cv, e1, e2⟩ := k4 i v hv
      exact ⟨cv, by rw [r4 (base + i) (by omega)]; exact e1, e2⟩
    · have hi2 : i - off < new.length := by omega
      have := s4 (i - off) hi2
      rw [show off + (i - off) = i by omega, hv] at this
      obtain ⟨cv, e1, e2⟩ := hl.get (i - off) v this.symm
      have := r3 (i - off) cv e1
      exact ⟨cv, by rw [← this]; congr 1; omega, e2⟩
  obtain ⟨x1, x2⟩ := upd_obj hw hr hg r2.size r2.else_ r2.os r2.tape r2.output hobj
  exact ⟨w', r1, x1, x2⟩

theorem snd_store {o : Oper} {t : TypeId} {x y : Operand} {oy : Opd} {r off n : Nat} {v : AV} {cs cs' : List AV} {b base lim : Nat} (hop : o.op = .store t x y) (hx : a.eval x = .pointer (some ⟨b, base + off, none⟩)) (hr : S.ρ r = .live b base lim)
    (hy : opd G A y = some oy) (hi : (P.info? t).isSome = true) (he : ERel A S e a w) (hw : WRel G S h w) (hv : val e oy = some v) (hn : v.cells.length = P.cellsOf t) (h1 : v.cells.all AV.scal = true)
    (hg : h.get r = some (.cells cs)) (hs : splice cs off v.cells = some cs') : Out P G S w (h.set r (.cells cs')) (.tup []) (execOp a.eval o) := by
  have h2 := opd_rel hy he hw hv
  obtain ⟨l, e1, e2⟩ := h2.cells
  obtain ⟨w', r1, x1, x2⟩ := store_obj (P := P) hw hr hg hs e2 (by simpa using h1)
  have e3 : execOp a.eval o = (do Instr.storeAt t (a.eval x) (a.eval y); pure Next.skip : Sem Next) := by simp only [execOp, hop]
  refine ⟨undef, w', S, .inr ⟨?_, rfl⟩, x1, x2, by simp only [VRel]; exact ⟨[], rfl, VRelL.nil⟩⟩
  rw [e3, hx]
  have hsz : (a.eval y).cells.size = P.cellsOf t := by rw [e1, List.size_toArray, e2.len, hn]
  simp only [Instr.storeAt, Instr.sureAddr, Sem.run_bind, Sem.run_pure, Result.andThen_ok, storeVar, run_sz hi, hsz, ne_eq, not_true, if_false, Sem.run_ite]
  rw [e1]
  simp only [r1, Result.andThen_ok]

end
end Go.AM

set_option linter.unusedVariables false
set_option linter.unusedSimpArgs false
namespace Go.AM
open Go
section
variable {P : Program} {G : GTab} {A : Ann} {S S' : Sim} {e : Env} {h h' : Heap} {a : Act} {w w' : World}

/-! ### Addresses that are values -/

theorem adr_ptr {r off : Nat} {c : Value} (hv : VRel S (.ptr r off) c) : ∃ b o, c = .pointer (some ⟨b, o, none⟩) ∧ ∀ k, VRel S (.ptr r (off + k)) (.pointer (some ⟨b, o + k, none⟩)) := by
  simp only [VRel] at hv
  split at hv
  · rename_i b base lim hr
    subst hv
    exact ⟨b, base + off, rfl, fun k => by simp only [VRel, hr, Nat.add_assoc]⟩
  · rename_i hr
    obtain ⟨b, o, rfl⟩ := hv
    exact ⟨b, o, rfl, fun k => by simp only [VRel, hr]; exact ⟨_, _, rfl⟩⟩
  · exact hv.elim
theorem adr_ep {cs : List AV} {off : Nat} {c : Value} (hv : VRel S (.ep cs off) c) : ∃ b o, c = .pointer (some ⟨b, o, none⟩) ∧ ∀ k, VRel S (.ep cs (off + k)) (.pointer (some ⟨b, o + k, none⟩)) := by
  simp only [VRel] at hv
  obtain ⟨b, o, rfl, hm⟩ := hv
  exact ⟨b, o + off, rfl, fun k => by simp only [VRel]; exact ⟨b, o, by rw [Nat.add_assoc], hm⟩⟩

theorem snd_nilchk {o : Oper} {x : Operand} {ox : Opd} {v : AV} (hop : o.op = .nilCheck x) (hx : opd G A x = some ox) (he : ERel A S e a w) (hw : WRel G S h w) (hv : val e ox = some v)
    (hn : (∃ r off, v = .ptr r off) ∨ (∃ cs off, v = .ep cs off) ∨ (∃ f x y, v = .fn (.func f) x y)) : Pure P S w v (execOp a.eval o) := by
  have h1 := opd_rel hx he hw hv
  refine ⟨a.eval x, ?_, h1⟩
  rcases hn with ⟨r, off, rfl⟩ | ⟨cs, off, rfl⟩ | ⟨f, p, q, rfl⟩
  · obtain ⟨b, o', h2, _⟩ := adr_ptr h1
    simp only [execOp, hop, h2, Sem.run_pure]
  · obtain ⟨b, o', h2, _⟩ := adr_ep h1
    simp only [execOp, hop, h2, Sem.run_pure]
  · simp only [VRel] at h1
    obtain ⟨cx, cy, h2, _⟩ := h1
    simp only [execOp, hop, h2, Sem.run_pure]

theorem run_fieldAt {t : TypeId} {f : Nat} {fs : Array Field} {fl : Field} {b o : Nat} (ht : P.underlying t = some (.struct fs)) (hf : fs[f]? = some fl) (hc : P.cellsOf fl.type ≠ 0) :
    (Instr.fieldAt t (.pointer (some ⟨b, o, none⟩)) f).run P w = .ok (.pointer (some ⟨b, o + fl.offset, none⟩)) w := by
  have hi : (P.info? fl.type).isSome = true := by
    cases hi : P.info? fl.type with
    | some i => rfl
    | none => simp [Program.cellsOf, hi] at hc
  simp only [Instr.fieldAt, Sem.run_bind, run_underlying ht, Result.andThen_ok, hf, Instr.sureAddr, Sem.run_pure, fieldPlace, run_sz hi, hc, if_false, add_none]

theorem snd_faddr {o : Oper} {t : TypeId} {x : Operand} {f : Nat} {ox : Opd} {v v' : AV} {fs : Array Field} {fl : Field} (hop : o.op = .fieldAddr t x f) (hx : opd G A x = some ox) (he : ERel A S e a w) (hw : WRel G S h w) (hv : val e ox = some v)
    (ht : P.underlying t = some (.struct fs)) (hf : fs[f]? = some fl) (hc : P.cellsOf fl.type ≠ 0) (hn : (∃ r off, v = .ptr r off ∧ v' = .ptr r (off + fl.offset)) ∨ (∃ cs off, v = .ep cs off ∧ v' = .ep cs (off + fl.offset))) :
    Pure P S w v' (execOp a.eval o) := by
  have h1 := opd_rel hx he hw hv
  have e1 : execOp a.eval o = (do pure (Next.value (← Instr.fieldAt t (a.eval x) f)) : Sem Next) := by simp only [execOp, hop]
  rw [Pure, e1]
  rcases hn with ⟨r, off, rfl, rfl⟩ | ⟨cs, off, rfl, rfl⟩
  · obtain ⟨b, o', h2, h3⟩ := adr_ptr h1
    rw [h2]
    exact ⟨_, run_v (run_fieldAt ht hf hc), h3 _⟩
  · obtain ⟨b, o', h2, h3⟩ := adr_ep h1
    rw [h2]
    exact ⟨_, run_v (run_fieldAt ht hf hc), h3 _⟩

theorem run_indexAt_arr {t el : TypeId} {n : Nat} {b o j : Nat} {k : IntKind} (ht : P.underlying t = some (.array n el)) (hi : (P.info? el).isSome = true) (hj : j < n) :
    (Instr.indexAt t (.pointer (some ⟨b, o, none⟩)) (.int k j)).run P w = .ok (.pointer (some ⟨b, o + j * P.cellsOf el, none⟩)) w := by
  simp only [Instr.indexAt, Sem.run_bind, run_asIntOf_int, Result.andThen_ok, run_underlying ht, Instr.sureAddr, Sem.run_pure]
  rw [if_pos (by omega)]
  simp only [Sem.run_bind, run_sz hi, Result.andThen_ok, Sem.run_pure, add_none, Int.toNat_natCast]

theorem snd_iaddrA {o : Oper} {t el : TypeId} {x ix : Operand} {ox oi : Opd} {v v' : AV} {n j : Nat} (hop : o.op = .indexAddr t x ix) (hx : opd G A x = some ox) (hi : opd G A ix = some oi) (he : ERel A S e a w) (hw : WRel G S h w)
    (hv : val e ox = some v) (hj : nat? e oi = some j) (ht : P.underlying t = some (.array n el)) (hel : (P.info? el).isSome = true) (hjn : j < n)
    (hn : (∃ r off, v = .ptr r off ∧ v' = .ptr r (off + j * P.cellsOf el)) ∨ (∃ cs off, v = .ep cs off ∧ v' = .ep cs (off + j * P.cellsOf el))) : Pure P S w v' (execOp a.eval o) := by
  have h1 := opd_rel hx he hw hv
  obtain ⟨k, h4⟩ := nat_rel hi he hw hj
  have e1 : execOp a.eval o = (do pure (Next.value (← Instr.indexAt t (a.eval x) (a.eval ix))) : Sem Next) := by simp only [execOp, hop]
  rw [Pure, e1, h4]
  rcases hn with ⟨r, off, rfl, rfl⟩ | ⟨cs, off, rfl, rfl⟩
  · obtain ⟨b, o', h2, h3⟩ := adr_ptr h1
    rw [h2]
    exact ⟨_, run_v (run_indexAt_arr ht hel hjn), h3 _⟩
  · obtain ⟨b, o', h2, h3⟩ := adr_ep h1
    rw [h2]
    exact ⟨_, run_v (run_indexAt_arr ht hel hjn), h3 _⟩

theorem run_indexAt_slice {t el : TypeId} {n cap : Nat} {b o j : Nat} {k : IntKind} (ht : P.underlying t = some (.slice el)) (hi : (P.info? el).isSome = true) (hj : j < n) :
    (Instr.indexAt t (.slice (some ⟨b, o, none⟩) n cap) (.int k j)).run P w = .ok (.pointer (some ⟨b, o + j * P.cellsOf el, none⟩)) w := by
  simp only [Instr.indexAt, Sem.run_bind, run_asIntOf_int, Result.andThen_ok, run_underlying ht, Sem.run_pure]
  rw [if_pos (by omega)]
  simp only [Sem.run_bind, run_sz hi, Result.andThen_ok, Sem.run_pure, add_none, Int.toNat_natCast]

theorem snd_iaddr {o : Oper} {t el : TypeId} {x ix : Operand} {ox oi : Opd} {v v' : AV} {j : Nat} (hop : o.op = .indexAddr t x ix) (hx : opd G A x = some ox) (hi : opd G A ix = some oi) (he : ERel A S e a w) (hw : WRel G S h w)
    (hv : val e ox = some v) (hj : nat? e oi = some j) (ht : P.underlying t = some (.slice el)) (hel : (P.info? el).isSome = true)
    (hn : (∃ c xs u, v = .vs c xs ∧ xs[j]? = some u ∧ u.cells.length = P.cellsOf el ∧ v' = .ep u.cells 0) ∨ (∃ r off n, v = .hs r off n (P.cellsOf el) ∧ j < n ∧ v' = .ptr r (off + j * P.cellsOf el))) : Pure P S w v' (execOp a.eval o) := by
  have h1 := opd_rel hx he hw hv
  obtain ⟨k, h4⟩ := nat_rel hi he hw hj
  have e1 : execOp a.eval o = (do pure (Next.value (← Instr.indexAt t (a.eval x) (a.eval ix))) : Sem Next) := by simp only [execOp, hop]
  rw [Pure, e1, h4]
  rcases hn with ⟨c, xs, u, rfl, hu, hsz, rfl⟩ | ⟨r, off, n, rfl, hjn, rfl⟩
  · simp only [VRel] at h1
    obtain ⟨base, cap, h2, h3, h5, h6⟩ := h1
    rcases h6 with rfl | ⟨b, o', sz, rfl, h7, h8⟩
    · simp at hu
    · obtain ⟨g1, g2⟩ := h8.get j u hu
      have hsz' : sz = P.cellsOf el := by rw [← g1, hsz]
      subst hsz'
      rw [h2]
      refine ⟨_, run_v (run_indexAt_slice ht hel (List.getElem?_eq_some_iff.1 hu).1), ?_⟩
      simp only [VRel]
      exact ⟨b, o' + j * P.cellsOf el, rfl, g2⟩
  · simp only [VRel] at h1
    split at h1
    · rename_i b base lim hr
      obtain ⟨ad, cap, h2, h3, h5⟩ := h1
      obtain ⟨rfl, h6⟩ := h5 (by omega)
      rw [h2]
      exact ⟨_, run_v (run_indexAt_slice ht hel hjn), by simp only [VRel, hr, Nat.add_assoc]⟩
    · rename_i hr
      obtain ⟨⟨b, o', sp⟩, cap, h2, h3, h5⟩ := h1
      have := h5 (by omega)
      subst this
      rw [h2]
      exact ⟨_, run_v (run_indexAt_slice ht hel hjn), by simp only [VRel, hr]; exact ⟨_, _, rfl⟩⟩
    · exact h1.elim

end
end Go.AM
