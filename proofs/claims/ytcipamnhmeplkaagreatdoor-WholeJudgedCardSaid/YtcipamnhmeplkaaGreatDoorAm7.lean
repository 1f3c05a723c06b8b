/- Own work. This text shows: the runner is sound; stepping with symbols; closed calls; empty slices. -/
import Derived.Test.YtcipamnhmeplkaaGreatDoorAm6
import Derived.Test.YtcipamnhmeplkaaGreatDoorAm5
set_option linter.unusedVariables false
set_option linter.unusedSimpArgs false
namespace Go.AM

/-! What the runner computes, every meaning of calls that a table gives must say. -/

def FSound (C : CallT) (F : CallF) : Prop := ∀ f args h v h', F f args h = some (v, h') → ∀ Q : AV → Heap → Prop, Q v h' → C f args h Q

section
variable {C : CallT} {F : CallF}

theorem xItems_sound (hF : FSound C F) : ∀ (l : List Item) (e : Env) (h : Heap) (e' : Env) (h' : Heap) (Q : Env → Heap → Prop),
    xItems F l e h = some (e', h') → Q e' h' → wItems C l Q e h := by
  intro l
  induction l with
  | nil =>
    intro e h e' h' Q hx hq
    simp only [xItems, Option.some.injEq, Prod.mk.injEq] at hx
    obtain ⟨rfl, rfl⟩ := hx
    exact hq
  | cons it l ih =>
    intro e h e' h' Q hx hq
    cases it with
    | op d g o =>
      simp only [xItems] at hx
      simp only [wItems]
      split at hx
      · rename_i hw
        try simp only [hw]
        split at hx
        · rename_i v e1 h1 ho
          try simp only [ho]
          split at hx
          · rename_i hfr
            exact ⟨hfr, ih _ _ _ _ _ hx hq⟩
          · cases hx
        · cases hx
      · rename_i hw
        try simp only [hw]
        exact ih _ _ _ _ _ hx hq
      · cases hx
    | chk d g o =>
      simp only [xItems] at hx
      simp only [wItems]
      split at hx
      · rename_i hw
        try simp only [hw]
        split at hx
        · rename_i v e1 h1 ho
          try simp only [ho]
          split at hx
          · rename_i u hu
            split at hx
            · rename_i hb
              rw [AV.beq_eq _ _ hb] at hu
              exact ⟨hu, ih _ _ _ _ _ hx hq⟩
            · cases hx
          · cases hx
        · cases hx
      · rename_i hw
        try simp only [hw]
        exact ih _ _ _ _ _ hx hq
      · cases hx
    | call d g f args =>
      simp only [xItems] at hx
      simp only [wItems]
      split at hx
      · rename_i hw
        try simp only [hw]
        split at hx
        · rename_i f1 vs hc
          try simp only [hc]
          split at hx
          · rename_i v h1 hcall
            exact hF _ _ _ _ _ hcall _ (ih _ _ _ _ _ hx hq)
          · cases hx
        · cases hx
      · rename_i hw
        try simp only [hw]
        exact ih _ _ _ _ _ hx hq
      · cases hx
    | nextM d g it =>
      simp only [xItems] at hx
      simp only [wItems]
      split at hx
      · rename_i hw
        try simp only [hw]
        split at hx
        · rename_i r hv
          try simp only [hv]
          split at hx
          · rename_i hr
            try simp only [hr]
            exact ih _ _ _ _ _ hx hq
          · rename_i m es c left _ hr
            try simp only [hr]
            split at hx
            · rename_i es' c' hm
              split at hx
              · rename_i hc
                obtain ⟨rfl, he⟩ := hc
                have he := esEq_eq he
                subst he
                refine ⟨hm, ?_⟩
                split at hx
                · exact ih _ _ _ _ _ hx hq
                · rename_i k v n
                  simp only
                  intro a b k' v' n' hab
                  have : a = [] ∧ b = [] ∧ k' = k ∧ v' = v := by
                    cases a with
                    | nil => simp at hab; obtain ⟨⟨rfl, rfl, rfl⟩, rfl⟩ := hab; exact ⟨rfl, rfl, rfl, rfl⟩
                    | cons x a => simp at hab
                  obtain ⟨rfl, rfl, rfl, rfl⟩ := this
                  exact ih _ _ _ _ _ hx hq
                · cases hx
              · cases hx
            · cases hx
          · cases hx
        · cases hx
      · rename_i hw
        try simp only [hw]
        exact ih _ _ _ _ _ hx hq
      · cases hx

theorem X_sound (hF : FSound C F) (n : Nat) : ∀ (ir : IR) (e : Env) (h : Heap) (x : Exit) (e' : Env) (h' : Heap) (Q : Post),
    X F n ir e h = some (x, e', h') → Q x e' h' → W C ir Q e h := by
  intro ir
  induction ir with
  | skip =>
    intro e h x e' h' Q hx hq
    simp only [X, Option.some.injEq, Prod.mk.injEq] at hx
    obtain ⟨rfl, rfl, rfl⟩ := hx
    exact hq
  | items l k =>
    intro e h x e' h' Q hx hq
    simp only [X] at hx
    split at hx
    · rename_i e1 h1 hi
      simp only [Option.some.injEq, Prod.mk.injEq] at hx
      obtain ⟨rfl, rfl, rfl⟩ := hx
      simp only [W]
      exact xItems_sound hF _ _ _ _ _ _ hi hq
    · cases hx
  | seq a b iha ihb =>
    intro e h x e' h' Q hx hq
    simp only [X] at hx
    simp only [W]
    split at hx
    · rename_i e1 h1 ha
      exact iha _ _ _ _ _ _ ha (ihb _ _ _ _ _ _ hx hq)
    · rename_i r hr
      refine iha _ _ _ _ _ _ hx ?_
      cases x with
      | normal => exact absurd hx (hr _ _)
      | exit i => exact hq
      | ret => exact hq
  | cond c a b iha ihb =>
    intro e h x e' h' Q hx hq
    simp only [X] at hx
    simp only [W]
    split at hx
    · rename_i hc; try simp only [hc]
      exact iha _ _ _ _ _ _ hx hq
    · rename_i hc; try simp only [hc]
      exact ihb _ _ _ _ _ _ hx hq
    · cases hx
  | block id b ih =>
    intro e h x e' h' Q hx hq
    simp only [X] at hx
    simp only [W]
    split at hx
    · rename_i i e1 h1 hb
      refine ih _ _ _ _ _ _ hb ?_
      simp only
      split at hx
      · rename_i hi
        simp only [Option.some.injEq, Prod.mk.injEq] at hx
        obtain ⟨rfl, rfl, rfl⟩ := hx
        rw [if_pos hi]; exact hq
      · rename_i hi
        simp only [Option.some.injEq, Prod.mk.injEq] at hx
        obtain ⟨rfl, rfl, rfl⟩ := hx
        rw [if_neg hi]; exact hq
    · rename_i r hr
      refine ih _ _ _ _ _ _ hx ?_
      cases x with
      | normal => exact hq
      | exit i => exact absurd hx (hr _ _ _)
      | ret => exact hq
  | loop b ih =>
    intro e h x e' h' Q hx hq
    simp only [X] at hx
    simp only [W]
    intro Y hY
    have key : ∀ m e h, loopF (X F n b) m e h = some (x, e', h') → Y e h := by
      intro m
      induction m with
      | zero => intro e h hl; simp [loopF] at hl
      | succ m ihm =>
        intro e h hl
        simp only [loopF] at hl
        apply hY
        split at hl
        · rename_i e1 h1 hb
          exact ih _ _ _ _ _ _ hb (ihm _ _ hl)
        · rename_i r hr
          refine ih _ _ _ _ _ _ hl ?_
          cases x with
          | normal => exact absurd hl (hr _ _)
          | exit i => exact hq
          | ret => exact hq
    exact key _ _ _ hx
  | exit id =>
    intro e h x e' h' Q hx hq
    simp only [X, Option.some.injEq, Prod.mk.injEq] at hx
    obtain ⟨rfl, rfl, rfl⟩ := hx
    exact hq
  | ret =>
    intro e h x e' h' Q hx hq
    simp only [X, Option.some.injEq, Prod.mk.injEq] at hx
    obtain ⟨rfl, rfl, rfl⟩ := hx
    exact hq

theorem xBody_sound (hF : FSound C F) (n : Nat) {fn : IRFn} {args : List AV} {h h' : Heap} {v : AV} (hx : xBody F n fn args h = some (v, h'))
    (Q : AV → Heap → Prop) (hq : Q v h') : callBody C fn args h Q := by
  unfold xBody at hx
  split at hx
  · rename_i hl
    refine ⟨hl, ?_⟩
    split at hx
    · cases hx
    · rename_i x e h1 hne hX
      split at hx
      · rename_i l hr
        simp only [Option.some.injEq, Prod.mk.injEq] at hx
        obtain ⟨rfl, rfl⟩ := hx
        refine X_sound hF n _ _ _ _ _ _ _ hX ?_
        have : (match AM.results e h1 fn.results with | some l => Q (fn.out (resultV l)) h1 | none => False) := by rw [hr]; exact hq
        cases x with
        | exit i => exact (hne i rfl).elim
        | normal => exact this
        | ret => exact this
      · cases hx
    · cases hx
  · cases hx

theorem xCall_sound {fns : Nat → Option IRFn} (hs : Sys fns C) {prim : CallF} (hp : FSound C prim) (n : Nat) : ∀ d, FSound C (xCall fns prim n d) := by
  intro d
  induction d with
  | zero => intro f args h v h' hx; simp [xCall] at hx
  | succ d ih =>
    intro f args h v h' hx Q hq
    simp only [xCall] at hx
    split at hx
    · rename_i r hr
      cases hx
      exact hp _ _ _ _ _ hr Q hq
    · split at hx
      · rename_i fn hf
        exact hs.step _ _ _ _ _ hf (xBody_sound ih n hx Q hq)
      · cases hx

end
end Go.AM

set_option linter.unusedVariables false
set_option linter.unusedSimpArgs false
namespace Go.AM

/-! More slots filled, the same answer. -/

def ELe (e0 e : Env) : Prop := ∀ i v, e0.get i = some v → e.get i = some v

section
variable {e0 e : Env} {h h' : Heap} {v : AV} {p : IOp}

theorem get_or (hle : ELe e0 e) (i : Nat) : e0.get i = none ∨ e.get i = e0.get i := by
  cases hg : e0.get i with
  | none => exact .inl rfl
  | some v => exact .inr (hle i v hg)
theorem val_or (hle : ELe e0 e) (x : Opd) : val e0 x = none ∨ val e x = val e0 x := by
  cases x with
  | t i => exact get_or hle i
  | l i => simp only [val]; rcases get_or hle i with h | h <;> simp [h]
  | s i b => simp only [val]; rcases get_or hle i with h | h <;> rcases get_or hle b with k | k <;> simp [h, k] <;> (split <;> simp)
  | c v => exact .inr rfl
theorem vals_or (hle : ELe e0 e) : ∀ l : List Opd, vals e0 l = none ∨ vals e l = vals e0 l
  | [] => .inr rfl
  | x :: l => by
    simp only [vals]
    rcases val_or hle x with h | h
    · simp [h]
    · rw [h]
      rcases vals_or hle l with k | k
      · left; rw [k]; split <;> rfl
      · right; rw [k]
theorem nat_or (hle : ELe e0 e) (x : Opd) : nat? e0 x = none ∨ nat? e x = nat? e0 x := by
  simp only [nat?]
  rcases val_or hle x with h | h <;> simp [h]
theorem optNat_or (hle : ELe e0 e) (x : Option Opd) (d : Nat) : optNat e0 d x = none ∨ optNat e d x = optNat e0 d x := by
  cases x with
  | none => exact .inr rfl
  | some x => exact nat_or hle x
theorem fills_or (hle : ELe e0 e) : ∀ (ps : List (Nat × Nat × Opd)) (cs : List AV), fills cs e0 ps = none ∨ fills cs e ps = fills cs e0 ps
  | [], _ => .inr rfl
  | (a, b, x) :: ps, cs => by
    simp only [fills]
    rcases val_or hle x with h | h
    · simp [h]
    · rw [h]
      split
      · split
        · split
          · exact fills_or hle ps _
          · exact .inr rfl
        · exact .inr rfl
      · exact .inr rfl
theorem fillE_or (hle : ELe e0 e) {sz : Nat} : ∀ (ps : List (Nat × Opd)) (cs : List AV), fillE sz cs e0 ps = none ∨ fillE sz cs e ps = fillE sz cs e0 ps
  | [], _ => .inr rfl
  | (a, x) :: ps, cs => by
    simp only [fillE]
    rcases val_or hle x with h | h
    · simp [h]
    · rw [h]
      split
      · split
        · exact fillE_or hle ps _
        · exact .inr rfl
      · exact .inr rfl

theorem eval_mono' (hle : ELe e0 e) (hn : ∀ n a x, p ≠ .store n a x) (hev : evalOp e0 h p ≠ none) : evalOp e h p = reE e (evalOp e0 h p) := by
  cases p
  case store => exact absurd rfl (hn _ _ _)
  case halloc => rfl
  case lalloc => rfl
  case mkmap => rfl
  case mentry => rfl
  case estore => rfl
  case load n x =>
    rcases val_or hle x with hx | hx
    · exact absurd (by simp only [evalOp, hx]) hev
    · simp only [evalOp, hx]
      split
      · repeat' (first | rfl | split)
      · repeat' (first | rfl | split)
      · rename_i t off hv
        rcases get_or hle t with k | k
        · refine absurd ?_ hev
          simp only [evalOp, hv, k]
          split <;> rfl
        · rw [k]
          repeat' (first | rfl | split)
      · rfl
  case pick c x y =>
    rcases val_or hle c with hc | hc
    · exact absurd (by simp only [evalOp, hc]) hev
    · simp only [evalOp, hc]
      split
      · rename_i hv
        rcases val_or hle x with hx | hx
        · exact absurd (by simp only [evalOp, hv, hx]) hev
        · rw [hx]; split <;> rfl
      · rename_i hv
        rcases val_or hle y with hx | hx
        · exact absurd (by simp only [evalOp, hv, hx]) hev
        · rw [hx]; split <;> rfl
      · rfl
  case build z ps =>
    rcases fills_or hle ps z with hx | hx
    · exact absurd (by simp only [evalOp, hx]) hev
    · simp only [evalOp, hx]
      split <;> rfl
  case bslice hp z n ps =>
    rcases fillE_or (sz := z.cells.length) hle ps (List.replicate n z) with hx | hx
    · exact absurd (by simp only [evalOp, hx]) hev
    · simp only [evalOp, hx]
      repeat' (first | rfl | split)
  case mkfn f x y =>
    rcases vals_or hle x with hx | hx
    · exact absurd (by simp only [evalOp, hx]) hev
    rcases vals_or hle y with hy | hy
    · refine absurd ?_ hev
      simp only [evalOp, hy]
      repeat' (first | rfl | contradiction | split)
    · simp only [evalOp, hx, hy]
      repeat' (first | rfl | split)
  case minmax mx x =>
    rcases vals_or hle x with hx | hx
    · exact absurd (by simp only [evalOp, hx]) hev
    · simp only [evalOp, hx]
      repeat' (first | rfl | split)
  case mkslice hp z x y =>
    rcases nat_or hle x with hx | hx
    · exact absurd (by simp only [evalOp, hx]) hev
    rcases nat_or hle y with hy | hy
    · refine absurd ?_ hev
      simp only [evalOp, hy]
      repeat' (first | rfl | contradiction | split)
    · simp only [evalOp, hx, hy]
      repeat' (first | rfl | split)
  case sliceS x lo hi =>
    rcases val_or hle x with hx | hx
    · exact absurd (by simp only [evalOp, hx]) hev
    simp only [evalOp, hx]
    split
    · rename_i s hv
      rcases optNat_or hle lo 0 with h1 | h1
      · exact absurd (by simp only [evalOp, hv, h1]) hev
      rcases optNat_or hle hi s.length with h2 | h2
      · refine absurd ?_ hev
        simp only [evalOp, hv, h2]
        repeat' (first | rfl | contradiction | split)
      · simp only [h1, h2]
        repeat' (first | rfl | split)
    · rfl
  case sliceV sz x lo hi mx =>
    rcases val_or hle x with hx | hx
    · exact absurd (by simp only [evalOp, hx]) hev
    simp only [evalOp, hx]
    split
    · rename_i hv
      rcases optNat_or hle lo 0 with h1 | h1
      · exact absurd (by simp only [evalOp, hv, h1]) hev
      rcases optNat_or hle hi 0 with h2 | h2
      · refine absurd ?_ hev
        simp only [evalOp, hv, h2]
        repeat' (first | rfl | contradiction | split)
      rcases optNat_or hle mx 0 with h3 | h3
      · refine absurd ?_ hev
        simp only [evalOp, hv, h3]
        repeat' (first | rfl | contradiction | split)
      · simp only [h1, h2, h3]
        repeat' (first | rfl | split)
    · rename_i c xs hv
      rcases optNat_or hle lo 0 with h1 | h1
      · exact absurd (by simp only [evalOp, hv, h1]) hev
      rcases optNat_or hle hi xs.length with h2 | h2
      · refine absurd ?_ hev
        simp only [evalOp, hv, h2]
        repeat' (first | rfl | contradiction | split)
      rcases optNat_or hle mx xs.length with h3 | h3
      · refine absurd ?_ hev
        simp only [evalOp, hv, h3]
        repeat' (first | rfl | contradiction | split)
      · simp only [h1, h2, h3]
        repeat' (first | rfl | split)
    · rename_i r off n sz' hv
      rcases optNat_or hle lo 0 with h1 | h1
      · exact absurd (by simp only [evalOp, hv, h1]) hev
      rcases optNat_or hle hi n with h2 | h2
      · refine absurd ?_ hev
        simp only [evalOp, hv, h2]
        repeat' (first | rfl | contradiction | split)
      · simp only [h1, h2]
        repeat' (first | rfl | split)
    · rfl
  case mupd kd x y z =>
    rcases val_or hle x with hx | hx
    · exact absurd (by simp only [evalOp, hx]) hev
    rcases val_or hle y with hy | hy
    · refine absurd ?_ hev
      simp only [evalOp, hy]
      repeat' (first | rfl | contradiction | split)
    rcases val_or hle z with hz | hz
    · refine absurd ?_ hev
      simp only [evalOp, hz]
      repeat' (first | rfl | contradiction | split)
    · simp only [evalOp, hx, hy, hz]
      repeat' (first | rfl | split)
  case mov x =>
    rcases val_or hle x with hx | hx
    · exact absurd (by simp only [evalOp, hx]) hev
    · simp only [evalOp, hx]
      repeat' (first | rfl | split)
  case hbox x =>
    rcases val_or hle x with hx | hx
    · exact absurd (by simp only [evalOp, hx]) hev
    · simp only [evalOp, hx]
      repeat' (first | rfl | split)
  case lbox x =>
    rcases val_or hle x with hx | hx
    · exact absurd (by simp only [evalOp, hx]) hev
    · simp only [evalOp, hx]
      repeat' (first | rfl | split)
  case nilchk x =>
    rcases val_or hle x with hx | hx
    · exact absurd (by simp only [evalOp, hx]) hev
    · simp only [evalOp, hx]
      repeat' (first | rfl | split)
  case faddr o x =>
    rcases val_or hle x with hx | hx
    · exact absurd (by simp only [evalOp, hx]) hev
    · simp only [evalOp, hx]
      repeat' (first | rfl | split)
  case field o n x =>
    rcases val_or hle x with hx | hx
    · exact absurd (by simp only [evalOp, hx]) hev
    · simp only [evalOp, hx]
      repeat' (first | rfl | split)
  case eqN ng x n =>
    rcases val_or hle x with hx | hx
    · exact absurd (by simp only [evalOp, hx]) hev
    · simp only [evalOp, hx]
      repeat' (first | rfl | split)
  case un op x =>
    rcases val_or hle x with hx | hx
    · exact absurd (by simp only [evalOp, hx]) hev
    · simp only [evalOp, hx]
      repeat' (first | rfl | split)
  case cvI k x =>
    rcases val_or hle x with hx | hx
    · exact absurd (by simp only [evalOp, hx]) hev
    · simp only [evalOp, hx]
      repeat' (first | rfl | split)
  case cvSS x =>
    rcases val_or hle x with hx | hx
    · exact absurd (by simp only [evalOp, hx]) hev
    · simp only [evalOp, hx]
      repeat' (first | rfl | split)
  case cvS x =>
    rcases val_or hle x with hx | hx
    · exact absurd (by simp only [evalOp, hx]) hev
    · simp only [evalOp, hx]
      repeat' (first | rfl | split)
  case cvB x =>
    rcases val_or hle x with hx | hx
    · exact absurd (by simp only [evalOp, hx]) hev
    · simp only [evalOp, hx]
      repeat' (first | rfl | split)
  case mclear x =>
    rcases val_or hle x with hx | hx
    · exact absurd (by simp only [evalOp, hx]) hev
    · simp only [evalOp, hx]
      repeat' (first | rfl | split)
  case rngS x =>
    rcases val_or hle x with hx | hx
    · exact absurd (by simp only [evalOp, hx]) hev
    · simp only [evalOp, hx]
      repeat' (first | rfl | split)
  case rngM x =>
    rcases val_or hle x with hx | hx
    · exact absurd (by simp only [evalOp, hx]) hev
    · simp only [evalOp, hx]
      repeat' (first | rfl | split)
  case nextS x =>
    rcases val_or hle x with hx | hx
    · exact absurd (by simp only [evalOp, hx]) hev
    · simp only [evalOp, hx]
      repeat' (first | rfl | split)
  case entry x =>
    rcases val_or hle x with hx | hx
    · exact absurd (by simp only [evalOp, hx]) hev
    · simp only [evalOp, hx]
      repeat' (first | rfl | split)
  case extract x i =>
    rcases val_or hle x with hx | hx
    · exact absurd (by simp only [evalOp, hx]) hev
    · simp only [evalOp, hx]
      repeat' (first | rfl | split)
  case iface t x =>
    rcases val_or hle x with hx | hx
    · exact absurd (by simp only [evalOp, hx]) hev
    · simp only [evalOp, hx]
      repeat' (first | rfl | split)
  case lenS x =>
    rcases val_or hle x with hx | hx
    · exact absurd (by simp only [evalOp, hx]) hev
    · simp only [evalOp, hx]
      repeat' (first | rfl | split)
  case lenV x =>
    rcases val_or hle x with hx | hx
    · exact absurd (by simp only [evalOp, hx]) hev
    · simp only [evalOp, hx]
      repeat' (first | rfl | split)
  case lenM x =>
    rcases val_or hle x with hx | hx
    · exact absurd (by simp only [evalOp, hx]) hev
    · simp only [evalOp, hx]
      repeat' (first | rfl | split)
  case freeze a b c x =>
    rcases val_or hle x with hx | hx
    · exact absurd (by simp only [evalOp, hx]) hev
    · simp only [evalOp, hx]
      repeat' (first | rfl | split)
  case bin op x y =>
    rcases val_or hle x with hx | hx
    · refine absurd ?_ hev
      simp only [evalOp, hx]
    rcases val_or hle y with hy | hy
    · refine absurd ?_ hev
      simp only [evalOp, hy]
      repeat' (first | rfl | contradiction | split)
    · simp only [evalOp, hx, hy]
      repeat' (first | rfl | split)
  case eqB ng x y =>
    rcases val_or hle x with hx | hx
    · refine absurd ?_ hev
      simp only [evalOp, hx]
    rcases val_or hle y with hy | hy
    · refine absurd ?_ hev
      simp only [evalOp, hy]
      repeat' (first | rfl | contradiction | split)
    · simp only [evalOp, hx, hy]
      repeat' (first | rfl | split)
  case eqA ng ks x y =>
    rcases val_or hle x with hx | hx
    · refine absurd ?_ hev
      simp only [evalOp, hx]
    rcases val_or hle y with hy | hy
    · refine absurd ?_ hev
      simp only [evalOp, hy]
      repeat' (first | rfl | contradiction | split)
    · simp only [evalOp, hx, hy]
      repeat' (first | rfl | split)
  case lookup kd z ok x y =>
    rcases val_or hle x with hx | hx
    · refine absurd ?_ hev
      simp only [evalOp, hx]
    rcases val_or hle y with hy | hy
    · refine absurd ?_ hev
      simp only [evalOp, hy]
      repeat' (first | rfl | contradiction | split)
    · simp only [evalOp, hx, hy]
      repeat' (first | rfl | split)
  case mdel kd x y =>
    rcases val_or hle x with hx | hx
    · refine absurd ?_ hev
      simp only [evalOp, hx]
    rcases val_or hle y with hy | hy
    · refine absurd ?_ hev
      simp only [evalOp, hy]
      repeat' (first | rfl | contradiction | split)
    · simp only [evalOp, hx, hy]
      repeat' (first | rfl | split)
  case append sz ag hp st x y =>
    rcases val_or hle x with hx | hx
    · refine absurd ?_ hev
      simp only [evalOp, hx]
    rcases val_or hle y with hy | hy
    · refine absurd ?_ hev
      simp only [evalOp, hy]
      repeat' (first | rfl | contradiction | split)
    · simp only [evalOp, hx, hy]
      repeat' (first | rfl | split)
  case copy sz ag x y =>
    rcases val_or hle x with hx | hx
    · refine absurd ?_ hev
      simp only [evalOp, hx]
    rcases val_or hle y with hy | hy
    · refine absurd ?_ hev
      simp only [evalOp, hy]
      repeat' (first | rfl | contradiction | split)
    · simp only [evalOp, hx, hy]
      repeat' (first | rfl | split)
  case iaddr sz x i =>
    rcases val_or hle x with hx | hx
    · refine absurd ?_ hev
      simp only [evalOp, hx]
    rcases nat_or hle i with hy | hy
    · refine absurd ?_ hev
      simp only [evalOp, hy]
      repeat' (first | rfl | contradiction | split)
    · simp only [evalOp, hx, hy]
      repeat' (first | rfl | split)
  case iaddrA len sz x i =>
    rcases val_or hle x with hx | hx
    · refine absurd ?_ hev
      simp only [evalOp, hx]
    rcases nat_or hle i with hy | hy
    · refine absurd ?_ hev
      simp only [evalOp, hy]
      repeat' (first | rfl | contradiction | split)
    · simp only [evalOp, hx, hy]
      repeat' (first | rfl | split)
  case idxS x i =>
    rcases val_or hle x with hx | hx
    · refine absurd ?_ hev
      simp only [evalOp, hx]
    rcases nat_or hle i with hy | hy
    · refine absurd ?_ hev
      simp only [evalOp, hy]
      repeat' (first | rfl | contradiction | split)
    · simp only [evalOp, hx, hy]
      repeat' (first | rfl | split)
  case idxA len sz ag x i =>
    rcases val_or hle x with hx | hx
    · refine absurd ?_ hev
      simp only [evalOp, hx]
    rcases nat_or hle i with hy | hy
    · refine absurd ?_ hev
      simp only [evalOp, hy]
      repeat' (first | rfl | contradiction | split)
    · simp only [evalOp, hx, hy]
      repeat' (first | rfl | split)

end
end Go.AM

set_option linter.unusedVariables false
set_option linter.unusedSimpArgs false
namespace Go.AM

/-! Stepping with what is known of the slots. -/

structure EOn (D : List Nat) (e0 e : Env) : Prop where
  le : ELe e0 e
  fr : ∀ d ∈ D, e0.get d = none → e.get d = none

section
variable {D : List Nat} {e0 e1 e e' : Env} {h h' : Heap} {v u : AV} {o : IOp} {C : CallT} {l : List Item} {Q : Post} {g : Guard} {d : Option Nat}

theorem EOn.refl (D : List Nat) (e : Env) : EOn D e e := ⟨fun _ _ h => h, fun _ _ h => h⟩
theorem EOn.trans (a : EOn D e0 e1) (b : EOn D e1 e) : EOn D e0 e := ⟨fun i v h => b.le i v (a.le i v h), fun d hd h => b.fr d hd (a.fr d hd h)⟩
theorem EOn.put (a : EOn D e0 e) (i : Nat) (v : AV) : EOn D (e0.put i v) (e.put i v) := by
  refine ⟨fun j u hj => ?_, fun d hd hj => ?_⟩
  · rw [Tr.get_put] at hj ⊢
    split at hj <;> rename_i hij
    · rw [if_pos hij]; exact hj
    · rw [if_neg hij]; exact a.le _ _ hj
  · rw [Tr.get_put] at hj ⊢
    split at hj <;> rename_i hij
    · cases hj
    · rw [if_neg hij]; exact a.fr _ hd hj
theorem EOn.del (a : EOn D e0 e) (i : Nat) : EOn D (e0.del i) (e.del i) := by
  refine ⟨fun j u hj => ?_, fun d hd hj => ?_⟩
  · rw [Tr.get_del] at hj ⊢
    split at hj <;> rename_i hij
    · cases hj
    · rw [if_neg hij]; exact a.le _ _ hj
  · rw [Tr.get_del] at hj ⊢
    split at hj <;> rename_i hij
    · rw [if_pos hij]
    · rw [if_neg hij]; exact a.fr _ hd hj
theorem EOn.dels : ∀ (k : List Nat) {e0 e : Env}, EOn D e0 e → EOn D (Env.dels e0 k) (Env.dels e k)
  | [], _, _, a => a
  | i :: k, _, _, a => EOn.dels k (a.del i)
theorem EOn.putD (a : EOn D e0 e) (d : Option Nat) (v : AV) : EOn D (AM.putD e0 d v) (AM.putD e d v) := by
  cases d with
  | none => exact a
  | some d => exact a.put d v

def mkEnv : List (Nat × AV) → Env
  | [] => .lf
  | (i, v) :: l => (mkEnv l).put i v
theorem mkEnv_mem : ∀ {l : List (Nat × AV)} {i : Nat} {v : AV}, (mkEnv l).get i = some v → (i, v) ∈ l
  | [], i, v, h => by rw [mkEnv, Tr.get_lf] at h; cases h
  | (j, u) :: l, i, v, h => by
    rw [mkEnv, Tr.get_put] at h
    split at h <;> rename_i hij
    · cases h; subst hij; exact List.mem_cons_self
    · exact List.mem_cons_of_mem _ (mkEnv_mem h)
def hasAll (e : Env) : List (Nat × AV) → Prop
  | [] => True
  | (i, v) :: l => e.get i = some v ∧ hasAll e l
theorem hasAll.mem : ∀ {l : List (Nat × AV)}, hasAll e l → ∀ i v, (i, v) ∈ l → e.get i = some v
  | [], _, i, v, h => by cases h
  | (j, u) :: l, ha, i, v, h => by
    rcases List.mem_cons.1 h with h | h
    · cases h; exact ha.1
    · exact ha.2.mem i v h
def noneAll (e : Env) : List Nat → Prop
  | [] => True
  | i :: l => e.get i = none ∧ noneAll e l
theorem noneAll.mem : ∀ {l : List Nat}, noneAll e l → ∀ i, i ∈ l → e.get i = none
  | [], _, i, h => by cases h
  | j :: l, ha, i, h => by
    rcases List.mem_cons.1 h with h | h
    · cases h; exact ha.1
    · exact ha.2.mem i h
/-- a small table of slots in place of a great one -/
theorem EOn.of {l : List (Nat × AV)} (h1 : hasAll e l) (h2 : noneAll e D) : EOn D (mkEnv l) e :=
  ⟨fun i v hi => h1.mem i v (mkEnv_mem hi), fun d hd _ => h2.mem d hd⟩
theorem EOn.of' {l : List (Nat × AV)} (h1 : hasAll e l) (h2 : ∀ d ∈ D, (mkEnv l).get d = none → e.get d = none) : EOn D (mkEnv l) e :=
  ⟨fun i v hi => h1.mem i v (mkEnv_mem hi), h2⟩

structure SW (D : List Nat) (C : CallT) (ir : IR) (Q : Post) (e0 : Env) (h : Heap) : Prop where
  run : ∀ e, EOn D e0 e → W C ir Q e h
structure SI (D : List Nat) (C : CallT) (l : List Item) (Q : Env → Heap → Prop) (e0 : Env) (h : Heap) : Prop where
  run : ∀ e, EOn D e0 e → wItems C l Q e h
structure SQ (D : List Nat) (Q : Post) (x : Exit) (e0 : Env) (h : Heap) : Prop where
  run : ∀ e, EOn D e0 e → Q x e h

def itemsP (Q : Post) (k : List Nat) : Env → Heap → Prop := fun e h => Q .normal (Env.dels e k) h
def seqP (C : CallT) (b : IR) (Q : Post) : Post := fun x e h => match x with | .normal => W C b Q e h | x => Q x e h
def blockP (id : Nat) (Q : Post) : Post := fun x e h => match x with
  | .exit i => if i = id then Q .normal e h else Q (.exit i) e h
  | x => Q x e h
def loopP (D : List Nat) (Q : Post) (I : Nat → Env → Heap → Prop) (n : Nat) : Post := fun x e h => match x with
  | .normal => ∃ m e0, m < n ∧ EOn D e0 e ∧ I m e0 h
  | x => Q x e h

theorem wanted_mono {b : Bool} (hle : ELe e0 e) (hw : wanted e0 g = some b) : wanted e g = some b := by
  cases g with
  | none => exact hw
  | some p =>
    obtain ⟨i, c⟩ := p
    simp only [wanted] at hw ⊢
    rcases get_or hle i with k | k
    · rw [k] at hw; cases hw
    · rw [k]; exact hw
theorem val_mono (hle : ELe e0 e) {x : Opd} (hv : val e0 x = some v) : val e x = some v := by
  rcases val_or hle x with k | k
  · rw [k] at hv; cases hv
  · rw [k]; exact hv
theorem vals_mono (hle : ELe e0 e) {x : List Opd} {vs : List AV} (hv : vals e0 x = some vs) : vals e x = some vs := by
  rcases vals_or hle x with k | k
  · rw [k] at hv; cases hv
  · rw [k]; exact hv
theorem callee_mono (hle : ELe e0 e) {f : Callee} {args : List Opd} {r : Nat × List AV} (hc : callee e0 f args = some r) : callee e f args = some r := by
  cases f with
  | fn f =>
    simp only [callee] at hc ⊢
    rcases vals_or hle args with k | k
    · rw [k] at hc; cases hc
    · rw [k]; exact hc
  | dyn x =>
    simp only [callee] at hc ⊢
    rcases val_or hle x with k | k
    · rw [k] at hc; cases hc
    · rw [k]
      split at hc
      · rename_i f a b hv
        try rw [hv]
        try simp only
        rcases vals_or hle args with k | k
        · rw [k] at hc; cases hc
        · rw [k]; exact hc
      · cases hc

/-- an operation with more slots filled -/
theorem eval_mono (he : EOn D e0 e) (hev : evalOp e0 h o = some (v, e1, h')) : ∃ e', evalOp e h o = some (v, e', h') ∧ EOn D e1 e' := by
  by_cases hn : ∃ n a x, o = .store n a x
  · obtain ⟨n, a, x, rfl⟩ := hn
    simp only [evalOp] at hev ⊢
    split at hev
    · rename_i w hx
      rw [val_mono he.le hx]
      simp only
      split at hev
      · rename_i hc
        rw [if_pos hc]
        split at hev
        · rename_i r off ha
          rw [val_mono he.le ha]
          simp only
          split at hev
          · split at hev
            · cases hev; exact ⟨_, rfl, he⟩
            · cases hev
          · cases hev
        · rename_i t off ha
          rw [val_mono he.le ha]
          simp only
          split at hev
          · rename_i had
            rw [if_pos had]
            split at hev
            · rename_i cs hg
              rw [he.le _ _ hg]
              simp only
              split at hev
              · cases hev; exact ⟨_, rfl, he.put _ _⟩
              · cases hev
            · rename_i u0 hne hg
              split at hev
              · rename_i hoff
                split at hev
                · rename_i u hu
                  cases hev
                  refine ⟨e.put t u, ?_, he.put _ _⟩
                  have := he.le _ _ hg
                  rw [this]
                  cases u0 <;> first | exact absurd rfl (hne _) | (simp only [hoff, hu, if_true])
                · cases hev
              · cases hev
            · cases hev
          · cases hev
        · cases hev
      · cases hev
    · cases hev
  · have hn' : ∀ n a x, o ≠ .store n a x := fun n a x k => hn ⟨n, a, x, k⟩
    have h1 := eval_mono' (h := h) he.le hn' (by rw [hev]; exact fun k => nomatch k)
    rw [hev] at h1
    refine ⟨e, h1, ?_⟩
    rw [eval_env hn' hev]
    exact he

def freshS (D : List Nat) (e : Env) (d : Option Nat) : IOp → Bool
  | .lalloc _ | .lbox _ => match d with
    | some d => (e.get d).isNone && D.contains d
    | none => true
  | _ => true
theorem fresh_mono (he : EOn D e0 e) (hf : freshS D e0 d o = true) : fresh e d o = true := by
  unfold fresh
  split <;> simp only [freshS] at hf
  · split
    · simp only [Bool.and_eq_true, Option.isNone_iff_eq_none] at hf
      rw [he.fr _ (by simpa using hf.2) hf.1]; rfl
    · rfl
  · split
    · simp only [Bool.and_eq_true, Option.isNone_iff_eq_none] at hf
      rw [he.fr _ (by simpa using hf.2) hf.1]; rfl
    · rfl
  · rfl

section items
variable {R : Env → Heap → Prop}
theorem si_op (hw : wanted e0 g = some true) (hev : evalOp e0 h o = some (v, e1, h')) (hf : freshS D e0 d o = true) (k : SI D C l R (putD e1 d v) h') : SI D C (.op d g o :: l) R e0 h := by
  refine ⟨fun e he => ?_⟩
  obtain ⟨e', h1, h2⟩ := eval_mono he hev
  simp only [wItems, wanted_mono he.le hw, h1]
  exact ⟨fresh_mono he hf, k.run _ (h2.putD d v)⟩
theorem si_off (hw : wanted e0 g = some false) (k : SI D C l R (putD e0 d (.tup [])) h) : SI D C (.op d g o :: l) R e0 h := by
  refine ⟨fun e he => ?_⟩
  simp only [wItems, wanted_mono he.le hw]
  exact k.run _ (he.putD d _)
theorem si_chk {d : Nat} (hw : wanted e0 g = some true) (hev : evalOp e0 h o = some (v, e1, h')) (hg : e0.get d = some v) (k : SI D C l R e0 h) : SI D C (.chk d g o :: l) R e0 h := by
  refine ⟨fun e he => ?_⟩
  obtain ⟨e', h1, h2⟩ := eval_mono he hev
  simp only [wItems, wanted_mono he.le hw, h1]
  exact ⟨he.le _ _ hg, k.run _ he⟩
theorem si_chkoff {d : Nat} (hw : wanted e0 g = some false) (k : SI D C l R e0 h) : SI D C (.chk d g o :: l) R e0 h := by
  refine ⟨fun e he => ?_⟩
  simp only [wItems, wanted_mono he.le hw]
  exact k.run _ he
theorem si_calloff {f : Callee} {args : List Opd} (hw : wanted e0 g = some false) (k : SI D C l R (putD e0 d (.tup [])) h) : SI D C (.call d g f args :: l) R e0 h := by
  refine ⟨fun e he => ?_⟩
  simp only [wItems, wanted_mono he.le hw]
  exact k.run _ (he.putD d _)
theorem si_call {fns : Nat → Option IRFn} (hs : Sys fns C) {f : Callee} {args : List Opd} {f' : Nat} {vs : List AV} (hw : wanted e0 g = some true) (hc : callee e0 f args = some (f', vs))
    (k : C f' vs h fun v h' => SI D C l R (putD e0 d v) h') : SI D C (.call d g f args :: l) R e0 h := by
  refine ⟨fun e he => ?_⟩
  simp only [wItems, wanted_mono he.le hw, callee_mono he.le hc]
  exact hs.mono _ _ _ _ _ k fun v h' hk => hk.run _ (he.putD d v)
theorem si_nil {k : List Nat} (hq : SQ D Q .normal (Env.dels e0 k) h) : SI D C [] (itemsP Q k) e0 h := by
  exact ⟨fun e he => hq.run _ (he.dels k)⟩
end items

theorem sw_items {k : List Nat} (hi : SI D C l (itemsP Q k) e0 h) : SW D C (.items l k) Q e0 h := ⟨fun e he => hi.run e he⟩
theorem sw_seq {a b : IR} (hi : SW D C a (seqP C b Q) e0 h) : SW D C (.seq a b) Q e0 h := ⟨fun e he => hi.run e he⟩
theorem sw_skip (hi : SQ D Q .normal e0 h) : SW D C .skip Q e0 h := ⟨fun e he => hi.run e he⟩
theorem sw_exit {i : Nat} (hi : SQ D Q (.exit i) e0 h) : SW D C (.exit i) Q e0 h := ⟨fun e he => hi.run e he⟩
theorem sw_ret (hi : SQ D Q .ret e0 h) : SW D C .ret Q e0 h := ⟨fun e he => hi.run e he⟩
theorem sw_block {i : Nat} {b : IR} (hi : SW D C b (blockP i Q) e0 h) : SW D C (.block i b) Q e0 h := ⟨fun e he => hi.run e he⟩
theorem sw_condT {c : Opd} {a b : IR} (hc : val e0 c = some (.bool true)) (hi : SW D C a Q e0 h) : SW D C (.cond c a b) Q e0 h := ⟨fun e he => by
  simp only [W, val_mono he.le hc]; exact hi.run e he⟩
theorem sw_condF {c : Opd} {a b : IR} (hc : val e0 c = some (.bool false)) (hi : SW D C b Q e0 h) : SW D C (.cond c a b) Q e0 h := ⟨fun e he => by
  simp only [W, val_mono he.le hc]; exact hi.run e he⟩
theorem sw_cond {c : Opd} {a b : IR} (t : Bool) (hc : val e0 c = some (.bool t)) (h1 : t = true → SW D C a Q e0 h) (h2 : t = false → SW D C b Q e0 h) : SW D C (.cond c a b) Q e0 h := by
  cases t with
  | true => exact sw_condT hc (h1 rfl)
  | false => exact sw_condF hc (h2 rfl)

theorem sq_seq {b : IR} (hi : SW D C b Q e0 h) : SQ D (seqP C b Q) .normal e0 h := ⟨fun e he => hi.run e he⟩
theorem sq_seq_x {b : IR} {i : Nat} (hi : SQ D Q (.exit i) e0 h) : SQ D (seqP C b Q) (.exit i) e0 h := ⟨fun e he => hi.run e he⟩
theorem sq_seq_r {b : IR} (hi : SQ D Q .ret e0 h) : SQ D (seqP C b Q) .ret e0 h := ⟨fun e he => hi.run e he⟩
theorem sq_block {i : Nat} (hi : SQ D Q .normal e0 h) : SQ D (blockP i Q) .normal e0 h := ⟨fun e he => hi.run e he⟩
theorem sq_block_r {i : Nat} (hi : SQ D Q .ret e0 h) : SQ D (blockP i Q) .ret e0 h := ⟨fun e he => hi.run e he⟩
theorem sq_block_x {i : Nat} (hi : SQ D Q .normal e0 h) : SQ D (blockP i Q) (.exit i) e0 h := ⟨fun e he => by
  simp only [blockP, if_true]; exact hi.run e he⟩
theorem sq_block_o {i j : Nat} (hj : (j == i) = false) (hi : SQ D Q (.exit j) e0 h) : SQ D (blockP i Q) (.exit j) e0 h := ⟨fun e he => by
  simp only [blockP, if_neg (by simpa using hj : ¬ j = i)]; exact hi.run e he⟩
theorem sq_loop {I : Nat → Env → Heap → Prop} {n : Nat} (m : Nat) (e1 : Env) (hm : m < n) (he1 : EOn D e1 e0) (hi : I m e1 h) : SQ D (loopP D Q I n) .normal e0 h := ⟨fun e he => ⟨m, e1, hm, he1.trans he, hi⟩⟩
theorem sq_loop_x {I : Nat → Env → Heap → Prop} {n i : Nat} (hi : SQ D Q (.exit i) e0 h) : SQ D (loopP D Q I n) (.exit i) e0 h := ⟨fun e he => hi.run e he⟩
theorem sq_loop_r {I : Nat → Env → Heap → Prop} {n : Nat} (hi : SQ D Q .ret e0 h) : SQ D (loopP D Q I n) .ret e0 h := ⟨fun e he => hi.run e he⟩

theorem sw_weak {ir : IR} (he : EOn D e1 e0) (hi : SW D C ir Q e1 h) : SW D C ir Q e0 h := ⟨fun e k => hi.run e (he.trans k)⟩

/-! monotone -/
theorem wItems_mono {fns : Nat → Option IRFn} (hs : Sys fns C) {Q1 Q2 : Env → Heap → Prop} (hq : ∀ e h, Q1 e h → Q2 e h) : ∀ (l : List Item) (e : Env) (h : Heap), wItems C l Q1 e h → wItems C l Q2 e h
  | [], e, h, k => hq _ _ k
  | .op d g o :: l, e, h, k => by
    simp only [wItems] at k ⊢
    split at k
    · split at k
      · exact ⟨k.1, wItems_mono hs hq l _ _ k.2⟩
      · exact k.elim
    · exact wItems_mono hs hq l _ _ k
    · exact k.elim
  | .chk d g o :: l, e, h, k => by
    simp only [wItems] at k ⊢
    split at k
    · split at k
      · exact ⟨k.1, wItems_mono hs hq l _ _ k.2⟩
      · exact k.elim
    · exact wItems_mono hs hq l _ _ k
    · exact k.elim
  | .call d g f args :: l, e, h, k => by
    simp only [wItems] at k ⊢
    split at k
    · split at k
      · exact hs.mono _ _ _ _ _ k fun v h' hk => wItems_mono hs hq l _ _ hk
      · exact k.elim
    · exact wItems_mono hs hq l _ _ k
    · exact k.elim
  | .nextM d g it :: l, e, h, k => by
    simp only [wItems] at k ⊢
    split at k
    · split at k
      · split at k
        · exact wItems_mono hs hq l _ _ k
        · refine ⟨k.1, ?_⟩
          have k2 := k.2
          split at k2
          · exact wItems_mono hs hq l _ _ k2
          · exact fun a b x v n hx => wItems_mono hs hq l _ _ (k2 a b x v n hx)
        · exact k.elim
      · exact k.elim
    · exact wItems_mono hs hq l _ _ k
    · exact k.elim

theorem W_mono {fns : Nat → Option IRFn} (hs : Sys fns C) : ∀ (ir : IR) (Q1 Q2 : Post) (hq : ∀ x e h, Q1 x e h → Q2 x e h) (e : Env) (h : Heap), W C ir Q1 e h → W C ir Q2 e h
  | .skip, Q1, Q2, hq, e, h, k => hq _ _ _ k
  | .exit i, Q1, Q2, hq, e, h, k => hq _ _ _ k
  | .ret, Q1, Q2, hq, e, h, k => hq _ _ _ k
  | .items l ks, Q1, Q2, hq, e, h, k => wItems_mono hs (fun e h => hq _ _ _) l e h k
  | .seq a b, Q1, Q2, hq, e, h, k => by
    refine W_mono hs a _ _ (fun x e h hx => ?_) e h k
    cases x with
    | normal => exact W_mono hs b _ _ hq _ _ hx
    | exit i => exact hq _ _ _ hx
    | ret => exact hq _ _ _ hx
  | .cond c a b, Q1, Q2, hq, e, h, k => by
    simp only [W] at k ⊢
    split at k
    · exact W_mono hs a _ _ hq _ _ k
    · exact W_mono hs b _ _ hq _ _ k
    · exact k.elim
  | .block i b, Q1, Q2, hq, e, h, k => by
    refine W_mono hs b _ _ (fun x e h hx => ?_) e h k
    cases x with
    | normal => exact hq _ _ _ hx
    | exit j =>
      simp only at hx ⊢
      split at hx
      · rename_i hj; rw [if_pos hj]; exact hq _ _ _ hx
      · rename_i hj; rw [if_neg hj]; exact hq _ _ _ hx
    | ret => exact hq _ _ _ hx
  | .loop b, Q1, Q2, hq, e, h, k => by
    intro X hX
    refine k X fun e h hb => hX e h (W_mono hs b _ _ (fun x e h hx => ?_) e h hb)
    cases x with
    | normal => exact hx
    | exit i => exact hq _ _ _ hx
    | ret => exact hq _ _ _ hx

/-- a loop with what shrinks -/
theorem sw_loop {fns : Nat → Option IRFn} (hs : Sys fns C) {b : IR} (I : Nat → Env → Heap → Prop) (hb : ∀ n e0 h, I n e0 h → SW D C b (loopP D Q I n) e0 h) {n : Nat} (hi : I n e0 h) : SW D C (.loop b) Q e0 h := by
  refine ⟨fun e he X hX => ?_⟩
  have key : ∀ N n e0 h e, n < N → I n e0 h → EOn D e0 e → X e h := by
    intro N
    induction N with
    | zero => intro n e0 h e hn; omega
    | succ N ih =>
      intro n e0 h e hn hi he
      refine hX e h (W_mono hs b _ _ (fun x e h hx => ?_) e h ((hb n e0 h hi).run e he))
      cases x with
      | normal =>
        obtain ⟨m, e1, hm, h1, h2⟩ := hx
        exact ih m e1 h e (by omega) h2 h1
      | exit i => exact hx
      | ret => exact hx
  exact key (n + 1) n e0 h e (by omega) hi he

theorem results_mono (hle : ELe e0 e) : ∀ {r : List ResV} {vs : List AV}, results e0 h r = some vs → results e h r = some vs
  | [], vs, hr => hr
  | x :: r, vs, hr => by
    simp only [results] at hr ⊢
    split at hr
    · rename_i v hx
      have : result e h x = some v := by
        cases x with
        | tmp i => exact hle _ _ hx
        | loc i n =>
          simp only [result] at hx ⊢
          rcases get_or hle i with k | k
          · rw [k] at hx; cases hx
          · rw [k]; exact hx
        | cell i n =>
          simp only [result] at hx ⊢
          rcases get_or hle i with k | k
          · rw [k] at hx; cases hx
          · rw [k]; exact hx
      rw [this]
      simp only
      split at hr
      · rename_i ws hws
        rw [results_mono hle hws]
        exact hr
      · cases hr
    · cases hr

theorem sq_end {fn : IRFn} {Q : AV → Heap → Prop} {vs : List AV} (hr : results e0 h fn.results = some vs) (hq : Q (fn.out (resultV vs)) h) : SQ D (endPost fn Q) .ret e0 h := ⟨fun e he => by
  simp only [endPost, results_mono he.le hr]; exact hq⟩
theorem sq_endn {fn : IRFn} {Q : AV → Heap → Prop} {vs : List AV} (hr : results e0 h fn.results = some vs) (hq : Q (fn.out (resultV vs)) h) : SQ D (endPost fn Q) .normal e0 h := ⟨fun e he => by
  simp only [endPost, results_mono he.le hr]; exact hq⟩

theorem sw_start {fns : Nat → Option IRFn} (hs : Sys fns C) (D : List Nat) {f : Nat} {fn : IRFn} {args : List AV} {Q : AV → Heap → Prop} (hf : fns f = some fn) (hl : Nat.ble args.length fn.nargs = true)
    (hw : SW D C fn.body (endPost fn Q) (fn.env args) h) : C f args h Q := hs.step _ _ _ _ _ hf ⟨Nat.le_of_ble_eq_true hl, hw.run _ (.refl _ _)⟩

/-! operations on memory -/
theorem ev_load {n : Option Nat} {a : Opd} {r off : Nat} {cs : List AV} (ha : val e0 a = some (.ptr r off)) (hg : h.get r = some (.cells cs)) (hc : cut cs off n = some v) : evalOp e0 h (.load n a) = some (v, e0, h) := by
  simp only [evalOp, ha, hg, hc]
theorem ev_store {n : Nat} {a x : Opd} {r off : Nat} {cs cs' : List AV} (hx : val e0 x = some v) (hn : v.cells.length = n) (hsc : v.cells.all AV.scal = true) (ha : val e0 a = some (.ptr r off)) (hg : h.get r = some (.cells cs)) (hc : splice cs off v.cells = some cs') : evalOp e0 h (.store n a x) = some (.tup [], e0, h.set r (.cells cs')) := by
  simp only [evalOp, ha, hx, hg, hc]
  rw [if_pos ⟨hn, hsc⟩]
theorem ev_iaddr {sz : Nat} {x i : Opd} {c : Cap} {xs : List AV} {k : IntKind} {j : Nat} (hx : val e0 x = some (.vs c xs)) (hi : val e0 i = some (.int k (j : Int))) (hj : xs[j]? = some v) (hsz : v.cells.length = sz) : evalOp e0 h (.iaddr sz x i) = some (.ep v.cells 0, e0, h) := by
  have hk : nat? e0 i = some j := by
    simp only [nat?, hi]
    rw [if_pos (by omega)]; simp
  simp only [evalOp, hx, hk, hj, hsz, if_true]
theorem wrap_i64 (n : Int) (h1 : -9223372036854775808 ≤ n) (h2 : n < 9223372036854775808) : IntKind.wrap .i64 n = n := by
  have e1 : (2 ^ IntKind.bits .i64 : Int) = 18446744073709551616 := rfl
  have e2 : (2 ^ (IntKind.bits .i64 - 1) : Int) = 9223372036854775808 := rfl
  unfold IntKind.wrap
  simp only [e1, e2, IntKind.signed, Bool.true_and, decide_eq_true_eq]
  split <;> omega
theorem wrap_u64 (n : Int) (h1 : 0 ≤ n) (h2 : n < 18446744073709551616) : IntKind.wrap .u64 n = n := by
  have e1 : (2 ^ IntKind.bits .u64 : Int) = 18446744073709551616 := rfl
  unfold IntKind.wrap
  simp only [e1, IntKind.signed, Bool.false_and, Bool.false_eq_true, if_false]
  omega
theorem ev_inc {x : Opd} {k : Nat} (hx : val e0 x = some (.int .i64 (k : Int))) (hk : k + 1 < 9223372036854775808) : evalOp e0 h (.bin .add x (.c (.int .i64 1))) = some (.int .i64 ((k + 1 : Nat) : Int), e0, h) := by
  have h1 : val e0 (.c (.int .i64 1)) = some (.int .i64 1) := rfl
  have : IntKind.wrap .i64 ((k : Int) + 1) = ((k + 1 : Nat) : Int) := by
    rw [wrap_i64 _ (by omega) (by omega)]; omega
  simp only [evalOp, hx, h1, binop, arith, if_true, this]
theorem ev_lt {k : IntKind} {x y : Opd} {a b : Int} (hx : val e0 x = some (.int k a)) (hy : val e0 y = some (.int k b)) : evalOp e0 h (.bin .lss x y) = some (.bool (decide (a < b)), e0, h) := by
  simp only [evalOp, hx, hy, binop, arith, if_true]
theorem ev_dec {x : Opd} {k : Nat} (hx : val e0 x = some (.int .i64 ((k + 1 : Nat) : Int))) (hk : k < 9223372036854775808) : evalOp e0 h (.bin .sub x (.c (.int .i64 1))) = some (.int .i64 (k : Int), e0, h) := by
  have h1 : val e0 (.c (.int .i64 1)) = some (.int .i64 1) := rfl
  have : IntKind.wrap .i64 (((k + 1 : Nat) : Int) - 1) = (k : Int) := by
    rw [wrap_i64 _ (by omega) (by omega)]; omega
  simp only [evalOp, hx, h1, binop, arith, if_true, this]
theorem ev_add {x y : Opd} {a b c : Int} (hx : val e0 x = some (.int .i64 a)) (hy : val e0 y = some (.int .i64 b)) (hc : a + b = c) (h1 : -9223372036854775808 ≤ c) (h2 : c < 9223372036854775808) : evalOp e0 h (.bin .add x y) = some (.int .i64 c, e0, h) := by
  have : IntKind.wrap .i64 (a + b) = c := by
    rw [hc, wrap_i64 _ h1 h2]
  simp only [evalOp, hx, hy, binop, arith, if_true, this]
theorem EOn.filled {l : List (Nat × AV)} (h1 : hasAll e l) (h2 : (D.all fun d => ((mkEnv l).get d).isSome) = true) : EOn D (mkEnv l) e :=
  .of' h1 fun d hd hn => by
    have := List.all_eq_true.1 h2 d hd
    rw [hn] at this; cases this
theorem Heap.get_set (h : Heap) (r s : Nat) (x : AObj) : (h.set r x).get s = if r = s then some x else h.get s := Tr.get_put _ _ _ _
theorem Heap.get_new (h : Heap) (s : Nat) (x : AObj) : (h.new x).get s = if h.next = s then some x else h.get s := Tr.get_put _ _ _ _
theorem Heap.get_set_same (h : Heap) (r : Nat) (x : AObj) : (h.set r x).get r = some x := by rw [Heap.get_set, if_pos rfl]
theorem Heap.get_new_same (h : Heap) (x : AObj) : (h.new x).get h.next = some x := by rw [Heap.get_new, if_pos rfl]

/-- only these objects are not as before -/
structure Only (R : List Nat) (h h' : Heap) : Prop where
  next : h.next ≤ h'.next
  same : ∀ r, r < h.next → r ∉ R → h'.get r = h.get r
theorem Only.refl (R : List Nat) (h : Heap) : Only R h h := ⟨Nat.le_refl _, fun _ _ _ => rfl⟩
theorem Only.trans {R S T : List Nat} {h h' h2 : Heap} (a : Only R h h') (b : Only S h' h2) (h1 : ∀ r ∈ R, r ∈ T) (h3 : ∀ r ∈ S, r ∈ T) : Only T h h2 :=
  ⟨Nat.le_trans a.next b.next, fun r hr hn => by rw [b.same r (Nat.lt_of_lt_of_le hr a.next) (fun k => hn (h3 r k)), a.same r hr (fun k => hn (h1 r k))]⟩
theorem Only.set {R : List Nat} {h h' : Heap} (a : Only R h h') {r : Nat} {x : AObj} (hr : r ∈ R ∨ h.next ≤ r) : Only R h (h'.set r x) :=
  ⟨a.next, fun s hs hn => by
    rw [Heap.get_set]
    split
    · rename_i e; subst e; rcases hr with k | k
      · exact absurd k hn
      · omega
    · exact a.same s hs hn⟩
theorem Only.new {R : List Nat} {h h' : Heap} (a : Only R h h') {x : AObj} : Only R h (h'.new x) :=
  ⟨Nat.le_succ_of_le a.next, fun s hs hn => by
    rw [Heap.get_new]
    split
    · have := a.next; omega
    · exact a.same s hs hn⟩
end
end Go.AM

set_option linter.unusedVariables false
set_option linter.unusedSimpArgs false
namespace Go.AM
section
variable {D : List Nat} {e0 e1 e e' : Env} {h h' : Heap} {v u : AV} {o : IOp} {C : CallT} {l : List Item} {Q : Post} {g : Guard} {d : Option Nat}
theorem ev_rem {x y : Opd} {k : IntKind} {a b : Int} (hx : val e0 x = some (.int k a)) (hy : val e0 y = some (.int k b)) (hb : b ≠ 0) : evalOp e0 h (.bin .rem x y) = some (.int k (a.tmod b), e0, h) := by
  simp only [evalOp, hx, hy, binop, arith, if_true]
  rw [if_neg hb]
theorem ev_gt {k : IntKind} {x y : Opd} {a b : Int} (hx : val e0 x = some (.int k a)) (hy : val e0 y = some (.int k b)) : evalOp e0 h (.bin .gtr x y) = some (.bool (decide (a > b)), e0, h) := by
  simp only [evalOp, hx, hy, binop, arith, if_true]
/-! ### Maps -/
def KS (es : List (AV × AV × Nat)) : Prop := ∀ x ∈ es, ∃ s, x.1 = .str s
def KI (j : IntKind) (es : List (AV × AV × Nat)) : Prop := ∀ x ∈ es, ∃ n, x.1 = .int j n
theorem KS.nil : KS [] := fun _ h => nomatch h
theorem KI.nil {j : IntKind} : KI j [] := fun _ h => nomatch h
theorem KS.put : ∀ {es : List (AV × AV × Nat)} (k : List UInt8) (v : AV) (c : Nat), KS es → KS (mput (.str k) v c es)
  | [], k, v, c, _ => fun x hx => by simp [mput] at hx; subst hx; exact ⟨k, rfl⟩
  | (a, b, n) :: es, k, v, c, hk => by
    obtain ⟨s, hs⟩ := hk (a, b, n) List.mem_cons_self
    simp only at hs
    subst hs
    have hk' : KS es := fun x hx => hk x (List.mem_cons_of_mem _ hx)
    simp only [mput, keyEq]
    cases hb : (k == s) with
    | true =>
      simp only
      intro x hx
      rcases List.mem_cons.1 hx with rfl | hx
      · exact ⟨k, rfl⟩
      · exact hk' x hx
    | false =>
      simp only
      intro x hx
      rcases List.mem_cons.1 hx with rfl | hx
      · exact ⟨s, rfl⟩
      · exact KS.put k v c hk' x hx
theorem KI.put {j : IntKind} : ∀ {es : List (AV × AV × Nat)} (k : Int) (v : AV) (c : Nat), KI j es → KI j (mput (.int j k) v c es)
  | [], k, v, c, _ => fun x hx => by simp [mput] at hx; subst hx; exact ⟨k, rfl⟩
  | (a, b, n) :: es, k, v, c, hk => by
    obtain ⟨s, hs⟩ := hk (a, b, n) List.mem_cons_self
    simp only at hs
    subst hs
    have hk' : KI j es := fun x hx => hk x (List.mem_cons_of_mem _ hx)
    simp only [mput, keyEq, beq_self_eq_true, if_true]
    cases hb : (k == s) with
    | true =>
      simp only
      intro x hx
      rcases List.mem_cons.1 hx with rfl | hx
      · exact ⟨k, rfl⟩
      · exact hk' x hx
    | false =>
      simp only
      intro x hx
      rcases List.mem_cons.1 hx with rfl | hx
      · exact ⟨s, rfl⟩
      · exact KI.put k v c hk' x hx
/-- what a map with texts as keys holds -/
theorem KS.find : ∀ {es : List (AV × AV × Nat)}, KS es → ∀ k, ∃ r, mfind (.str k) es = some r
  | [], _, k => ⟨none, rfl⟩
  | (a, b, n) :: es, hk, k => by
    obtain ⟨s, hs⟩ := hk (a, b, n) List.mem_cons_self
    simp only at hs
    subst hs
    obtain ⟨r, hr⟩ := KS.find (es := es) (fun x hx => hk x (List.mem_cons_of_mem _ hx)) k
    simp only [mfind, keyEq]
    cases hb : (k == s) with
    | true => exact ⟨some b, rfl⟩
    | false => exact ⟨r, hr⟩
theorem KI.find {j : IntKind} : ∀ {es : List (AV × AV × Nat)}, KI j es → ∀ k, ∃ r, mfind (.int j k) es = some r
  | [], _, k => ⟨none, rfl⟩
  | (a, b, n) :: es, hk, k => by
    obtain ⟨s, hs⟩ := hk (a, b, n) List.mem_cons_self
    simp only at hs
    subst hs
    obtain ⟨r, hr⟩ := KI.find (es := es) (fun x hx => hk x (List.mem_cons_of_mem _ hx)) k
    simp only [mfind, keyEq, beq_self_eq_true, if_true]
    cases hb : (k == s) with
    | true => exact ⟨some b, rfl⟩
    | false => exact ⟨r, hr⟩
theorem KS.find_put : ∀ {es : List (AV × AV × Nat)} (k k' : List UInt8) (v : AV) (c : Nat), KS es → mfind (.str k') (mput (.str k) v c es) = if k' = k then some (some v) else mfind (.str k') es
  | [], k, k', v, c, _ => by
    simp only [mput, mfind, keyEq]
    by_cases h : k' = k
    · simp [h]
    · have : (k' == k) = false := by simpa using h
      simp [h, this]
  | (a, b, n) :: es, k, k', v, c, hk => by
    obtain ⟨s, hs⟩ := hk (a, b, n) List.mem_cons_self
    simp only at hs
    subst hs
    have ih := KS.find_put (es := es) k k' v c (fun x hx => hk x (List.mem_cons_of_mem _ hx))
    simp only [mput, keyEq]
    by_cases hb : k = s
    · subst hb
      simp only [beq_self_eq_true, mfind, keyEq]
      by_cases h : k' = k
      · simp [h]
      · have : (k' == k) = false := by simpa using h
        simp [h, this]
    · have h1 : (k == s) = false := by simpa using hb
      simp only [h1, mfind, keyEq, ih]
      by_cases h : k' = s
      · subst h
        have : ¬ k' = k := fun e => hb e.symm
        simp [this]
      · have : (k' == s) = false := by simpa using h
        simp [this]
theorem KI.find_put {j : IntKind} : ∀ {es : List (AV × AV × Nat)} (k k' : Int) (v : AV) (c : Nat), KI j es → mfind (.int j k') (mput (.int j k) v c es) = if k' = k then some (some v) else mfind (.int j k') es
  | [], k, k', v, c, _ => by
    simp only [mput, mfind, keyEq, beq_self_eq_true, if_true]
    by_cases h : k' = k
    · simp [h]
    · have : (k' == k) = false := by simpa using h
      simp [h, this]
  | (a, b, n) :: es, k, k', v, c, hk => by
    obtain ⟨s, hs⟩ := hk (a, b, n) List.mem_cons_self
    simp only at hs
    subst hs
    have ih := KI.find_put (j := j) (es := es) k k' v c (fun x hx => hk x (List.mem_cons_of_mem _ hx))
    simp only [mput, keyEq, beq_self_eq_true, if_true]
    by_cases hb : k = s
    · subst hb
      simp only [beq_self_eq_true, mfind, keyEq, if_true]
      by_cases h : k' = k
      · simp [h]
      · have : (k' == k) = false := by simpa using h
        simp [h, this]
    · have h1 : (k == s) = false := by simpa using hb
      simp only [h1, mfind, keyEq, ih, beq_self_eq_true, if_true]
      by_cases h : k' = s
      · subst h
        have : ¬ k' = k := fun e => hb e.symm
        simp [this]
      · have : (k' == s) = false := by simpa using h
        simp [this]

theorem ev_lookup {kd : Nat} {z : AV} {ok : Bool} {m k : Opd} {r : Nat} {kv : AV} {es : List (AV × AV × Nat)} {c : Nat} {f : Option AV} (hm : val e0 m = some (.mp r)) (hk : val e0 k = some kv) (hr : h.get r = some (.map es c)) (hkd : isKey kd kv = true) (hf : mfind kv es = some f) :
    evalOp e0 h (.lookup kd z ok m k) = some ((match f with | some v => if ok then .tup [v, .bool true] else v | none => if ok then .tup [z, .bool false] else z), e0, h) := by
  simp only [evalOp, hm, hk, hr, hkd, if_true, hf]
  cases f <;> rfl
theorem ev_mupd {kd : Nat} {m k x : Opd} {r : Nat} {kv : AV} {es : List (AV × AV × Nat)} {c : Nat} {f : Option AV} (hm : val e0 m = some (.mp r)) (hk : val e0 k = some kv) (hx : val e0 x = some v) (hr : h.get r = some (.map es c)) (hkd : isKey kd kv = true) (hf : mfind kv es = some f) :
    evalOp e0 h (.mupd kd m k x) = some (.tup [], e0, h.set r (.map (mput kv v c es) (match f with | some _ => c | none => c + 1))) := by
  simp only [evalOp, hm, hk, hx, hr, hkd, if_true, hf]
  cases f <;> rfl
/-- not reckoned with wrapping -/
def noAr : IOp → Bool
  | .bin .add _ _ | .bin .sub _ _ | .bin .mul _ _ | .bin .rem _ _ | .cvI _ _ | .un _ _ => false
  | _ => true
theorem si_opn {R : Env → Heap → Prop} (hn : noAr o = true) (hw : wanted e0 g = some true) (hev : evalOp e0 h o = some (v, e1, h')) (hf : freshS D e0 d o = true) (k : SI D C l R (putD e1 d v) h') : SI D C (.op d g o :: l) R e0 h := si_op hw hev hf k
theorem ev_cvU {x : Opd} {k : IntKind} {a : Int} (hx : val e0 x = some (.int k a)) (h1 : 0 ≤ a) (h2 : a < 18446744073709551616) : evalOp e0 h (.cvI .u64 x) = some (.int .u64 a, e0, h) := by
  simp only [evalOp, hx, wrap_u64 a h1 h2]
theorem ev_cvI {x : Opd} {k : IntKind} {a : Int} (hx : val e0 x = some (.int k a)) (h1 : -9223372036854775808 ≤ a) (h2 : a < 9223372036854775808) : evalOp e0 h (.cvI .i64 x) = some (.int .i64 a, e0, h) := by
  simp only [evalOp, hx, wrap_i64 a h1 h2]
theorem ev_not {x : Opd} {b : Bool} (hx : val e0 x = some (.bool b)) : evalOp e0 h (.un .not x) = some (.bool !b, e0, h) := by
  simp only [evalOp, hx, unop]
section shaped
variable {R : Env → Heap → Prop}
theorem si_inc {x : Opd} {k : Nat} (hw : wanted e0 g = some true) (hx : val e0 x = some (.int .i64 (k : Int))) (hk : k + 1 < 9223372036854775808) (kk : SI D C l R (putD e0 d (.int .i64 ((k + 1 : Nat) : Int))) h) : SI D C (.op d g (.bin .add x (.c (.int .i64 1))) :: l) R e0 h :=
  si_op hw (ev_inc hx hk) rfl kk
theorem si_dec {x : Opd} {k : Nat} (hw : wanted e0 g = some true) (hx : val e0 x = some (.int .i64 ((k + 1 : Nat) : Int))) (hk : k < 9223372036854775808) (kk : SI D C l R (putD e0 d (.int .i64 (k : Int))) h) : SI D C (.op d g (.bin .sub x (.c (.int .i64 1))) :: l) R e0 h :=
  si_op hw (ev_dec hx hk) rfl kk
theorem si_not {x : Opd} {b : Bool} (hw : wanted e0 g = some true) (hx : val e0 x = some (.bool b)) (kk : SI D C l R (putD e0 d (.bool !b)) h) : SI D C (.op d g (.un .not x) :: l) R e0 h :=
  si_op hw (ev_not hx) rfl kk
theorem si_load {n : Option Nat} {a : Opd} {r off : Nat} {cs : List AV} (hw : wanted e0 g = some true) (ha : val e0 a = some (.ptr r off)) (hg : h.get r = some (.cells cs)) (hc : cut cs off n = some v) (kk : SI D C l R (putD e0 d v) h) : SI D C (.op d g (.load n a) :: l) R e0 h :=
  si_op hw (ev_load ha hg hc) rfl kk
theorem si_chkload {d : Nat} {n : Option Nat} {a : Opd} {r off : Nat} {cs : List AV} (hw : wanted e0 g = some true) (ha : val e0 a = some (.ptr r off)) (hg : h.get r = some (.cells cs)) (hc : cut cs off n = some v) (hd : e0.get d = some v) (kk : SI D C l R e0 h) : SI D C (.chk d g (.load n a) :: l) R e0 h :=
  si_chk hw (ev_load ha hg hc) hd kk
theorem si_store {n : Nat} {a x : Opd} {r off : Nat} {cs cs' : List AV} (hw : wanted e0 g = some true) (hx : val e0 x = some v) (hn : v.cells.length = n) (hsc : v.cells.all AV.scal = true) (ha : val e0 a = some (.ptr r off)) (hg : h.get r = some (.cells cs)) (hc : splice cs off v.cells = some cs') (kk : SI D C l R (putD e0 d (.tup [])) (h.set r (.cells cs'))) : SI D C (.op d g (.store n a x) :: l) R e0 h :=
  si_op hw (ev_store hx hn hsc ha hg hc) rfl kk
theorem si_iaddr {sz : Nat} {x i : Opd} {c : Cap} {xs : List AV} {k : IntKind} {j : Nat} (hw : wanted e0 g = some true) (hx : val e0 x = some (.vs c xs)) (hi : val e0 i = some (.int k (j : Int))) (hj : xs[j]? = some v) (hsz : v.cells.length = sz) (kk : SI D C l R (putD e0 d (.ep v.cells 0)) h) : SI D C (.op d g (.iaddr sz x i) :: l) R e0 h :=
  si_op hw (ev_iaddr hx hi hj hsz) rfl kk
theorem si_add {x y : Opd} {a b c : Int} (hw : wanted e0 g = some true) (hx : val e0 x = some (.int .i64 a)) (hy : val e0 y = some (.int .i64 b)) (hc : a + b = c) (h1 : -9223372036854775808 ≤ c) (h2 : c < 9223372036854775808) (kk : SI D C l R (putD e0 d (.int .i64 c)) h) : SI D C (.op d g (.bin .add x y) :: l) R e0 h :=
  si_op hw (ev_add hx hy hc h1 h2) rfl kk
theorem si_rem {x y : Opd} {k : IntKind} {a b : Int} (hw : wanted e0 g = some true) (hx : val e0 x = some (.int k a)) (hy : val e0 y = some (.int k b)) (hb : b ≠ 0) (kk : SI D C l R (putD e0 d (.int k (a.tmod b))) h) : SI D C (.op d g (.bin .rem x y) :: l) R e0 h :=
  si_op hw (ev_rem hx hy hb) rfl kk
theorem si_cvU {x : Opd} {k : IntKind} {a : Int} (hw : wanted e0 g = some true) (hx : val e0 x = some (.int k a)) (h1 : 0 ≤ a) (h2 : a < 18446744073709551616) (kk : SI D C l R (putD e0 d (.int .u64 a)) h) : SI D C (.op d g (.cvI .u64 x) :: l) R e0 h :=
  si_op hw (ev_cvU hx h1 h2) rfl kk
theorem si_cvI {x : Opd} {k : IntKind} {a : Int} (hw : wanted e0 g = some true) (hx : val e0 x = some (.int k a)) (h1 : -9223372036854775808 ≤ a) (h2 : a < 9223372036854775808) (kk : SI D C l R (putD e0 d (.int .i64 a)) h) : SI D C (.op d g (.cvI .i64 x) :: l) R e0 h :=
  si_op hw (ev_cvI hx h1 h2) rfl kk
theorem si_lookup {kd : Nat} {z : AV} {ok : Bool} {m k : Opd} {r : Nat} {kv : AV} {es : List (AV × AV × Nat)} {c : Nat} {f : Option AV} (hw : wanted e0 g = some true) (hm : val e0 m = some (.mp r)) (hk : val e0 k = some kv) (hr : h.get r = some (.map es c)) (hkd : isKey kd kv = true) (hf : mfind kv es = some f)
    (kk : SI D C l R (putD e0 d (match f with | some v => if ok then .tup [v, .bool true] else v | none => if ok then .tup [z, .bool false] else z)) h) : SI D C (.op d g (.lookup kd z ok m k) :: l) R e0 h :=
  si_op hw (ev_lookup hm hk hr hkd hf) rfl kk
theorem si_mupd {kd : Nat} {m k x : Opd} {r : Nat} {kv : AV} {es : List (AV × AV × Nat)} {c : Nat} {f : Option AV} (hw : wanted e0 g = some true) (hm : val e0 m = some (.mp r)) (hk : val e0 k = some kv) (hx : val e0 x = some v) (hr : h.get r = some (.map es c)) (hkd : isKey kd kv = true) (hf : mfind kv es = some f)
    (kk : SI D C l R (putD e0 d (.tup [])) (h.set r (.map (mput kv v c es) (match f with | some _ => c | none => c + 1)))) : SI D C (.op d g (.mupd kd m k x) :: l) R e0 h :=
  si_op hw (ev_mupd hm hk hx hr hkd hf) rfl kk
end shaped
theorem lenOk_of {n : Nat} (hn : n < 1073741824) : lenOk n = true := by
  unfold lenOk
  exact decide_eq_true (by have : (2 : Nat) ^ 30 = 1073741824 := rfl
                           omega)
theorem appendV_nil {sz : Nat} {ag : Bool} {ys : List AV} (h4 : ys.length ≠ 0) : appendV h sz ag false .nils ys = some (.vs (.tok h.next ys.length) ys, h.new (.tip ys.length sz)) := by
  unfold appendV
  simp only [Bool.false_eq_true, if_false, h4]
theorem appendV_tok {sz : Nat} {ag : Bool} {xs ys : List AV} {t n : Nat} (h4 : ys.length ≠ 0) (ht : h.get t = some (.tip n sz)) (h0 : hdSz sz xs = true) : appendV h sz ag false (.vs (.tok t n) xs) ys = some (.vs (.tok t (n + ys.length)) (xs ++ ys), h.set t (.tip (n + ys.length) sz)) := by
  unfold appendV
  simp only [Bool.false_eq_true, if_false, h4, ht, h0, and_self, if_true]
theorem ev_append_nil {sz : Nat} {ag : Bool} {x y : Opd} {c : Cap} {ys : List AV} (hx : val e0 x = some .nils) (hy : val e0 y = some (.vs c ys)) (h1 : hdSz sz ys = true) (h2 : allScal ys = true) (h3 : ys.length < 1073741824) (h4 : ys.length ≠ 0) :
    evalOp e0 h (.append sz ag false false x y) = some (.vs (.tok h.next ys.length) (ys.map AV.er), e0, h.new (.tip ys.length sz)) := by
  have h5 : (ys.map AV.er).length ≠ 0 := by simpa using h4
  have h6 : lenOk (ys.length + (slen .nils).getD 0) = true := lenOk_of (by simpa [slen] using h3)
  have h7 := appendV_nil (h := h) (sz := sz) (ag := ag) h5
  rw [List.length_map] at h7
  simp only [evalOp, hx, hy, srcElems, elems, h1, if_true, h2, Bool.true_and, h6, Bool.false_eq_true, if_false, h7]
theorem ev_append_tok {sz : Nat} {ag : Bool} {x y : Opd} {c : Cap} {xs ys : List AV} {t n : Nat} (hx : val e0 x = some (.vs (.tok t n) xs)) (ht : h.get t = some (.tip n sz)) (h0 : hdSz sz xs = true) (hy : val e0 y = some (.vs c ys)) (h1 : hdSz sz ys = true) (h2 : allScal ys = true) (h3 : ys.length + xs.length < 1073741824) (h4 : ys.length ≠ 0) :
    evalOp e0 h (.append sz ag false false x y) = some (.vs (.tok t (n + ys.length)) (xs ++ ys.map AV.er), e0, h.set t (.tip (n + ys.length) sz)) := by
  have h5 : (ys.map AV.er).length ≠ 0 := by simpa using h4
  have h6 : lenOk (ys.length + (slen (.vs (.tok t n) xs)).getD 0) = true := lenOk_of (by simpa [slen] using h3)
  have h7 := appendV_tok (ag := ag) h5 ht h0
  rw [List.length_map] at h7
  simp only [evalOp, hx, hy, srcElems, elems, h1, if_true, h2, Bool.true_and, h6, Bool.false_eq_true, if_false, h7]
/-! what was emptied is known to be empty; at a loop this is forgotten -/
theorem EOn.kill (k : List Nat) (a : EOn D e0 e) : EOn (k ++ D) (Env.dels e0 k) (Env.dels e k) := by
  refine ⟨(a.dels k).le, fun d hd hn => ?_⟩
  rcases List.mem_append.1 hd with hd | hd
  · have : ∀ (k : List Nat) (e : Env), (d ∈ k ∨ e.get d = none) → (Env.dels e k).get d = none := by
      intro k
      induction k with
      | nil => intro e h; rcases h with h | h; cases h; exact h
      | cons i k ih =>
        intro e h
        refine ih (e.del i) ?_
        rcases h with h | h
        · rcases List.mem_cons.1 h with rfl | h
          · right; rw [Tr.get_del, if_pos rfl]
          · exact .inl h
        · right; rw [Tr.get_del]; split
          · rfl
          · exact h
    exact this k e (.inl hd)
  · exact (a.dels k).fr d hd hn
theorem si_nilK {k : List Nat} (hq : SQ (k ++ D) Q .normal (Env.dels e0 k) h) : SI D C [] (itemsP Q k) e0 h := ⟨fun e he => hq.run _ (he.kill k)⟩
theorem EOn.none (a : EOn D e0 e) : EOn [] e0 e := ⟨a.le, fun _ h => nomatch h⟩
theorem sq_loop0 {I : Nat → Env → Heap → Prop} {n : Nat} (m : Nat) (t : List (Nat × AV)) (hm : m < n) (ht : hasAll e0 t) (hi : I m (mkEnv t) h) : SQ D (loopP [] Q I n) .normal e0 h :=
  ⟨fun e he => ⟨m, mkEnv t, hm, (EOn.of (D := []) ht trivial).trans he.none, hi⟩⟩
theorem sw_loop0 {fns : Nat → Option IRFn} (hs : Sys fns C) {b : IR} (I : Nat → Env → Heap → Prop) (t : List (Nat × AV)) (n : Nat) (ht : hasAll e0 t) (hi : I n (mkEnv t) h) (hb : ∀ n e0 h, I n e0 h → SW [] C b (loopP [] Q I n) e0 h) : SW D C (.loop b) Q e0 h :=
  ⟨fun e he => (sw_weak (EOn.of (D := []) ht trivial) (sw_loop hs I hb hi)).run e he.none⟩
theorem si_lenV {R : Env → Heap → Prop} {x : Opd} {n : Nat} (hw : wanted e0 g = some true) (hx : val e0 x = some v) (hn : slen v = some n) (kk : SI D C l R (putD e0 d (.int .i64 n)) h) : SI D C (.op d g (.lenV x) :: l) R e0 h :=
  si_op (v := .int .i64 n) (e1 := e0) (h' := h) hw (by simp only [evalOp, hx, hn]) rfl kk
end
end Go.AM

set_option linter.unusedVariables false
set_option linter.unusedSimpArgs false
namespace Go.AM

/-! Slots as a list of what was written last. -/
abbrev V := List (Nat × Option AV)
def vget : V → Nat → Option AV
  | [], _ => none
  | (j, o) :: B, i => match Nat.beq i j with
    | true => o
    | false => vget B i
def toEnv : V → Env
  | [] => .lf
  | (i, some v) :: B => (toEnv B).put i v
  | (i, none) :: B => (toEnv B).del i
theorem toEnv_get : ∀ (B : V) (i : Nat), (toEnv B).get i = vget B i
  | [], i => Tr.get_lf i
  | (j, some v) :: B, i => by
    simp only [toEnv, Tr.get_put, vget]
    cases hb : Nat.beq i j with
    | true => rw [if_pos (Nat.eq_of_beq_eq_true hb).symm]
    | false => rw [if_neg (fun e => Nat.ne_of_beq_eq_false hb e.symm)]; exact toEnv_get B i
  | (j, none) :: B, i => by
    simp only [toEnv, Tr.get_del, vget]
    cases hb : Nat.beq i j with
    | true => rw [if_pos (Nat.eq_of_beq_eq_true hb).symm]
    | false => rw [if_neg (fun e => Nat.ne_of_beq_eq_false hb e.symm)]; exact toEnv_get B i
def consD (d : Option Nat) (v : AV) (B : V) : V := match d with
  | some d => (d, some v) :: B
  | none => B
theorem toEnv_consD {d : Option Nat} {v : AV} {B : V} : toEnv (consD d v B) = putD (toEnv B) d v := by cases d <;> rfl
def delsV : V → List Nat → V
  | B, [] => B
  | B, i :: k => delsV ((i, none) :: B) k
theorem toEnv_dels : ∀ (k : List Nat) (B : V), toEnv (delsV B k) = Env.dels (toEnv B) k
  | [], B => rfl
  | i :: k, B => toEnv_dels k ((i, none) :: B)
def initV : Nat → V → List AV → V
  | _, B, [] => B
  | n, B, v :: l => initV (n + 1) ((n, some v) :: B) l
theorem toEnv_init : ∀ (l : List AV) (n : Nat) (B : V), toEnv (initV n B l) = initEnv n (toEnv B) l
  | [], n, B => rfl
  | v :: l, n, B => toEnv_init l (n + 1) ((n, some v) :: B)
def valV (B : V) : Opd → Option AV
  | .t i => vget B i
  | .s i b => match vget B i with
    | some (.adr t off) => match Nat.beq t b with
      | true => match vget B b with | some _ => some (.adr b off) | none => none
      | false => none
    | _ => none
  | .l i => match vget B i with | some _ => some (.adr i 0) | none => none
  | .c v => some v
theorem valV_eq (B : V) (x : Opd) : val (toEnv B) x = valV B x := by
  cases x with
  | t i => exact toEnv_get B i
  | l i => simp only [val, valV, toEnv_get]; cases vget B i <;> rfl
  | c v => rfl
  | s i b =>
    simp only [val, valV, toEnv_get]
    cases vget B i with
    | none => rfl
    | some w =>
      cases w <;> try rfl
      rename_i t off
      simp only
      cases hb : Nat.beq t b with
      | true => rw [if_pos (Nat.eq_of_beq_eq_true hb)]; cases vget B b <;> rfl
      | false => rw [if_neg (Nat.ne_of_beq_eq_false hb)]
def pickV (B : V) : List Nat → List (Nat × AV)
  | [] => []
  | i :: l => match vget B i with
    | some v => (i, v) :: pickV B l
    | none => pickV B l
theorem pickV_mem {B : V} : ∀ {l : List Nat} {i : Nat} {v : AV}, (i, v) ∈ pickV B l → vget B i = some v
  | [], i, v, h => by cases h
  | j :: l, i, v, h => by
    simp only [pickV] at h
    split at h
    · rename_i u hu
      rcases List.mem_cons.1 h with h | h
      · cases h; exact hu
      · exact pickV_mem h
    · exact pickV_mem h
theorem pickV_le (B : V) (l : List Nat) : ELe (mkEnv (pickV B l)) (toEnv B) := fun i v hi => by
  rw [toEnv_get]; exact pickV_mem (mkEnv_mem hi)
def wantV (B : V) : Guard → Option Bool
  | none => some true
  | some (i, b) => match vget B i with
    | some (.bool x) => some (x == b)
    | some (.tup []) => some false
    | _ => none
theorem wantV_eq (B : V) (g : Guard) : wanted (toEnv B) g = wantV B g := by
  cases g with
  | none => rfl
  | some p =>
    obtain ⟨i, b⟩ := p
    simp only [wanted, wantV, toEnv_get]
    cases vget B i with
    | none => rfl
    | some w =>
      cases w <;> rfl
def freshV (D : List Nat) (B : V) (d : Option Nat) : IOp → Bool
  | .lalloc _ | .lbox _ => match d with
    | some d => (vget B d).isNone && D.contains d
    | none => true
  | _ => true
def isStore : IOp → Bool
  | .store _ _ _ => true
  | _ => false
def hasV (B : V) : List (Nat × AV) → Prop
  | [] => True
  | (i, v) :: l => vget B i = some v ∧ hasV B l
def mkV : List (Nat × AV) → V
  | [] => []
  | (i, v) :: l => (i, some v) :: mkV l
theorem toEnv_mkV : ∀ t : List (Nat × AV), toEnv (mkV t) = mkEnv t
  | [] => rfl
  | (i, v) :: t => by simp only [mkV, toEnv, mkEnv, toEnv_mkV t]
theorem hasV_all {B : V} : ∀ {t : List (Nat × AV)}, hasV B t → hasAll (toEnv B) t
  | [], _ => trivial
  | (i, v) :: t, h => ⟨by rw [toEnv_get]; exact h.1, hasV_all h.2⟩
def slotsR : List ResV → List Nat
  | [] => []
  | .tmp i :: l | .loc i _ :: l | .cell i _ :: l => i :: slotsR l
def slotsC : Callee → List Opd → List Nat
  | .fn _, l => l.flatMap sl
  | .dyn x, l => sl x ++ l.flatMap sl

section
variable {D : List Nat} {B : V} {e1 : Env} {h h' : Heap} {v u : AV} {o : IOp} {C : CallT} {l : List Item} {Q : Post} {g : Guard} {d : Option Nat} {R : Env → Heap → Prop}

theorem vi_op (hs : isStore o = false) (hn : noAr o = true) (hw : wantV B g = some true) (hev : evalOp (mkEnv (pickV B (slotsI o))) h o = some (v, e1, h')) (hf : freshV D B d o = true) (k : SI D C l R (toEnv (consD d v B)) h') : SI D C (.op d g o :: l) R (toEnv B) h := by
  have hn' : ∀ n a x, o ≠ .store n a x := fun n a x k => by rw [k] at hs; cases hs
  have h1 := eval_mono' (h := h) (pickV_le B _) hn' (by rw [hev]; exact fun k => nomatch k)
  rw [hev] at h1
  rw [toEnv_consD] at k
  refine si_op (e1 := toEnv B) (by rw [wantV_eq]; exact hw) h1 ?_ k
  unfold freshS
  unfold freshV at hf
  split <;> simp only at hf ⊢
  · split at hf <;> simp_all [toEnv_get]
  · split at hf <;> simp_all [toEnv_get]
theorem vi_off (hw : wantV B g = some false) (k : SI D C l R (toEnv (consD d (.tup []) B)) h) : SI D C (.op d g o :: l) R (toEnv B) h := by
  rw [toEnv_consD] at k
  exact si_off (by rw [wantV_eq]; exact hw) k
theorem vi_calloff {f : Callee} {args : List Opd} (hw : wantV B g = some false) (k : SI D C l R (toEnv (consD d (.tup []) B)) h) : SI D C (.call d g f args :: l) R (toEnv B) h := by
  rw [toEnv_consD] at k
  exact si_calloff (by rw [wantV_eq]; exact hw) k
theorem vi_chkoff {d : Nat} (hw : wantV B g = some false) (k : SI D C l R (toEnv B) h) : SI D C (.chk d g o :: l) R (toEnv B) h :=
  si_chkoff (by rw [wantV_eq]; exact hw) k
theorem vi_chk {d : Nat} (hs : isStore o = false) (hw : wantV B g = some true) (hev : evalOp (mkEnv (pickV B (slotsI o))) h o = some (v, e1, h')) (hd : vget B d = some v) (k : SI D C l R (toEnv B) h) : SI D C (.chk d g o :: l) R (toEnv B) h := by
  have hn' : ∀ n a x, o ≠ .store n a x := fun n a x k => by rw [k] at hs; cases hs
  have h1 := eval_mono' (h := h) (pickV_le B _) hn' (by rw [hev]; exact fun k => nomatch k)
  rw [hev] at h1
  exact si_chk (by rw [wantV_eq]; exact hw) h1 (by rw [toEnv_get]; exact hd) k
theorem vi_call {fns : Nat → Option IRFn} (hs : Sys fns C) {f : Callee} {args : List Opd} {f' : Nat} {vs : List AV} (hw : wantV B g = some true) (hc : callee (mkEnv (pickV B (slotsC f args))) f args = some (f', vs))
    (k : C f' vs h fun v h' => SI D C l R (toEnv (consD d v B)) h') : SI D C (.call d g f args :: l) R (toEnv B) h := by
  refine si_call hs (by rw [wantV_eq]; exact hw) (callee_mono (pickV_le B _) hc) ?_
  refine hs.mono _ _ _ _ _ k fun v h' hk => ?_
  rw [toEnv_consD] at hk
  exact hk
theorem vi_nil {k : List Nat} (hq : SQ (k ++ D) Q .normal (toEnv (delsV B k)) h) : SI D C [] (itemsP Q k) (toEnv B) h := by
  rw [toEnv_dels] at hq
  exact si_nilK hq
theorem vw_condT {c : Opd} {a b : IR} (hc : valV B c = some (.bool true)) (hi : SW D C a Q (toEnv B) h) : SW D C (.cond c a b) Q (toEnv B) h := sw_condT (by rw [valV_eq]; exact hc) hi
theorem vw_condF {c : Opd} {a b : IR} (hc : valV B c = some (.bool false)) (hi : SW D C b Q (toEnv B) h) : SW D C (.cond c a b) Q (toEnv B) h := sw_condF (by rw [valV_eq]; exact hc) hi
theorem vw_cond {c : Opd} {a b : IR} (t : Bool) (hc : valV B c = some (.bool t)) (h1 : t = true → SW D C a Q (toEnv B) h) (h2 : t = false → SW D C b Q (toEnv B) h) : SW D C (.cond c a b) Q (toEnv B) h :=
  sw_cond t (by rw [valV_eq]; exact hc) h1 h2
theorem vq_loop {I : Nat → V → Heap → Prop} {n : Nat} (m : Nat) (t : List (Nat × AV)) (hm : m < n) (ht : hasV B t) (hi : I m (mkV t) h) : SQ D (loopP [] Q (fun n e h => ∃ B, e = toEnv B ∧ I n B h) n) .normal (toEnv B) h :=
  sq_loop0 m t hm (hasV_all ht) ⟨mkV t, (toEnv_mkV t).symm, hi⟩
theorem vw_loop {fns : Nat → Option IRFn} (hs : Sys fns C) {b : IR} (I : Nat → V → Heap → Prop) (t : List (Nat × AV)) (n : Nat) (ht : hasV B t) (hi : I n (mkV t) h) (hb : ∀ n B h, I n B h → SW [] C b (loopP [] Q (fun n e h => ∃ B, e = toEnv B ∧ I n B h) n) (toEnv B) h) : SW D C (.loop b) Q (toEnv B) h :=
  sw_loop0 hs (fun n e h => ∃ B, e = toEnv B ∧ I n B h) t n (hasV_all ht) ⟨mkV t, (toEnv_mkV t).symm, hi⟩ (by rintro n e0 h ⟨B, rfl, hi⟩; exact hb n B h hi)
theorem vq_end {fn : IRFn} {Q : AV → Heap → Prop} {vs : List AV} (hr : results (mkEnv (pickV B (slotsR fn.results))) h fn.results = some vs) (hq : Q (fn.out (resultV vs)) h) : SQ D (endPost fn Q) .ret (toEnv B) h :=
  sq_end (results_mono (pickV_le B _) hr) hq
theorem vw_start {fns : Nat → Option IRFn} (hs : Sys fns C) {f : Nat} {fn : IRFn} {args : List AV} {Q : AV → Heap → Prop} (hf : fns f = some fn) (hl : Nat.ble args.length fn.nargs = true)
    (hw : SW [] C fn.body (endPost fn Q) (toEnv (initV 0 [] (if fn.keepArgs then args else args.map AV.er))) h) : C f args h Q := by
  rw [toEnv_init] at hw
  exact sw_start hs [] hf hl hw

theorem vi_inc {x : Opd} {k : Nat} (hw : wantV B g = some true) (hx : valV B x = some (.int .i64 (k : Int))) (hk : k + 1 < 9223372036854775808) (kk : SI D C l R (toEnv (consD d (.int .i64 ((k + 1 : Nat) : Int)) B)) h) : SI D C (.op d g (.bin .add x (.c (.int .i64 1))) :: l) R (toEnv B) h :=
  si_inc (by rw [wantV_eq]; exact hw) (by rw [valV_eq]; exact hx) hk (by rw [← toEnv_consD]; exact kk)
theorem vi_dec {x : Opd} {k : Nat} (hw : wantV B g = some true) (hx : valV B x = some (.int .i64 ((k + 1 : Nat) : Int))) (hk : k < 9223372036854775808) (kk : SI D C l R (toEnv (consD d (.int .i64 (k : Int)) B)) h) : SI D C (.op d g (.bin .sub x (.c (.int .i64 1))) :: l) R (toEnv B) h :=
  si_dec (by rw [wantV_eq]; exact hw) (by rw [valV_eq]; exact hx) hk (by rw [← toEnv_consD]; exact kk)
theorem vi_not {x : Opd} {b : Bool} (hw : wantV B g = some true) (hx : valV B x = some (.bool b)) (kk : SI D C l R (toEnv (consD d (.bool !b) B)) h) : SI D C (.op d g (.un .not x) :: l) R (toEnv B) h :=
  si_not (by rw [wantV_eq]; exact hw) (by rw [valV_eq]; exact hx) (by rw [← toEnv_consD]; exact kk)
theorem vi_load {n : Option Nat} {a : Opd} {r off : Nat} {cs : List AV} (hw : wantV B g = some true) (ha : valV B a = some (.ptr r off)) (hg : h.get r = some (.cells cs)) (hc : cut cs off n = some v) (kk : SI D C l R (toEnv (consD d v B)) h) : SI D C (.op d g (.load n a) :: l) R (toEnv B) h :=
  si_load (by rw [wantV_eq]; exact hw) (by rw [valV_eq]; exact ha) hg hc (by rw [← toEnv_consD]; exact kk)
theorem vi_chkload {d : Nat} {n : Option Nat} {a : Opd} {r off : Nat} {cs : List AV} (hw : wantV B g = some true) (ha : valV B a = some (.ptr r off)) (hg : h.get r = some (.cells cs)) (hc : cut cs off n = some v) (hd : vget B d = some v) (kk : SI D C l R (toEnv B) h) : SI D C (.chk d g (.load n a) :: l) R (toEnv B) h :=
  si_chkload (by rw [wantV_eq]; exact hw) (by rw [valV_eq]; exact ha) hg hc (by rw [toEnv_get]; exact hd) kk
theorem vi_store {n : Nat} {a x : Opd} {r off : Nat} {cs cs' : List AV} (hw : wantV B g = some true) (hx : valV B x = some v) (hn : v.cells.length = n) (hsc : v.cells.all AV.scal = true) (ha : valV B a = some (.ptr r off)) (hg : h.get r = some (.cells cs)) (hc : splice cs off v.cells = some cs') (kk : SI D C l R (toEnv (consD d (.tup []) B)) (h.set r (.cells cs'))) : SI D C (.op d g (.store n a x) :: l) R (toEnv B) h :=
  si_store (by rw [wantV_eq]; exact hw) (by rw [valV_eq]; exact hx) hn hsc (by rw [valV_eq]; exact ha) hg hc (by rw [← toEnv_consD]; exact kk)
/-- a store into a whole local variable -/
theorem vi_storeL {n t : Nat} {x : Opd} {cs cs' : List AV} (hx : valV B x = some v) (hn : v.cells.length = n) (hsc : v.cells.all AV.scal = true) (hg : vget B t = some (.agg cs)) (hc : splice cs 0 v.cells = some cs') (kk : SI D C l R (toEnv ((t, some (.agg cs')) :: B)) h) : SI D C (.op none none (.store n (.l t) x) :: l) R (toEnv B) h := by
  have ha : val (toEnv B) (.l t) = some (.adr t 0) := by simp only [val, toEnv_get, hg]
  have hev : evalOp (toEnv B) h (.store n (.l t) x) = some (.tup [], (toEnv B).put t (.agg cs'), h) := by
    simp only [evalOp, valV_eq, hx, adrOf, beq_self_eq_true, if_true, toEnv_get, hg, hc]
    rw [if_pos ⟨hn, hsc⟩]
    simp only [valV, hg, beq_self_eq_true, if_true, hc]
  exact si_op (d := none) rfl hev rfl kk
theorem vi_iaddr {sz : Nat} {x i : Opd} {c : Cap} {xs : List AV} {k : IntKind} {j : Nat} (hw : wantV B g = some true) (hx : valV B x = some (.vs c xs)) (hi : valV B i = some (.int k (j : Int))) (hj : xs[j]? = some v) (hsz : v.cells.length = sz) (kk : SI D C l R (toEnv (consD d (.ep v.cells 0) B)) h) : SI D C (.op d g (.iaddr sz x i) :: l) R (toEnv B) h :=
  si_iaddr (by rw [wantV_eq]; exact hw) (by rw [valV_eq]; exact hx) (by rw [valV_eq]; exact hi) hj hsz (by rw [← toEnv_consD]; exact kk)
theorem vi_add {x y : Opd} {a b c : Int} (hw : wantV B g = some true) (hx : valV B x = some (.int .i64 a)) (hy : valV B y = some (.int .i64 b)) (hc : a + b = c) (h1 : -9223372036854775808 ≤ c) (h2 : c < 9223372036854775808) (kk : SI D C l R (toEnv (consD d (.int .i64 c) B)) h) : SI D C (.op d g (.bin .add x y) :: l) R (toEnv B) h :=
  si_add (by rw [wantV_eq]; exact hw) (by rw [valV_eq]; exact hx) (by rw [valV_eq]; exact hy) hc h1 h2 (by rw [← toEnv_consD]; exact kk)
theorem vi_rem {x y : Opd} {k : IntKind} {a b : Int} (hw : wantV B g = some true) (hx : valV B x = some (.int k a)) (hy : valV B y = some (.int k b)) (hb : b ≠ 0) (kk : SI D C l R (toEnv (consD d (.int k (a.tmod b)) B)) h) : SI D C (.op d g (.bin .rem x y) :: l) R (toEnv B) h :=
  si_rem (by rw [wantV_eq]; exact hw) (by rw [valV_eq]; exact hx) (by rw [valV_eq]; exact hy) hb (by rw [← toEnv_consD]; exact kk)
theorem vi_cvU {x : Opd} {k : IntKind} {a : Int} (hw : wantV B g = some true) (hx : valV B x = some (.int k a)) (h1 : 0 ≤ a) (h2 : a < 18446744073709551616) (kk : SI D C l R (toEnv (consD d (.int .u64 a) B)) h) : SI D C (.op d g (.cvI .u64 x) :: l) R (toEnv B) h :=
  si_cvU (by rw [wantV_eq]; exact hw) (by rw [valV_eq]; exact hx) h1 h2 (by rw [← toEnv_consD]; exact kk)
theorem vi_cvI {x : Opd} {k : IntKind} {a : Int} (hw : wantV B g = some true) (hx : valV B x = some (.int k a)) (h1 : -9223372036854775808 ≤ a) (h2 : a < 9223372036854775808) (kk : SI D C l R (toEnv (consD d (.int .i64 a) B)) h) : SI D C (.op d g (.cvI .i64 x) :: l) R (toEnv B) h :=
  si_cvI (by rw [wantV_eq]; exact hw) (by rw [valV_eq]; exact hx) h1 h2 (by rw [← toEnv_consD]; exact kk)
theorem vi_lookup {kd : Nat} {z : AV} {ok : Bool} {m k : Opd} {r : Nat} {kv : AV} {es : List (AV × AV × Nat)} {c : Nat} {f : Option AV} (hw : wantV B g = some true) (hm : valV B m = some (.mp r)) (hk : valV B k = some kv) (hr : h.get r = some (.map es c)) (hkd : isKey kd kv = true) (hf : mfind kv es = some f)
    (kk : SI D C l R (toEnv (consD d (match f with | some v => if ok then .tup [v, .bool true] else v | none => if ok then .tup [z, .bool false] else z) B)) h) : SI D C (.op d g (.lookup kd z ok m k) :: l) R (toEnv B) h :=
  si_lookup (by rw [wantV_eq]; exact hw) (by rw [valV_eq]; exact hm) (by rw [valV_eq]; exact hk) hr hkd hf (by rw [← toEnv_consD]; exact kk)
theorem vi_mupd {kd : Nat} {m k x : Opd} {r : Nat} {kv : AV} {es : List (AV × AV × Nat)} {c : Nat} {f : Option AV} (hw : wantV B g = some true) (hm : valV B m = some (.mp r)) (hk : valV B k = some kv) (hx : valV B x = some v) (hr : h.get r = some (.map es c)) (hkd : isKey kd kv = true) (hf : mfind kv es = some f)
    (kk : SI D C l R (toEnv (consD d (.tup []) B)) (h.set r (.map (mput kv v c es) (match f with | some _ => c | none => c + 1)))) : SI D C (.op d g (.mupd kd m k x) :: l) R (toEnv B) h :=
  si_mupd (by rw [wantV_eq]; exact hw) (by rw [valV_eq]; exact hm) (by rw [valV_eq]; exact hk) (by rw [valV_eq]; exact hx) hr hkd hf (by rw [← toEnv_consD]; exact kk)
theorem vi_lenV {x : Opd} {n : Nat} (hw : wantV B g = some true) (hx : valV B x = some v) (hn : slen v = some n) (kk : SI D C l R (toEnv (consD d (.int .i64 n) B)) h) : SI D C (.op d g (.lenV x) :: l) R (toEnv B) h :=
  si_lenV (by rw [wantV_eq]; exact hw) (by rw [valV_eq]; exact hx) hn (by rw [← toEnv_consD]; exact kk)
theorem vi_append_nil {sz : Nat} {ag : Bool} {x y : Opd} {c : Cap} {ys : List AV} (hw : wantV B g = some true) (hx : valV B x = some .nils) (hy : valV B y = some (.vs c ys)) (h1 : hdSz sz ys = true) (h2 : allScal ys = true) (h3 : ys.length < 1073741824) (h4 : ys.length ≠ 0)
    (kk : SI D C l R (toEnv (consD d (.vs (.tok h.next ys.length) (ys.map AV.er)) B)) (h.new (.tip ys.length sz))) : SI D C (.op d g (.append sz ag false false x y) :: l) R (toEnv B) h :=
  si_op (by rw [wantV_eq]; exact hw) (ev_append_nil (by rw [valV_eq]; exact hx) (by rw [valV_eq]; exact hy) h1 h2 h3 h4) rfl (by rw [← toEnv_consD]; exact kk)
theorem vi_append_tok {sz : Nat} {ag : Bool} {x y : Opd} {c : Cap} {xs ys : List AV} {t n : Nat} (hw : wantV B g = some true) (hx : valV B x = some (.vs (.tok t n) xs)) (ht : h.get t = some (.tip n sz)) (h0 : hdSz sz xs = true) (hy : valV B y = some (.vs c ys)) (h1 : hdSz sz ys = true) (h2 : allScal ys = true) (h3 : ys.length + xs.length < 1073741824) (h4 : ys.length ≠ 0)
    (kk : SI D C l R (toEnv (consD d (.vs (.tok t (n + ys.length)) (xs ++ ys.map AV.er)) B)) (h.set t (.tip (n + ys.length) sz))) : SI D C (.op d g (.append sz ag false false x y) :: l) R (toEnv B) h :=
  si_op (by rw [wantV_eq]; exact hw) (ev_append_tok (by rw [valV_eq]; exact hx) ht h0 (by rw [valV_eq]; exact hy) h1 h2 h3 h4) rfl (by rw [← toEnv_consD]; exact kk)
theorem vi_opE {v' : AV} (hs : isStore o = false) (hn : noAr o = true) (hw : wantV B g = some true) (hev : evalOp (mkEnv (pickV B (slotsI o))) h o = some (v, e1, h')) (hf : freshV D B d o = true) (hv : v = v') (k : SI D C l R (toEnv (consD d v' B)) h') : SI D C (.op d g o :: l) R (toEnv B) h :=
  vi_op hs hn hw hev hf (by rw [hv]; exact k)
def lkV (ok : Bool) (z : AV) : Option AV → AV
  | some v => if ok then .tup [v, .bool true] else v
  | none => if ok then .tup [z, .bool false] else z
theorem vi_lookupE {v' : AV} {kd : Nat} {z : AV} {ok : Bool} {m k : Opd} {r : Nat} {kv : AV} {es : List (AV × AV × Nat)} {c : Nat} (f : Option AV) (hw : wantV B g = some true) (hm : valV B m = some (.mp r)) (hk : valV B k = some kv) (hr : h.get r = some (.map es c)) (hkd : isKey kd kv = true) (hf : mfind kv es = some f)
    (hv : lkV ok z f = v')
    (kk : SI D C l R (toEnv (consD d v' B)) h) : SI D C (.op d g (.lookup kd z ok m k) :: l) R (toEnv B) h := by
  subst hv
  refine vi_lookup hw hm hk hr hkd hf ?_
  cases f <;> exact kk
theorem vi_chklookup {v' : AV} {d : Nat} {kd : Nat} {z : AV} {ok : Bool} {m k : Opd} {r : Nat} {kv : AV} {es : List (AV × AV × Nat)} {c : Nat} (f : Option AV) (hw : wantV B g = some true) (hm : valV B m = some (.mp r)) (hk : valV B k = some kv) (hr : h.get r = some (.map es c)) (hkd : isKey kd kv = true) (hf : mfind kv es = some f)
    (hv : lkV ok z f = v') (hd : vget B d = some v')
    (kk : SI D C l R (toEnv B) h) : SI D C (.chk d g (.lookup kd z ok m k) :: l) R (toEnv B) h := by
  subst hv
  refine si_chk (by rw [wantV_eq]; exact hw) (ev_lookup (by rw [valV_eq]; exact hm) (by rw [valV_eq]; exact hk) hr hkd hf) ?_ kk
  rw [toEnv_get, hd]
  cases f <;> rfl
theorem vq_loop_x {D' : List Nat} {e0 : Env} {I : Nat → Env → Heap → Prop} {n i : Nat} (hi : SQ D Q (.exit i) e0 h) : SQ D (loopP D' Q I n) (.exit i) e0 h := ⟨fun e he => hi.run e he⟩
theorem vq_loop_r {D' : List Nat} {e0 : Env} {I : Nat → Env → Heap → Prop} {n : Nat} (hi : SQ D Q .ret e0 h) : SQ D (loopP D' Q I n) .ret e0 h := ⟨fun e he => hi.run e he⟩
end
end Go.AM

set_option linter.unusedVariables false
set_option linter.unusedSimpArgs false
namespace Go.AM
section
variable {D : List Nat} {B : V} {e1 : Env} {h h' : Heap} {v u : AV} {o : IOp} {C : CallT} {l : List Item} {Q : Post} {g : Guard} {d : Option Nat} {R : Env → Heap → Prop}
theorem vi_addU {x y : Opd} {a b c : Int} (hw : wantV B g = some true) (hx : valV B x = some (.int .u64 a)) (hy : valV B y = some (.int .u64 b)) (hc : a + b = c) (h1 : 0 ≤ c) (h2 : c < 18446744073709551616) (kk : SI D C l R (toEnv (consD d (.int .u64 c) B)) h) : SI D C (.op d g (.bin .add x y) :: l) R (toEnv B) h := by
  have h3 : IntKind.wrap .u64 (a + b) = c := by rw [hc, wrap_u64 _ h1 h2]
  refine si_op (v := .int .u64 c) (e1 := toEnv B) (h' := h) (by rw [wantV_eq]; exact hw) ?_ rfl (by rw [← toEnv_consD]; exact kk)
  simp only [evalOp, valV_eq, hx, hy, binop, arith, if_true, h3]
theorem vw_weak {ir : IR} (t : List (Nat × AV)) (ht : hasV B t) (hi : SW [] C ir Q (toEnv (mkV t)) h) : SW D C ir Q (toEnv B) h := by
  rw [toEnv_mkV] at hi
  exact ⟨fun e he => hi.run e ((EOn.of (D := []) (hasV_all ht) trivial).trans he.none)⟩
theorem vi_hbox {x : Opd} (hx : valV B x = some v) (kk : ∀ h', Only [] h h' → h'.next = h.next + 1 → h'.get h.next = some (.cells v.cells) → SI D C l R (toEnv (consD d (.ptr h.next 0) B)) h') : SI D C (.op d none (.hbox x) :: l) R (toEnv B) h := by
  refine si_op (v := .ptr h.next 0) (e1 := toEnv B) (h' := h.new (.cells v.cells)) rfl ?_ rfl ?_
  · simp only [evalOp, valV_eq, hx]
  · rw [← toEnv_consD]
    exact kk _ (Only.refl _ h).new rfl (Heap.get_new_same _ _)
theorem vi_halloc {cs : List AV} (kk : ∀ h', Only [] h h' → h'.next = h.next + 1 → h'.get h.next = some (.cells cs) → SI D C l R (toEnv (consD d (.ptr h.next 0) B)) h') : SI D C (.op d none (.halloc cs) :: l) R (toEnv B) h := by
  refine si_op (v := .ptr h.next 0) (e1 := toEnv B) (h' := h.new (.cells cs)) rfl rfl rfl ?_
  rw [← toEnv_consD]
  exact kk _ (Only.refl _ h).new rfl (Heap.get_new_same _ _)
theorem vi_storeH {n : Nat} {a x : Opd} {r off : Nat} {cs cs' : List AV} (hw : wantV B g = some true) (hx : valV B x = some v) (hn : v.cells.length = n) (hsc : v.cells.all AV.scal = true) (ha : valV B a = some (.ptr r off)) (hg : h.get r = some (.cells cs)) (hc : splice cs off v.cells = some cs')
    (kk : ∀ h', Only [r] h h' → h'.next = h.next → h'.get r = some (.cells cs') → SI D C l R (toEnv (consD d (.tup []) B)) h') : SI D C (.op d g (.store n a x) :: l) R (toEnv B) h :=
  vi_store hw hx hn hsc ha hg hc (kk _ ((Only.refl _ h).set (.inl (by simp))) rfl (Heap.get_set_same _ _ _))
theorem vi_mupdH {kd : Nat} {m k x : Opd} {r : Nat} {kv : AV} {es : List (AV × AV × Nat)} {c : Nat} {f : Option AV} (hw : wantV B g = some true) (hm : valV B m = some (.mp r)) (hk : valV B k = some kv) (hx : valV B x = some v) (hr : h.get r = some (.map es c)) (hkd : isKey kd kv = true) (hf : mfind kv es = some f)
    (kk : ∀ h' c', Only [r] h h' → h'.next = h.next → h'.get r = some (.map (mput kv v c es) c') → SI D C l R (toEnv (consD d (.tup []) B)) h') : SI D C (.op d g (.mupd kd m k x) :: l) R (toEnv B) h :=
  vi_mupd hw hm hk hx hr hkd hf (kk _ _ ((Only.refl _ h).set (.inl (by simp))) rfl (Heap.get_set_same _ _ _))
end
end Go.AM

set_option linter.unusedVariables false
set_option linter.unusedSimpArgs false
namespace Go.AM
open Go

/-! Calls that need no object: what is there stays. -/
mutual
def noRef : AV → Bool
  | .ptr _ _ | .hs _ _ _ _ | .mp _ => false
  | .vs (.tok _ _) _ => false
  | .vs _ xs => noRefL xs
  | .ep cs _ => noRefL cs
  | .fn _ a b => noRefL a && noRefL b
  | .ifc _ v => noRef v
  | .agg l | .tup l => noRefL l
  | _ => true
def noRefL : List AV → Bool
  | [] => true
  | v :: l => noRef v && noRefL l
end

mutual
theorem VRel.move {S S' : Sim} (hF : ∀ b o v, S.F b o = some v → S'.F b o = some v) : ∀ (v : AV) (c : Value), noRef v = true → VRel S v c → VRel S' v c
  | .bool b, c, _, k => by simp only [VRel] at *; exact k
  | .int _ _, c, _, k => by simp only [VRel] at *; exact k
  | .str s, c, _, k => by simp only [VRel] at *; exact k
  | .nilp, c, _, k => by simp only [VRel] at *; exact k
  | .ptr r off, c, h, k => by simp [noRef] at h
  | .ep cs off, c, h, k => by
    simp only [noRef] at h
    simp only [VRel] at *
    obtain ⟨b, o, hc, hm⟩ := k
    exact ⟨b, o, hc, VMem.move hF cs b o h hm⟩
  | .adr _ _, c, _, k => by simp only [VRel] at *
  | .nils, c, _, k => by simp only [VRel] at *; exact k
  | .vs cp xs, c, h, k => by
    simp only [VRel] at *
    obtain ⟨base, cap, hc, hl, ho, hx⟩ := k
    have hn : noRefL xs = true := by cases cp <;> simp only [noRef] at h <;> first | exact h | cases h
    refine ⟨base, cap, hc, hl, ?_, hx.imp id ?_⟩
    · cases cp <;> simp only [noRef] at h <;> first | exact ho | cases h
    · rintro ⟨b, o, sz, h1, h2, h3⟩
      exact ⟨b, o, sz, h1, h2, VEls.move hF xs b o sz hn h3⟩
  | .hs r off n sz, c, h, k => by simp [noRef] at h
  | .nilm, c, _, k => by simp only [VRel] at *; exact k
  | .mp r, c, h, k => by simp [noRef] at h
  | .fn f x y, c, h, k => by
    simp only [noRef, Bool.and_eq_true] at h
    simp only [VRel] at *
    obtain ⟨cx, cy, hc, hx, hy⟩ := k
    exact ⟨cx, cy, hc, VRelL.move hF x cx h.1 hx, VRelL.move hF y cy h.2 hy⟩
  | .nilf, c, _, k => by simp only [VRel] at *; exact k
  | .ifc t v, c, h, k => by
    simp only [noRef] at h
    simp only [VRel] at *
    obtain ⟨cv, hc, hv⟩ := k
    exact ⟨cv, hc, VRel.move hF v cv h hv⟩
  | .nili, c, _, k => by simp only [VRel] at *; exact k
  | .agg cs, c, h, k => by
    simp only [noRef] at h
    simp only [VRel] at *
    obtain ⟨l, hc, hl⟩ := k
    exact ⟨l, hc, VRelL.move hF cs l h hl⟩
  | .tup cs, c, h, k => by
    simp only [noRef] at h
    simp only [VRel] at *
    obtain ⟨l, hc, hl⟩ := k
    exact ⟨l, hc, VRelL.move hF cs l h hl⟩
theorem VRelL.move {S S' : Sim} (hF : ∀ b o v, S.F b o = some v → S'.F b o = some v) : ∀ (vs : List AV) (l : List Value), noRefL vs = true → VRelL S vs l → VRelL S' vs l
  | [], l, _, k => by simp only [VRelL] at *; exact k
  | v :: vs, l, h, k => by
    simp only [noRefL, Bool.and_eq_true] at h
    simp only [VRelL] at *
    obtain ⟨c, cs, hl, hv, hvs⟩ := k
    exact ⟨c, cs, hl, VRel.move hF v c h.1 hv, VRelL.move hF vs cs h.2 hvs⟩
theorem VMem.move {S S' : Sim} (hF : ∀ b o v, S.F b o = some v → S'.F b o = some v) : ∀ (vs : List AV) (b o : Nat), noRefL vs = true → VMem S vs b o → VMem S' vs b o
  | [], b, o, _, k => by simp only [VMem]
  | v :: vs, b, o, h, k => by
    simp only [noRefL, Bool.and_eq_true] at h
    simp only [VMem] at *
    obtain ⟨⟨c, hc, hv⟩, hvs⟩ := k
    exact ⟨⟨c, hF _ _ _ hc, VRel.move hF v c h.1 hv⟩, VMem.move hF vs b (o + 1) h.2 hvs⟩
theorem VEls.move {S S' : Sim} (hF : ∀ b o v, S.F b o = some v → S'.F b o = some v) : ∀ (xs : List AV) (b o sz : Nat), noRefL xs = true → VEls S xs b o sz → VEls S' xs b o sz
  | [], b, o, sz, _, k => by simp only [VEls]
  | x :: xs, b, o, sz, h, k => by
    simp only [noRefL, Bool.and_eq_true] at h
    cases x with
    | agg cs =>
      have h1 : noRefL cs = true := by have := h.1; simp only [noRef] at this; exact this
      simp only [VEls] at *
      exact ⟨k.1, VMem.move hF cs b o h1 k.2.1, VEls.move hF xs b (o + sz) sz h.2 k.2.2⟩
    | _ =>
      simp only [VEls] at *
      obtain ⟨h1, ⟨c, hc, hv⟩, h3⟩ := k
      exact ⟨h1, ⟨c, hF _ _ _ hc, VRel.move hF _ c h.1 hv⟩, VEls.move hF xs b (o + sz) sz h.2 h3⟩
end

section
variable {P : Program} {G : GTab}

/-- A call that is told at the empty heap, of values without objects, leaves every heap as it is. -/
theorem ACall.closed (hG : ∀ g cs, G g = some cs → noRefL cs = true) {f : Nat} {args : List AV} {u : AV} (ha : noRefL args = true) (hu : noRef u = true)
    (hc : ACall P G f args ⟨.lf, 0⟩ fun v _ => v = u) (h : Heap) (Q : AV → Heap → Prop) (hq : Q u h) : ACall P G f args h Q := by
  refine ⟨hc.1, fun S w cargs hw hrel => ?_⟩
  let S0 : Sim := ⟨fun _ => .none, fun _ => none, S.F⟩
  have hown : ∀ b, ¬ Owns S0 b := by
    rintro b (⟨r, base, lim, k⟩ | ⟨t, x, k, _⟩)
    · cases k
    · cases k
  have hw0 : WRel G S0 ⟨.lf, 0⟩ w := {
    obj := fun r x hx => by rw [Heap.get, Tr.get_lf] at hx; cases hx
    inj := fun r r' b x y x' y' k _ => by cases k
    tinj := fun t t' x x' k _ _ => by cases k
    rt := fun r b x y t z k _ => by cases k
    ob := fun b k => absurd k (hown b)
    Fc := fun b o v k => hw.Fc b o v k
    Fr := fun b o v r x y _ k => by cases k
    Ft := fun b o v t x _ k _ => by cases k
    nr := fun r _ => rfl
    nt := fun t _ => rfl
    no := fun r _ => Tr.get_lf r
    gl := fun g cs hg => VMem.move (S := S) (S' := S0) (fun _ _ _ k => k) cs g 0 (hG g cs hg) (hw.gl g cs hg) }
  refine (hc.2 S0 w cargs hw0 (VRelL.move (S := S) (S' := S0) (fun _ _ _ k => k) args cargs ha hrel)).mono ?_
  rintro r w' ⟨c, v, S1, h1, hr, rfl, he, hw1, hv⟩
  let S' : Sim := ⟨S.ρ, S.tk, S1.F⟩
  have hle : SimLe S S' := ⟨fun _ => .inl rfl, fun t x hx => ⟨x, hx, Nat.le_refl _, fun _ => rfl⟩, fun b o v k => he.le.F b o v k⟩
  have hsame : ∀ b, Owns S b → w'.heap[b]? = w.heap[b]? := fun b hb => he.same b (hw.ob b hb) (hown b)
  have hF : ∀ b o, S1.F b o ≠ none → S.F b o ≠ none ∨ w.heap.size ≤ b := fun b o k => by
    rcases he.F b o k with k | k | k
    · exact .inl k
    · exact absurd k (hown b)
    · exact .inr k
  refine ⟨c, v, S', h, hr, hq, ⟨hle, he.size, fun b hb _ => he.same b hb (hown b), fun b hb => .inl hb, fun b o k => (hF b o k).imp id .inr, he.os, he.tape, he.output⟩, ?_, VRel.move (S := S1) (S' := S') (fun _ _ _ k => k) v c hu hv⟩
  exact {
    obj := fun r x hx => (hw.obj r x hx).keep hle (fun b base lim k => ⟨k, hsame b (.inl ⟨r, base, lim, k⟩)⟩) (fun z k => ⟨k, hsame z.b (.inr ⟨r, z, k, rfl⟩)⟩)
    inj := hw.inj
    tinj := hw.tinj
    rt := hw.rt
    ob := fun b k => Nat.lt_of_lt_of_le (hw.ob b k) he.size
    Fc := fun b o v k => hw1.Fc b o v k
    Fr := fun b o v r x y k hl => by
      rcases hF b o (by rw [show S1.F b o = some v from k]; exact fun e => nomatch e) with h1 | h1
      · obtain ⟨v', hv'⟩ := Option.ne_none_iff_exists'.1 h1
        exact hw.Fr b o v' r x y hv' hl
      · have := hw.ob b (.inl ⟨r, x, y, hl⟩); omega
    Ft := fun b o v t x k ht hb => by
      rcases hF b o (by rw [show S1.F b o = some v from k]; exact fun e => nomatch e) with h1 | h1
      · obtain ⟨v', hv'⟩ := Option.ne_none_iff_exists'.1 h1
        exact hw.Ft b o v' t x hv' ht hb
      · have := hw.ob b (.inr ⟨t, x, ht, hb⟩); omega
    nr := hw.nr
    nt := hw.nt
    no := hw.no
    gl := fun g cs hg => VMem.mono hle cs g 0 (hw.gl g cs hg) }
end
end Go.AM

set_option linter.unusedVariables false
set_option linter.unusedSimpArgs false
namespace Go.AM
open Go
section
variable {P : Program} {G : GTab}

/-- An empty slice is nil or it is not. -/
theorem VRel.empty {S : Sim} {c : Value} (h : VRel S (.vs .unk []) c) : VRel S (.vs .nn []) c ∨ VRel S (.vs .nil0 []) c := by
  simp only [VRel] at h ⊢
  obtain ⟨base, cap, rfl, hl, _, hx⟩ := h
  cases base with
  | some a => exact .inl ⟨some a, cap, rfl, hl, rfl, .inl trivial⟩
  | none => exact .inr ⟨none, cap, rfl, hl, rfl, .inl trivial⟩
theorem ACall.empty {f : Nat} {h : Heap} {Q : AV → Heap → Prop} (h1 : ACall P G f [.vs .nn []] h Q) (h2 : ACall P G f [.vs .nil0 []] h Q) : ACall P G f [.vs .unk []] h Q := by
  refine ⟨h1.1, fun S w cargs hw hrel => ?_⟩
  simp only [VRelL] at hrel
  obtain ⟨c, cs, rfl, hc, rfl⟩ := hrel
  rcases hc.empty with hc | hc
  · exact h1.2 S w _ hw (by simp only [VRelL]; exact ⟨c, [], rfl, hc, rfl⟩)
  · exact h2.2 S w _ hw (by simp only [VRelL]; exact ⟨c, [], rfl, hc, rfl⟩)
/-- what is known of a result may be forgotten -/
theorem ACall.res {f : Nat} {args : List AV} {h : Heap} {u v : AV} {Q : AV → Heap → Prop} (hc : ACall P G f args h fun x h' => x = u ∧ Q v h') (huv : ∀ S c, VRel S u c → VRel S v c) : ACall P G f args h Q := by
  refine ⟨hc.1, fun S w cargs hw hrel => (hc.2 S w cargs hw hrel).mono ?_⟩
  rintro r w' ⟨c, x, S', h', hr, ⟨rfl, hq⟩, he, hw', hv⟩
  exact ⟨c, v, S', h', hr, hq, he, hw', huv S' c hv⟩
end
end Go.AM
