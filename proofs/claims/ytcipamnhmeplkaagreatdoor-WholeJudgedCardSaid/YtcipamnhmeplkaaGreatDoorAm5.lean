/- Own work. This text shows: every operation is carried out by the program. -/
import Derived.Test.YtcipamnhmeplkaaGreatDoorAm4
import Derived.Tactics
import Derived.Orders
set_option linter.unusedVariables false
set_option linter.unusedSimpArgs false
namespace Go.AM
open Go
section
variable {P : Program} {G : GTab} {A : Ann} {S S' S0 : Sim} {e e' : Env} {h h' : Heap} {a a' : Act} {w w' w0 : World} {o : Oper} {v : AV} {ip : IOp} {reg i : Nat}

/-- an operation was carried out, and the slots fit -/
def Step (P : Program) (A : Ann) (G : GTab) (S0 : Sim) (w0 : World) (S : Sim) (e : Env) (w : World) (a : Act) (o : Oper) (e' : Env) (h' : Heap) (v : AV) : Prop :=
  ∃ c w' S', ((execOp a.eval o).run P w = .ok (.value c) w' ∨ ((execOp a.eval o).run P w = .ok .skip w' ∧ c = undef)) ∧ FRel A G S0 w0 S' h' (putD e' o.dst v) (a.put o.dst c) w' ∧
    Frm A S e a w S' (putD e' o.dst v) (a.put o.dst c) w'

def Plain (A : Ann) (d : Option Nat) : Prop := ∀ k, d = some k → A.prom.contains k = false ∧ A.adrs.contains k = false

theorem plainD_some {d : Option Nat} {r : Option IOp} (h : plainD A d r = some ip) : r = some ip ∧ Plain A d := by
  unfold plainD at h
  split at h
  · cases h
  · rename_i hc
    refine ⟨h, fun k hk => ?_⟩
    subst hk
    simp only [isPd, isSd, Bool.or_eq_true, not_or, Bool.not_eq_true] at hc
    exact hc

theorem Step.of (hf : FRel A G S0 w0 S h e a w) (hd : ∀ d, o.dst = some d → d < A.ntmps) (hp : Plain A o.dst) (ho : Out P G S w h' v (execOp a.eval o)) : Step P A G S0 w0 S e w a o e h' v :=
  hf.out ho fun k hk => ⟨hd k hk, hp k hk⟩
theorem Step.ofPure (hf : FRel A G S0 w0 S h e a w) (hd : ∀ d, o.dst = some d → d < A.ntmps) (hp : Plain A o.dst) (ho : Pure P S w v (execOp a.eval o)) : Step P A G S0 w0 S e w a o e h v :=
  .of hf hd hp (ho.out hf.wr)

theorem mapM_some {α β : Type} {f : α → Option β} : ∀ {l : List α}, (∀ x ∈ l, (f x).isSome = true) → ∃ r, l.mapM f = some r
  | [], _ => ⟨[], rfl⟩
  | x :: l, h => by
    obtain ⟨r, hr⟩ := mapM_some (l := l) fun y hy => h y (by simp [hy])
    obtain ⟨y, hy⟩ := Option.isSome_iff_exists.1 (h x (by simp))
    exact ⟨y :: r, by simp [List.mapM_cons, hr, hy]⟩

section

theorem so_mov (hf : FRel A G S0 w0 S h e a w) (hd : ∀ d, o.dst = some d → d < A.ntmps) {x : Operand} (hop : o.op = .move x ∨ o.op = .assign x) (hc : plainD A o.dst ((opd G A x).map .mov) = some ip) (hev : evalOp e h ip = some (v, e', h')) : Step P A G S0 w0 S e w a o e' h' v := by
  obtain ⟨hc, hp⟩ := plainD_some hc
  obtain ⟨ox, hx, rfl⟩ := Option.map_eq_some_iff.1 hc
  simp only [evalOp] at hev
  split at hev
  · rename_i u hu
    cases hev
    exact .ofPure hf hd hp (snd_mov hop hx hf.er hf.wr hu)
  · cases hev

theorem so_pick (hf : FRel A G S0 w0 S h e a w) (hd : ∀ d, o.dst = some d → d < A.ntmps) {c x y : Operand} (hop : o.op = .pick c x y) (hc : compOp P G A reg i o.dst (.pick c x y) = some ip) (hev : evalOp e h ip = some (v, e', h')) : Step P A G S0 w0 S e w a o e' h' v := by
  simp only [compOp] at hc
  obtain ⟨hc, hp⟩ := plainD_some hc
  split at hc
  · rename_i oc ox oy h1 h2 h3
    cases hc
    simp only [evalOp] at hev
    split at hev
    · rename_i hb
      split at hev
      · rename_i u hu
        cases hev
        exact .ofPure hf hd hp (snd_pick (b := true) hop h1 h2 h3 hf.er hf.wr hb hu)
      · cases hev
    · rename_i hb
      split at hev
      · rename_i u hu
        cases hev
        exact .ofPure hf hd hp (snd_pick (b := false) hop h1 h2 h3 hf.er hf.wr hb hu)
      · cases hev
    · cases hev
  · cases hc

theorem so_alloc (hf : FRel A G S0 w0 S h e a w) (hd : ∀ d, o.dst = some d → d < A.ntmps) {t : TypeId} (hop : o.op = .alloc t) (hc : compOp P G A reg i o.dst (.alloc t) = some ip) (hev : evalOp e h ip = some (v, e', h'))
    (hfree : ((∃ z, ip = .lalloc z) ∨ ∃ x, ip = .lbox x) → ∀ d, o.dst = some d → A.prom.contains d = true → ∀ i off, e.get i ≠ some (.adr d off)) : Step P A G S0 w0 S e w a o e' h' v := by
  simp only [compOp] at hc
  split at hc
  · cases hc
  · rename_i hs
    split at hc
    · rename_i z hz
      split at hc
      · rename_i hc1
        cases hc
        by_cases hpd : isPd A o.dst = true
        · rw [if_pos hpd] at hev hfree
          simp only [evalOp] at hev
          cases hev
          obtain ⟨d, hdd⟩ : ∃ d, o.dst = some d := by
            cases hq : o.dst with
            | none => rw [hq] at hpd; simp [isPd] at hpd
            | some d => exact ⟨d, rfl⟩
          have hpr : A.prom.contains d = true := by rw [hdd] at hpd; exact hpd
          obtain ⟨ti, cz, h1, h2, h3⟩ := zero_rel hz
          obtain ⟨S', hf'⟩ := hf.loc (el := t) (hd d hdd) hpr (h3 S) (hfree (.inl ⟨_, rfl⟩) d hdd hpr)
          refine ⟨.pointer (some ⟨w.heap.size, 0, none⟩), _, S', .inl ?_, by rw [hdd]; exact hf'⟩
          simp only [execOp, hop]
          refine run_v ?_
          simp [Instr.alloc, zeroValue, typeInfo, h1, h2, newVar, newRow]
        · rw [if_neg hpd] at hev
          simp only [evalOp] at hev
          cases hev
          refine .of hf hd (fun k hk => ?_) (snd_halloc hop hz hf.wr)
          rw [hk] at hpd hs
          simp only [isPd, isSd, Bool.not_eq_true] at hpd hs
          exact ⟨hpd, hs⟩
      · cases hc
    · cases hc

theorem so_box (hf : FRel A G S0 w0 S h e a w) (hd : ∀ d, o.dst = some d → d < A.ntmps) {t : TypeId} {x : Operand} (hop : o.op = .box t x) (hc : compOp P G A reg i o.dst (.box t x) = some ip) (hev : evalOp e h ip = some (v, e', h'))
    (hfree : ((∃ z, ip = .lalloc z) ∨ ∃ x, ip = .lbox x) → ∀ d, o.dst = some d → A.prom.contains d = true → ∀ i off, e.get i ≠ some (.adr d off)) : Step P A G S0 w0 S e w a o e' h' v := by
  simp only [compOp] at hc
  split at hc
  · cases hc
  · rename_i hs
    split at hc
    · rename_i ox hx
      cases hc
      by_cases hpd : isPd A o.dst = true
      · rw [if_pos hpd] at hev hfree
        simp only [evalOp] at hev
        split at hev
        · rename_i u hu
          cases hev
          obtain ⟨d, hdd⟩ : ∃ d, o.dst = some d := by
            cases hq : o.dst with
            | none => rw [hq] at hpd; simp [isPd] at hpd
            | some d => exact ⟨d, rfl⟩
          have hpr : A.prom.contains d = true := by rw [hdd] at hpd; exact hpd
          obtain ⟨S', hf'⟩ := hf.loc (el := t) (hd d hdd) hpr (opd_rel hx hf.er hf.wr hu) (hfree (.inr ⟨_, rfl⟩) d hdd hpr)
          refine ⟨.pointer (some ⟨w.heap.size, 0, none⟩), _, S', .inl ?_, by rw [hdd]; exact hf'⟩
          simp only [execOp, hop]
          refine run_v ?_
          simp [Instr.box, newVar, newRow]
        · cases hev
      · rw [if_neg hpd] at hev
        simp only [evalOp] at hev
        split at hev
        · rename_i u hu
          cases hev
          refine .of hf hd (fun k hk => ?_) (snd_hbox hop hx hf.er hf.wr hu)
          rw [hk] at hpd hs
          simp only [isPd, isSd, Bool.not_eq_true] at hpd hs
          exact ⟨hpd, hs⟩
        · cases hev
    · cases hc

theorem so_build (hf : FRel A G S0 w0 S h e a w) (hd : ∀ d, o.dst = some d → d < A.ntmps) {t : TypeId} {ps : Array (Nat × Operand)} (hop : o.op = .build t ps) (hc : compOp P G A reg i o.dst (.build t ps) = some ip) (hev : evalOp e h ip = some (v, e', h')) : Step P A G S0 w0 S e w a o e' h' v := by
  simp only [compOp] at hc
  obtain ⟨hc, hp⟩ := plainD_some hc
  split at hc
  · rename_i z fs hz ht
    split at hc
    · rename_i hall
      obtain ⟨os, hos, rfl⟩ := Option.map_eq_some_iff.1 hc
      simp only [evalOp] at hev
      split at hev
      · rename_i cs hcs
        cases hev
        refine .ofPure hf hd hp (snd_buildS hop hz ht (mapM_some fun f hfm => ?_) hos hf.er hf.wr hcs)
        have := List.all_eq_true.1 hall f hfm
        simpa using this
      · cases hev
    · cases hc
  · rename_i z n el hz ht
    split at hc
    · rename_i hi
      obtain ⟨os, hos, rfl⟩ := Option.map_eq_some_iff.1 hc
      simp only [evalOp] at hev
      split at hev
      · rename_i cs hcs
        cases hev
        exact .ofPure hf hd hp (snd_buildA hop hz ht hi hos hf.er hf.wr hcs)
      · cases hev
    · cases hc
  · cases hc

theorem so_bslice (hf : FRel A G S0 w0 S h e a w) (hd : ∀ d, o.dst = some d → d < A.ntmps) {t : TypeId} {n : Nat} {ps : Array (Nat × Operand)} (hop : o.op = .buildSlice t n ps) (hc : compOp P G A reg i o.dst (.buildSlice t n ps) = some ip) (hev : evalOp e h ip = some (v, e', h')) : Step P A G S0 w0 S e w a o e' h' v := by
  simp only [compOp] at hc
  obtain ⟨hc, hp⟩ := plainD_some hc
  split at hc
  · rename_i el ht
    split at hc
    · rename_i z hz
      split at hc
      · rename_i hcond
        simp only [Bool.and_eq_true, decide_eq_true_eq, beq_iff_eq] at hcond
        obtain ⟨⟨h1, h2⟩, h3⟩ := hcond
        obtain ⟨os, hos, rfl⟩ := Option.map_eq_some_iff.1 hc
        simp only [evalOp] at hev
        split at hev
        · rename_i xs hxs
          have := snd_bslice (hp := isHp A reg i) hop hz ht h1 h2 h3 hos hf.er hf.wr hxs
          split at hev
          · rename_i hhp
            cases hev
            rw [hhp] at this
            exact .of hf hd hp (by simpa using this)
          · rename_i hhp
            cases hev
            simp only [Bool.not_eq_true] at hhp
            rw [hhp] at this
            exact .of hf hd hp (by simpa using this)
        · cases hev
      · cases hc
    · cases hc
  · cases hc

end
end
end Go.AM

set_option linter.unusedVariables false
set_option linter.unusedSimpArgs false
namespace Go.AM
open Go
section
variable {P : Program} {G : GTab} {A : Ann} {S S' S0 : Sim} {e e' : Env} {h h' : Heap} {a a' : Act} {w w' w0 : World} {o : Oper} {v : AV} {ip : IOp} {reg i : Nat}

theorem FRel.adrPut (hf : FRel A G S0 w0 S h e a w) {d t off b : Nat} (hd : d < A.ntmps) (hp : A.prom.contains d = false) (hs : A.adrs.contains d = true) (ht : A.prom.contains t = true) (hu : ∃ u, e.get t = some u) (hb : tm a t = .pointer (some ⟨b, 0, none⟩)) :
    FRel A G S0 w0 S h (e.put d (.adr t off)) (a.put (some d) (.pointer (some ⟨b, off, none⟩))) w :=
  ⟨hf.ext, hf.wr, hf.er.putAdr hd hp hs ht hu hb, low_put (Nat.lt_of_lt_of_le hd hf.er.size) hp hf.low⟩

/-- the answer of an operation that hands an address on -/
def AdrOk (A : Ann) (d : Option Nat) (b : Bool) : Prop := isPd A d = false ∧ isSd A d = b
theorem AdrOk.plain {d : Option Nat} (h : AdrOk A d false) : Plain A d := fun k hk => by
  subst hk
  exact ⟨h.1, h.2⟩

theorem Step.adr (hf : FRel A G S0 w0 S h e a w) (hd : ∀ d, o.dst = some d → d < A.ntmps) (hp : AdrOk A o.dst true) {t off b : Nat} (ht : A.prom.contains t = true) (hu : ∃ u, e.get t = some u) (hb : tm a t = .pointer (some ⟨b, 0, none⟩))
    (hrun : (execOp a.eval o).run P w = .ok (.value (.pointer (some ⟨b, off, none⟩))) w) : Step P A G S0 w0 S e w a o e h (.adr t off) := by
  cases hq : o.dst with
  | none => rw [hq] at hp; exact absurd hp.2 (by simp [isSd])
  | some d =>
    rw [hq] at hp
    refine ⟨_, w, S, .inl hrun, ?_⟩
    rw [hq]
    exact ⟨hf.adrPut (hd d hq) hp.1 hp.2 ht hu hb, .ext (.refl S w) (plain_locals fun k hk => by cases hk; exact ⟨Nat.lt_of_lt_of_le (hd d hq) hf.er.size, hp.1⟩)⟩

section

theorem so_load (hf : FRel A G S0 w0 S h e a w) (hd : ∀ d, o.dst = some d → d < A.ntmps) {t : TypeId} {x : Operand} (hop : o.op = .load t x) (hc : compOp P G A reg i o.dst (.load t x) = some ip) (hev : evalOp e h ip = some (v, e', h')) : Step P A G S0 w0 S e w a o e' h' v := by
  simp only [compOp] at hc
  obtain ⟨hc, hp⟩ := plainD_some hc
  split at hc
  · rename_i ox hx
    split at hc
    · rename_i hc1
      cases hc
      simp only [evalOp] at hev
      have hadr := fun {u : AV} (hu : val e ox = some u) => opdA_cases hx hf.er hf.wr hu
      split at hev
      · rename_i r off hv
        rcases hadr hv with ⟨_, hv⟩ | ⟨_, hv⟩ | ⟨_, _, _, _, hv, _⟩
        · split at hev
          · rename_i cs hg
            split at hev
            · rename_i u hu
              cases hev
              obtain ⟨b, base, lim, l, hρ, g1, g2⟩ := obj_row hf.wr hg
              simp only [VRel, hρ] at hv
              exact .ofPure hf hd hp (snd_load hop hv hc1 (cell1_under hc1) g1 g2 hu)
            · cases hev
          · cases hev
        · cases hv
        · cases hv
      · rename_i cs off hv
        rcases hadr hv with ⟨_, hv⟩ | ⟨_, hv⟩ | ⟨_, _, _, _, hv, _⟩
        · split at hev
          · rename_i u hu
            cases hev
            simp only [VRel] at hv
            obtain ⟨b, ob, hv, hm⟩ := hv
            obtain ⟨l, g1, g2⟩ := mem_row hf.wr hm
            exact .ofPure hf hd hp (snd_load hop hv hc1 (cell1_under hc1) g1 g2 hu)
          · cases hev
        · cases hv
        · cases hv
      · rename_i t off hv
        rcases hadr hv with ⟨_, hv⟩ | ⟨_, hv⟩ | ⟨_, t', off', b, hv, k1, _, k3, k4⟩
        · simp only [VRel] at hv
        · cases hv
        · cases hv
          split at hev
          · split at hev
            · rename_i u hu
              split at hev
              · rename_i y hy
                cases hev
                obtain ⟨_, l, el, fr, g1, g2, g3, g4⟩ := loc_row hf.er k1 hu k3
                exact .ofPure hf hd hp (snd_load (ob := 0) hop (by rw [Nat.zero_add]; exact k4) hc1 (cell1_under hc1) g2 g4 hy)
              · cases hev
            · cases hev
          · cases hev
      · cases hev
    · cases hc
  · cases hc

theorem so_store (hf : FRel A G S0 w0 S h e a w) (hd : ∀ d, o.dst = some d → d < A.ntmps) {t : TypeId} {x y : Operand} (hop : o.op = .store t x y) (hc : compOp P G A reg i o.dst (.store t x y) = some ip) (hev : evalOp e h ip = some (v, e', h')) : Step P A G S0 w0 S e w a o e' h' v := by
  simp only [compOp] at hc
  split at hc
  · cases hc
  · rename_i hdn
    have hdn : o.dst = none := by
      cases hq : o.dst with
      | none => rfl
      | some d => rw [hq] at hdn; simp at hdn
    have hp : Plain A o.dst := fun k hk => by rw [hdn] at hk; cases hk
    split at hc
    · rename_i ox oy hx hy
      split at hc
      · rename_i hc1
        cases hc
        have hi := cell1_known hc1
        simp only [evalOp] at hev
        have hadr := fun {u : AV} (hu : val e ox = some u) => opdA_cases hx hf.er hf.wr hu
        split at hev
        · rename_i u hu
          split at hev
          · rename_i hcond
            obtain ⟨hn, hsc⟩ := hcond
            split at hev
            · rename_i r off hv
              rcases hadr hv with ⟨_, hv⟩ | ⟨_, hv⟩ | ⟨_, _, _, _, hv, _⟩
              · split at hev
                · rename_i cs hg
                  split at hev
                  · rename_i cs' hs
                    cases hev
                    obtain ⟨b, base, lim, l, hρ, g1, g2⟩ := obj_row hf.wr hg
                    simp only [VRel, hρ] at hv
                    exact .of hf hd hp (snd_store (n := 0) hop hv hρ hy hi hf.er hf.wr hu hn hsc hg hs)
                  · cases hev
                · cases hev
              · cases hv
              · cases hv
            · rename_i t' off hv
              rcases hadr hv with ⟨_, hv⟩ | ⟨_, hv⟩ | ⟨_, t2, off', b, hv, k1, _, k3, k4⟩
              · simp only [VRel] at hv
              · cases hv
              · cases hv
                have h2 := opd_rel hy hf.er hf.wr hu
                obtain ⟨l, e1, e2⟩ := h2.cells
                have hsc' : ∀ v ∈ u.cells, v.scal = true := fun v hv => List.all_eq_true.1 hsc v hv
                have hsz : (a.eval y).cells.size = P.cellsOf t := by rw [e1, List.size_toArray, e2.len, hn]
                have fin : ∀ w', (storeCells ⟨b, off, none⟩ l).run P w = .ok () w' → (execOp a.eval o).run P w = .ok .skip w' := fun w' r1 => by
                  have e3 : execOp a.eval o = (do Instr.storeAt t (a.eval x) (a.eval y); pure Next.skip : Sem Next) := by simp only [execOp, hop]
                  rw [e3, k4]
                  simp only [Instr.storeAt, Instr.sureAddr, Sem.run_bind, Sem.run_pure, Result.andThen_ok, storeVar, run_sz hi, hsz, ne_eq, not_true, if_false, Sem.run_ite]
                  rw [e1]
                  simp only [r1, Result.andThen_ok]
                have go : ∀ u0 v1 cs', e.get t' = some u0 → splice u0.cells off u.cells = some cs' → v1.cells = cs' → Step P A G S0 w0 S e w a o (e.put t' v1) h (.tup []) := fun u0 v1 cs' q1 q2 q3 => by
                  obtain ⟨w', r1, hf'⟩ := hf.sto (P := P) k1 q1 k3 e2 hsc' q2 q3
                  refine ⟨undef, w', S, .inr ⟨fin w' r1, rfl⟩, ?_⟩
                  rw [hdn]
                  exact hf'
                split at hev
                case isFalse => cases hev
                split at hev
                · rename_i cs hg
                  split at hev
                  · rename_i cs' hs
                    cases hev
                    exact go _ _ cs' hg hs rfl
                  · cases hev
                · rename_i u0 hna hg
                  split at hev
                  · rename_i h0
                    split at hev
                    · rename_i u1 hu1
                      cases hev
                      have hu0 : u0.cells = [u0] := AV.cells_of_ne fun cs k => hna cs (by rw [k])
                      refine go u0 u1 [u1] hg ?_ (scal_cells (hsc' u1 (by rw [hu1]; simp)))
                      rw [hu0, hu1, h0]
                      simp [splice]
                    · cases hev
                  · cases hev
                · cases hev
            · cases hev
          · cases hev
        · cases hev
      · cases hc
    · cases hc

end
end
end Go.AM

set_option linter.unusedVariables false
set_option linter.unusedSimpArgs false
namespace Go.AM
open Go
section
variable {P : Program} {G : GTab} {A : Ann} {S S' S0 : Sim} {e e' : Env} {h h' : Heap} {a a' : Act} {w w' w0 : World} {o : Oper} {v : AV} {ip : IOp} {reg i : Nat}

theorem adrOk_of {d : Option Nat} {b c : Bool} (h : ¬ ((isPd A d || isSd A d != b) = true)) : AdrOk A d b := by
  simp only [Bool.or_eq_true, bne_iff_ne, ne_eq, not_or, Bool.not_eq_true, Decidable.not_not] at h
  exact h

/-- an operand of an operation that hands an address on -/
theorem opdA_plain {x : Operand} {ox : Opd} (ho : opdA G A x = some ox) (hn : isAdr ox = false) : opd G A x = some ox := by
  unfold opdA at ho
  split at ho
  · rename_i t
    split at ho
    · cases ho; simp [isAdr] at hn
    · rename_i h1
      split at ho
      · cases ho; simp [isAdr] at hn
      · rename_i h2
        cases ho
        unfold opd
        simp only
        rw [if_neg]
        simp only [Bool.or_eq_true, not_or]
        exact ⟨h1, h2⟩
  · exact ho

section

theorem so_nilchk (hf : FRel A G S0 w0 S h e a w) (hd : ∀ d, o.dst = some d → d < A.ntmps) {x : Operand} (hop : o.op = .nilCheck x) (hc : compOp P G A reg i o.dst (.nilCheck x) = some ip) (hev : evalOp e h ip = some (v, e', h')) : Step P A G S0 w0 S e w a o e' h' v := by
  simp only [compOp] at hc
  split at hc
  · rename_i ox hx
    split at hc
    · cases hc
    · rename_i hok
      cases hc
      have hok := adrOk_of (c := true) hok
      simp only [evalOp] at hev
      have plain : ∀ u, val e ox = some u → (∀ t off, u ≠ .adr t off) → ((∃ r off, u = .ptr r off) ∨ (∃ cs off, u = .ep cs off) ∨ (∃ f x y, u = .fn (.func f) x y)) → Step P A G S0 w0 S e w a o e h u := fun u hu h1 h2 => by
        rcases opdA_cases hx hf.er hf.wr hu with ⟨hn, hv⟩ | ⟨_, rfl⟩ | ⟨_, t, off, _, rfl, _⟩
        · rw [hn] at hok
          exact .ofPure hf hd hok.plain (snd_nilchk hop (opdA_plain hx hn) hf.er hf.wr hu h2)
        · rcases h2 with ⟨_, _, k⟩ | ⟨_, _, k⟩ | ⟨_, _, _, k⟩ <;> cases k
        · exact absurd rfl (h1 t off)
      split at hev
      · rename_i r off hv; cases hev; exact plain _ hv (fun _ _ k => by cases k) (.inl ⟨_, _, rfl⟩)
      · rename_i cs off hv; cases hev; exact plain _ hv (fun _ _ k => by cases k) (.inr (.inl ⟨_, _, rfl⟩))
      · rename_i t off hv
        cases hev
        rcases opdA_cases hx hf.er hf.wr hv with ⟨hn, hv'⟩ | ⟨_, hv'⟩ | ⟨hn, t', off', b, hv', k1, k2, k3, k4⟩
        · simp only [VRel] at hv'
        · cases hv'
        · cases hv'
          rw [hn] at hok
          exact .adr hf hd hok k1 k2 k3 (by simp only [execOp, hop, k4, Sem.run_pure])
      · rename_i f x' y' hv; cases hev; exact plain _ hv (fun _ _ k => by cases k) (.inr (.inr ⟨_, _, _, rfl⟩))
      · cases hev
  · cases hc

theorem so_faddr (hf : FRel A G S0 w0 S h e a w) (hd : ∀ d, o.dst = some d → d < A.ntmps) {t : TypeId} {x : Operand} {f : Nat} (hop : o.op = .fieldAddr t x f) (hc : compOp P G A reg i o.dst (.fieldAddr t x f) = some ip) (hev : evalOp e h ip = some (v, e', h')) : Step P A G S0 w0 S e w a o e' h' v := by
  simp only [compOp] at hc
  split at hc
  · rename_i ox fs hx ht
    split at hc
    · rename_i fl hfl
      split at hc
      · cases hc
      · rename_i hok
        cases hc
        rw [Bool.or_eq_true, not_or] at hok
        have hc0 : P.cellsOf fl.type ≠ 0 := by have := hok.2; simpa using this
        have hok := adrOk_of (c := true) hok.1
        simp only [evalOp] at hev
        split at hev
        · rename_i r off hv
          cases hev
          rcases opdA_cases hx hf.er hf.wr hv with ⟨hn, _⟩ | ⟨_, k⟩ | ⟨_, _, _, _, k, _⟩
          · rw [hn] at hok
            exact .ofPure hf hd hok.plain (snd_faddr hop (opdA_plain hx hn) hf.er hf.wr hv ht hfl hc0 (.inl ⟨_, _, rfl, rfl⟩))
          · cases k
          · cases k
        · rename_i cs off hv
          cases hev
          rcases opdA_cases hx hf.er hf.wr hv with ⟨hn, _⟩ | ⟨_, k⟩ | ⟨_, _, _, _, k, _⟩
          · rw [hn] at hok
            exact .ofPure hf hd hok.plain (snd_faddr hop (opdA_plain hx hn) hf.er hf.wr hv ht hfl hc0 (.inr ⟨_, _, rfl, rfl⟩))
          · cases k
          · cases k
        · rename_i t' off hv
          cases hev
          rcases opdA_cases hx hf.er hf.wr hv with ⟨hn, hv'⟩ | ⟨_, hv'⟩ | ⟨hn, t2, off', b, hv', k1, k2, k3, k4⟩
          · simp only [VRel] at hv'
          · cases hv'
          · cases hv'
            rw [hn] at hok
            refine .adr hf hd hok k1 k2 k3 ?_
            simp only [execOp, hop, k4]
            exact run_v (run_fieldAt ht hfl hc0)
        · cases hev
    · cases hc
  · cases hc

theorem so_iaddr (hf : FRel A G S0 w0 S h e a w) (hd : ∀ d, o.dst = some d → d < A.ntmps) {t : TypeId} {x ix : Operand} (hop : o.op = .indexAddr t x ix) (hc : compOp P G A reg i o.dst (.indexAddr t x ix) = some ip) (hev : evalOp e h ip = some (v, e', h')) : Step P A G S0 w0 S e w a o e' h' v := by
  simp only [compOp] at hc
  split at hc
  · rename_i n el ht
    split at hc
    · rename_i ox oj hx hj
      split at hc
      · cases hc
      · rename_i hok
        cases hc
        rw [Bool.or_eq_true, not_or, Bool.or_eq_true, not_or] at hok
        have hc0 : P.cellsOf el ≠ 0 := by have := hok.2; simpa using this
        have hi : (P.info? el).isSome = true := by
          cases k : P.info? el with
          | some _ => rfl
          | none => simp [Program.cellsOf, k] at hc0
        have hok := adrOk_of (c := true) hok.1.1
        simp only [evalOp] at hev
        split at hev
        · rename_i r off j hv hjv
          split at hev
          · rename_i hjn
            cases hev
            rcases opdA_cases hx hf.er hf.wr hv with ⟨hn, _⟩ | ⟨_, k⟩ | ⟨_, _, _, _, k, _⟩
            · rw [hn] at hok
              exact .ofPure hf hd hok.plain (snd_iaddrA hop (opdA_plain hx hn) hj hf.er hf.wr hv hjv ht hi hjn (.inl ⟨_, _, rfl, rfl⟩))
            · cases k
            · cases k
          · cases hev
        · rename_i cs off j hv hjv
          split at hev
          · rename_i hjn
            cases hev
            rcases opdA_cases hx hf.er hf.wr hv with ⟨hn, _⟩ | ⟨_, k⟩ | ⟨_, _, _, _, k, _⟩
            · rw [hn] at hok
              exact .ofPure hf hd hok.plain (snd_iaddrA hop (opdA_plain hx hn) hj hf.er hf.wr hv hjv ht hi hjn (.inr ⟨_, _, rfl, rfl⟩))
            · cases k
            · cases k
          · cases hev
        · rename_i t' off j hv hjv
          split at hev
          · rename_i hjn
            cases hev
            rcases opdA_cases hx hf.er hf.wr hv with ⟨hn, hv'⟩ | ⟨_, hv'⟩ | ⟨hn, t2, off', b, hv', k1, k2, k3, k4⟩
            · simp only [VRel] at hv'
            · cases hv'
            · cases hv'
              rw [hn] at hok
              refine .adr hf hd hok k1 k2 k3 ?_
              obtain ⟨kk, h3⟩ := nat_rel hj hf.er hf.wr hjv
              simp only [execOp, hop, k4, h3]
              exact run_v (run_indexAt_arr ht hi hjn)
          · cases hev
        · cases hev
    · cases hc
  · rename_i el ht
    obtain ⟨hc, hp⟩ := plainD_some hc
    split at hc
    · rename_i ox oj hx hj
      split at hc
      · rename_i hc0
        cases hc
        simp only [decide_eq_true_eq] at hc0
        have hi : (P.info? el).isSome = true := by
          cases k : P.info? el with
          | some _ => rfl
          | none => simp [Program.cellsOf, k] at hc0
        simp only [evalOp] at hev
        split at hev
        · rename_i c xs j hv hjv
          split at hev
          · rename_i u hu
            split at hev
            · rename_i hsz
              cases hev
              exact .ofPure hf hd hp (snd_iaddr hop hx hj hf.er hf.wr hv hjv ht hi (.inl ⟨_, _, _, rfl, hu, hsz, rfl⟩))
            · cases hev
          · cases hev
        · rename_i r off n sz' j hv hjv
          split at hev
          · rename_i hcond
            obtain ⟨hjn, rfl⟩ := hcond
            cases hev
            exact .ofPure hf hd hp (snd_iaddr hop hx hj hf.er hf.wr hv hjv ht hi (.inr ⟨_, _, _, rfl, hjn, rfl⟩))
          · cases hev
        · cases hev
      · cases hc
    · cases hc
  · cases hc

theorem so_field (hf : FRel A G S0 w0 S h e a w) (hd : ∀ d, o.dst = some d → d < A.ntmps) {t : TypeId} {x : Operand} {f : Nat} (hop : o.op = .field t x f) (hc : compOp P G A reg i o.dst (.field t x f) = some ip) (hev : evalOp e h ip = some (v, e', h')) : Step P A G S0 w0 S e w a o e' h' v := by
  simp only [compOp] at hc
  obtain ⟨hc, hp⟩ := plainD_some hc
  split at hc
  · rename_i ox fs hx ht
    split at hc
    · rename_i fl hfl
      split at hc
      · rename_i hc1
        cases hc
        simp only [evalOp] at hev
        split at hev
        · rename_i cs hv
          split at hev
          · rename_i u hu
            cases hev
            exact .ofPure hf hd hp (snd_field hop hx ht hfl hc1 (cell1_under hc1) hf.er hf.wr hv hu)
          · cases hev
        · cases hev
      · cases hc
    · cases hc
  · cases hc

theorem so_index (hf : FRel A G S0 w0 S h e a w) (hd : ∀ d, o.dst = some d → d < A.ntmps) {t : TypeId} {x ix : Operand} (hop : o.op = .index t x ix) (hc : compOp P G A reg i o.dst (.index t x ix) = some ip) (hev : evalOp e h ip = some (v, e', h')) : Step P A G S0 w0 S e w a o e' h' v := by
  simp only [compOp] at hc
  obtain ⟨hc, hp⟩ := plainD_some hc
  split at hc
  · rename_i ox oj hx hj ht
    cases hc
    simp only [evalOp] at hev
    split at hev
    · rename_i s j hv hjv
      split at hev
      · rename_i b hb
        cases hev
        exact .ofPure hf hd hp (snd_idxS hop hx hj ht hf.er hf.wr hv hjv hb)
      · cases hev
    · cases hev
  · rename_i ox oj n el hx hj ht
    split at hc
    · rename_i hc1
      cases hc
      simp only [evalOp] at hev
      split at hev
      · rename_i cs j hv hjv
        split at hev
        · rename_i hjn
          split at hev
          · rename_i u hu
            cases hev
            exact .ofPure hf hd hp (snd_idxA hop hx hj ht hc1 (cell1_under hc1) hf.er hf.wr hv hjv hjn hu)
          · cases hev
        · cases hev
      · cases hev
    · cases hc
  · cases hc

theorem so_binOp (hf : FRel A G S0 w0 S h e a w) (hd : ∀ d, o.dst = some d → d < A.ntmps) {op : BinOp} {t u : TypeId} {x y : Operand} (hop : o.op = .binOp op t x y u) (hc : compOp P G A reg i o.dst (.binOp op t x y u) = some ip) (hev : evalOp e h ip = some (v, e', h')) : Step P A G S0 w0 S e w a o e' h' v := by
  simp only [compOp] at hc
  obtain ⟨hc, hp⟩ := plainD_some hc
  have bin : ∀ ox oy, opd G A x = some ox → opd G A y = some oy → ip = .bin op ox oy → Step P A G S0 w0 S e w a o e' h' v := fun ox oy hx hy hip => by
    subst hip
    simp only [evalOp] at hev
    split at hev
    · rename_i p q hp' hq
      split at hev
      · rename_i r hr
        cases hev
        exact .ofPure hf hd hp (snd_bin hop hx hy hf.er hf.wr hp' hq hr)
      · cases hev
    · cases hev
  split at hc
  · rename_i ox oy k hx hy ht
    cases hc
    exact bin _ _ hx hy rfl
  · rename_i ox oy hx hy ht
    cases hc
    exact bin _ _ hx hy rfl
  · rename_i ox oy hx hy ht
    have eqB : ∀ neg, op = (if neg then .neq else .eql) → ip = .eqB neg ox oy → Step P A G S0 w0 S e w a o e' h' v := fun neg hn hip => by
      subst hip hn
      simp only [evalOp] at hev
      split at hev
      · rename_i p q hp' hq
        cases hev
        exact .ofPure hf hd hp (snd_eqB hop hx hy hf.er hf.wr ht hp' hq)
      · cases hev
    split at hc
    · cases hc; exact eqB false rfl rfl
    · cases hc; exact eqB true rfl rfl
    · cases hc
  · rename_i ox oy fs hx hy ht
    split at hc
    · rename_i ks hk
      split at hc
      · cases hc
      · rename_i hs
        simp only [Bool.not_eq_true] at hs
        have eqA : ∀ neg, op = (if neg then .neq else .eql) → ip = .eqA neg ks ox oy → Step P A G S0 w0 S e w a o e' h' v := fun neg hn hip => by
          subst hip hn
          simp only [evalOp] at hev
          split at hev
          · rename_i p q hp' hq
            split at hev
            · rename_i b hb
              cases hev
              exact .ofPure hf hd hp (snd_eqA hop hx hy hf.er hf.wr ht hs hk hp' hq hb)
            · cases hev
          · cases hev
        split at hc
        · cases hc; exact eqA false rfl rfl
        · cases hc; exact eqA true rfl rfl
        · cases hc
    · cases hc
  · rename_i ox n d hx hy ht hn1 hn2 hn3 hn4
    split at hc
    · rename_i hnil
      have eqN : ∀ neg, op = (if neg then .neq else .eql) → ip = .eqN neg ox n → Step P A G S0 w0 S e w a o e' h' v := fun neg hn hip => by
        subst hip hn
        simp only [evalOp] at hev
        split at hev
        · rename_i p hp'
          split at hev
          · rename_i b hb
            cases hev
            exact .ofPure hf hd hp (snd_eqN (ox := ox) hop (by assumption) (by assumption) hf.er hf.wr (by assumption) hnil hp' hb)
          · cases hev
        · cases hev
      split at hc
      · cases hc; exact eqN false rfl rfl
      · cases hc; exact eqN true rfl rfl
      · cases hc
    · cases hc
  · cases hc

theorem so_unOp (hf : FRel A G S0 w0 S h e a w) (hd : ∀ d, o.dst = some d → d < A.ntmps) {op : UnOp} {t : TypeId} {x : Operand} (hop : o.op = .unOp op t x) (hc : compOp P G A reg i o.dst (.unOp op t x) = some ip) (hev : evalOp e h ip = some (v, e', h')) : Step P A G S0 w0 S e w a o e' h' v := by
  simp only [compOp] at hc
  obtain ⟨hc, hp⟩ := plainD_some hc
  obtain ⟨ox, hx, rfl⟩ := Option.map_eq_some_iff.1 hc
  simp only [evalOp] at hev
  split at hev
  · rename_i p hv
    split at hev
    · rename_i r hr
      cases hev
      exact .ofPure hf hd hp (snd_un hop hx hf.er hf.wr hv hr)
    · cases hev
  · cases hev

theorem so_extract (hf : FRel A G S0 w0 S h e a w) (hd : ∀ d, o.dst = some d → d < A.ntmps) {x : Operand} {k : Nat} (hop : o.op = .extract x k) (hc : compOp P G A reg i o.dst (.extract x k) = some ip) (hev : evalOp e h ip = some (v, e', h')) : Step P A G S0 w0 S e w a o e' h' v := by
  simp only [compOp] at hc
  obtain ⟨hc, hp⟩ := plainD_some hc
  obtain ⟨ox, hx, rfl⟩ := Option.map_eq_some_iff.1 hc
  simp only [evalOp] at hev
  split at hev
  · rename_i l hv
    split at hev
    · rename_i r hr
      cases hev
      exact .ofPure hf hd hp (snd_extract hop hx hf.er hf.wr hv hr)
    · cases hev
  · cases hev

end
end
end Go.AM

set_option linter.unusedVariables false
set_option linter.unusedSimpArgs false
namespace Go.AM
open Go
section
variable {P : Program} {G : GTab} {A : Ann} {S S' S0 : Sim} {e e' : Env} {h h' : Heap} {a a' : Act} {w w' w0 : World} {o : Oper} {v : AV} {ip : IOp} {reg i : Nat}

theorem u8T_some {t : TypeId} (h : u8T P t = true) : P.underlying t = some (.int .u8) := by
  unfold u8T at h
  split at h
  · assumption
  · cases h

section

theorem so_convert (hf : FRel A G S0 w0 S h e a w) (hd : ∀ d, o.dst = some d → d < A.ntmps) {s d : TypeId} {x : Operand} (hop : o.op = .convert s d x) (hc : compOp P G A reg i o.dst (.convert s d x) = some ip) (hev : evalOp e h ip = some (v, e', h')) : Step P A G S0 w0 S e w a o e' h' v := by
  simp only [compOp] at hc
  obtain ⟨hc, hp⟩ := plainD_some hc
  split at hc
  · rename_i ox k1 k2 hx hs hdd
    cases hc
    simp only [evalOp] at hev
    split at hev
    · rename_i j n hv
      cases hev
      exact .ofPure hf hd hp (snd_cvI hop hs hdd hx hf.er hf.wr hv)
    · cases hev
  · rename_i ox hx hs hdd
    cases hc
    simp only [evalOp] at hev
    split at hev
    · rename_i b hv
      cases hev
      exact .ofPure hf hd hp (snd_cvSS hop hs hdd hx hf.er hf.wr hv)
    · cases hev
  · rename_i ox el hx hs hdd
    split at hc
    · rename_i hu
      cases hc
      simp only [evalOp] at hev
      split at hev
      · rename_i u hv
        split at hev
        · rename_i l hl
          split at hev
          · rename_i b hb
            cases hev
            exact .ofPure hf hd hp (snd_cvS hop hs (u8T_some hu) hdd hx hf.er hf.wr hv hl hb)
          · cases hev
        · cases hev
      · cases hev
    · cases hc
  · rename_i ox el hx hs hdd
    split at hc
    · rename_i hu
      cases hc
      simp only [evalOp] at hev
      split at hev
      · rename_i b hv
        cases hev
        exact .of hf hd hp (snd_cvB hop hs hdd (u8T_some hu) hx hf.er hf.wr hv)
      · cases hev
    · cases hc
  · cases hc

theorem so_iface (hf : FRel A G S0 w0 S h e a w) (hd : ∀ d, o.dst = some d → d < A.ntmps) {t : TypeId} {x : Operand} (hop : o.op = .makeInterface t x) (hc : compOp P G A reg i o.dst (.makeInterface t x) = some ip) (hev : evalOp e h ip = some (v, e', h')) : Step P A G S0 w0 S e w a o e' h' v := by
  simp only [compOp] at hc
  obtain ⟨hc, hp⟩ := plainD_some hc
  split at hc
  · cases hc
  · rename_i d hn ht
    obtain ⟨ox, hx, rfl⟩ := Option.map_eq_some_iff.1 hc
    simp only [evalOp] at hev
    split at hev
    · rename_i u hv
      cases hev
      exact .ofPure hf hd hp (snd_iface hop (by assumption) (fun m k => by simp_all) hx hf.er hf.wr hv)
    · cases hev
  · cases hc

theorem so_mkfn (hf : FRel A G S0 w0 S h e a w) (hd : ∀ d, o.dst = some d → d < A.ntmps) {f : Fn} {fi ca : Array Operand} (hop : o.op = .makeFunc f fi ca) (hc : compOp P G A reg i o.dst (.makeFunc f fi ca) = some ip) (hev : evalOp e h ip = some (v, e', h')) : Step P A G S0 w0 S e w a o e' h' v := by
  simp only [compOp] at hc
  obtain ⟨hc, hp⟩ := plainD_some hc
  split at hc
  · rename_i l m hl hm
    cases hc
    simp only [evalOp] at hev
    split at hev
    · rename_i va vb ha hb
      cases hev
      exact .ofPure hf hd hp (snd_mkfn hop hl hm hf.er hf.wr ha hb)
    · cases hev
  · cases hc

theorem so_mkmap (hf : FRel A G S0 w0 S h e a w) (hd : ∀ d, o.dst = some d → d < A.ntmps) {t : TypeId} (hop : o.op = .makeMap t none) (hc : compOp P G A reg i o.dst (.makeMap t none) = some ip) (hev : evalOp e h ip = some (v, e', h')) : Step P A G S0 w0 S e w a o e' h' v := by
  simp only [compOp] at hc
  obtain ⟨hc, hp⟩ := plainD_some hc
  cases hc
  simp only [evalOp] at hev
  cases hev
  exact .of hf hd hp (snd_mkmap hop hf.wr)

theorem so_mkslice (hf : FRel A G S0 w0 S h e a w) (hd : ∀ d, o.dst = some d → d < A.ntmps) {t : TypeId} {l c : Operand} (hop : o.op = .makeSlice t l c) (hc : compOp P G A reg i o.dst (.makeSlice t l c) = some ip) (hev : evalOp e h ip = some (v, e', h')) : Step P A G S0 w0 S e w a o e' h' v := by
  simp only [compOp] at hc
  obtain ⟨hc, hp⟩ := plainD_some hc
  split at hc
  · rename_i el ol oc ht hl hcc
    split at hc
    · rename_i z hz
      split at hc
      · rename_i hcond
        simp only [Bool.and_eq_true, beq_iff_eq] at hcond
        cases hc
        simp only [evalOp] at hev
        split at hev
        · rename_i n m hn hm
          split at hev
          · rename_i hnm
            have key := fun r hr hk => snd_mkslice (r := r) (isHp A reg i) hop hl hcc hz ht hcond.1 hcond.2 hf.er hf.wr hn hm hnm.1 hnm.2 hr hk
            by_cases hhp : isHp A reg i = true
            · rw [if_pos hhp] at hev
              split at hev
              · rename_i heq
                cases hev
                exact .of hf hd hp (key (_, _) (by rw [if_pos hhp]; rfl) (.inl heq))
              · cases hev
            · rw [if_neg hhp] at hev
              simp only [Bool.not_eq_true] at hhp
              split at hev
              · rename_i heq
                cases hev
                exact .of hf hd hp (key (_, _) (by rw [if_neg (by rw [hhp]; simp), if_pos heq]) (.inl heq))
              · rename_i hne
                split at hev
                · rename_i h0
                  cases hev
                  refine .of hf hd hp (key (_, _) (by rw [if_neg (by rw [hhp]; simp), if_neg hne]; rfl) (.inr ⟨hhp, h0⟩))
                · cases hev
          · cases hev
        · cases hev
      · cases hc
    · cases hc
  · cases hc

theorem so_slice (hf : FRel A G S0 w0 S h e a w) (hd : ∀ d, o.dst = some d → d < A.ntmps) {t : TypeId} {x : Operand} {lo hi mx : Option Operand} (hop : o.op = .slice t x lo hi mx) (hc : compOp P G A reg i o.dst (.slice t x lo hi mx) = some ip) (hev : evalOp e h ip = some (v, e', h')) : Step P A G S0 w0 S e w a o e' h' v := by
  simp only [compOp] at hc
  obtain ⟨hc, hp⟩ := plainD_some hc
  split at hc
  · rename_i ox ol oh om hx hl hh hm ht
    split at hc
    · cases hc
    · rename_i hmn
      cases hc
      have hmx : mx = none := by
        rcases optO_some hm with ⟨h1, _⟩ | ⟨_, _, _, h2, _⟩
        · exact h1
        · rw [h2] at hmn; simp at hmn
      subst hmx
      simp only [evalOp] at hev
      split at hev
      · rename_i s hv
        split at hev
        · rename_i l m hlv hmv
          split at hev
          · rename_i hcond
            cases hev
            exact .ofPure hf hd hp (snd_sliceS hop hx hl hh ht hf.er hf.wr hv hlv hmv hcond.1 hcond.2)
          · cases hev
        · cases hev
      · cases hev
  · rename_i ox ol oh om el hx hl hh hm ht
    split at hc
    · rename_i hcond
      cases hc
      simp only [Bool.and_eq_true, decide_eq_true_eq, Bool.or_eq_true] at hcond
      have hmx : om.isSome = true → oh.isSome = true := fun k => by
        rcases hcond.2 with k2 | k2
        · rw [Option.isNone_iff_eq_none] at k2; rw [k2] at k; cases k
        · exact k2
      have key := fun u (hv : val e ox = some u) => snd_sliceV (P := P) (v := u) (v' := v) hop hx hl hh hm ht hcond.1 hmx hf.er hf.wr hv
      simp only [evalOp] at hev
      split at hev
      · rename_i hv
        split at hev
        · rename_i q1 q2 q3
          cases hev
          exact .ofPure hf hd hp (key _ hv (.inl ⟨rfl, rfl, q1, q2, q3⟩))
        · cases hev
      · rename_i c xs hv
        split at hev
        · rename_i l m k q1 q2 q3
          split at hev
          · rename_i hcd
            cases hev
            exact .ofPure hf hd hp (key _ hv (.inr (.inl ⟨c, xs, l, m, k, rfl, q1, q2, q3, hcd.1, hcd.2.1, hcd.2.2.1, hcd.2.2.2, rfl⟩)))
          · cases hev
        · cases hev
      · rename_i r off n sz' hv
        split at hev
        · rename_i l m q1 q2
          split at hev
          · rename_i hcd
            obtain ⟨h1, h2, h3, rfl⟩ := hcd
            cases hev
            exact .ofPure hf hd hp (key _ hv (.inr (.inr ⟨r, off, n, l, m, rfl, q1, q2, h1, h2, Option.isNone_iff_eq_none.1 h3, rfl⟩)))
          · cases hev
        · cases hev
      · cases hev
    · cases hc
  · cases hc

theorem so_lookup (hf : FRel A G S0 w0 S h e a w) (hd : ∀ d, o.dst = some d → d < A.ntmps) {t : TypeId} {m k : Operand} {ok : Bool} (hop : o.op = .lookup t m k ok) (hc : compOp P G A reg i o.dst (.lookup t m k ok) = some ip) (hev : evalOp e h ip = some (v, e', h')) : Step P A G S0 w0 S e w a o e' h' v := by
  simp only [compOp] at hc
  obtain ⟨hc, hp⟩ := plainD_some hc
  split at hc
  · rename_i om ok' kt el hm hk ht
    split at hc
    · rename_i z hz
      split at hc
      · rename_i kd hkd
        cases hc
        simp only [evalOp] at hev
        split at hev
        · rename_i kv hmv hkv
          split at hev
          · rename_i hik
            cases hev
            exact .ofPure hf hd hp (snd_lookup hop hm hk ht hz hkd hf.er hf.wr hmv hkv hik (.inl ⟨rfl, rfl⟩))
          · cases hev
        · rename_i r kv hmv hkv
          split at hev
          · rename_i es clk hg
            split at hev
            · rename_i hik
              split at hev
              · rename_i u hfi
                cases hev
                exact .ofPure hf hd hp (snd_lookup hop hm hk ht hz hkd hf.er hf.wr hmv hkv hik (.inr ⟨_, _, _, some u, rfl, hg, hfi, rfl⟩))
              · rename_i hfi
                cases hev
                exact .ofPure hf hd hp (snd_lookup hop hm hk ht hz hkd hf.er hf.wr hmv hkv hik (.inr ⟨_, _, _, none, rfl, hg, hfi, rfl⟩))
              · cases hev
            · cases hev
          · cases hev
        · cases hev
      · cases hc
    · cases hc
  · cases hc

theorem so_mupd (hf : FRel A G S0 w0 S h e a w) (hd : ∀ d, o.dst = some d → d < A.ntmps) {t : TypeId} {m k x : Operand} (hop : o.op = .mapUpdate t m k x ∨ o.op = .insert t m k x) (hc : compOp P G A reg i o.dst (.mapUpdate t m k x) = some ip) (hev : evalOp e h ip = some (v, e', h')) : Step P A G S0 w0 S e w a o e' h' v := by
  simp only [compOp] at hc
  split at hc
  · cases hc
  · rename_i hdn
    have hp : Plain A o.dst := fun k hk => by rw [hk] at hdn; simp at hdn
    split at hc
    · rename_i om ok' ox kt el hm hk hx ht
      split at hc
      · rename_i kd hkd
        cases hc
        simp only [evalOp] at hev
        split at hev
        · rename_i r kv vv hmv hkv hxv
          split at hev
          · rename_i es clk hg
            split at hev
            · rename_i hik
              split at hev
              · rename_i u hfi
                cases hev
                exact .of hf hd hp (snd_mupd hop hm hk hx ht hkd hf.er hf.wr hmv hkv hxv hik hg hfi)
              · rename_i hfi
                cases hev
                exact .of hf hd hp (snd_mupd hop hm hk hx ht hkd hf.er hf.wr hmv hkv hxv hik hg hfi)
              · cases hev
            · cases hev
          · cases hev
        · cases hev
      · cases hc
    · cases hc

theorem so_range (hf : FRel A G S0 w0 S h e a w) (hd : ∀ d, o.dst = some d → d < A.ntmps) {t : TypeId} {x : Operand} (hop : o.op = .range t x) (hc : compOp P G A reg i o.dst (.range t x) = some ip) (hev : evalOp e h ip = some (v, e', h')) : Step P A G S0 w0 S e w a o e' h' v := by
  simp only [compOp] at hc
  obtain ⟨hc, hp⟩ := plainD_some hc
  split at hc
  · rename_i ox hx ht
    cases hc
    simp only [evalOp] at hev
    split at hev
    · rename_i s hv
      cases hev
      exact .of hf hd hp (snd_rngS hop ht hx hf.er hf.wr hv)
    · cases hev
  · rename_i ox kt el hx ht
    cases hc
    simp only [evalOp] at hev
    split at hev
    · rename_i hv
      cases hev
      exact .of hf hd hp (snd_rngM hop ht hx hf.er hf.wr hv (.inl ⟨rfl, rfl⟩))
    · rename_i r hv
      split at hev
      · rename_i es c hg
        cases hev
        exact .of hf hd hp (snd_rngM hop ht hx hf.er hf.wr hv (.inr ⟨_, _, _, rfl, hg, rfl⟩))
      · cases hev
    · cases hev
  · cases hc

theorem so_nextS (hf : FRel A G S0 w0 S h e a w) (hd : ∀ d, o.dst = some d → d < A.ntmps) {it : Operand} (hop : o.op = .next it true) (hc : compOp P G A reg i o.dst (.next it true) = some ip) (hev : evalOp e h ip = some (v, e', h')) : Step P A G S0 w0 S e w a o e' h' v := by
  simp only [compOp] at hc
  obtain ⟨hc, hp⟩ := plainD_some hc
  obtain ⟨ox, hx, rfl⟩ := Option.map_eq_some_iff.1 hc
  simp only [evalOp] at hev
  split at hev
  · rename_i r hv
    split at hev
    · rename_i s p hg
      split at hev
      · rename_i b hb
        split at hev
        · rename_i hlt
          cases hev
          exact .of hf hd hp (snd_nextS hop hx hf.er hf.wr hv hg (.inl ⟨b, hb, hlt, rfl, rfl⟩))
        · cases hev
      · rename_i hb
        cases hev
        exact .of hf hd hp (snd_nextS hop hx hf.er hf.wr hv hg (.inr ⟨hb, rfl, rfl⟩))
    · cases hev
  · cases hev

theorem so_entry (hf : FRel A G S0 w0 S h e a w) (hd : ∀ d, o.dst = some d → d < A.ntmps) {it : Operand} (hop : o.op = .entry it) (hc : compOp P G A reg i o.dst (.entry it) = some ip) (hev : evalOp e h ip = some (v, e', h')) : Step P A G S0 w0 S e w a o e' h' v := by
  simp only [compOp] at hc
  obtain ⟨hc, hp⟩ := plainD_some hc
  obtain ⟨ox, hx, rfl⟩ := Option.map_eq_some_iff.1 hc
  simp only [evalOp] at hev
  split at hev
  · rename_i r hv
    split at hev
    · rename_i m es c left u hg
      split at hev
      · rename_i es' c' hm
        split at hev
        · rename_i hcond
          obtain ⟨rfl, heq⟩ := hcond
          have := esEq_eq heq
          subst this
          cases hev
          exact .ofPure hf hd hp (snd_entry hop hx hf.er hf.wr hv hg hm)
        · cases hev
      · cases hev
    · cases hev
  · cases hev

end
end
end Go.AM

set_option linter.unusedVariables false
set_option linter.unusedSimpArgs false
namespace Go.AM
open Go
section
variable {P : Program} {G : GTab} {A : Ann} {S S' S0 : Sim} {e e' : Env} {h h' : Heap} {a a' : Act} {w w' w0 : World} {o : Oper} {v : AV} {ip : IOp} {reg i : Nat}

section

theorem so_append (hf : FRel A G S0 w0 S h e a w) (hd : ∀ d, o.dst = some d → d < A.ntmps) {c : Call} {x y : Operand} {ox oy : Opd} {t u el : TypeId} {ts : List TypeId} {hp st : Bool} (hop : o.op = .call c) (hcc : c.callee = .builtin .append) (hca : c.args.toList = [x, y]) (hct : c.argTypes.toList = t :: u :: ts) (hpl : Plain A o.dst)
    (hx : opd G A x = some ox) (hy : opd G A y = some oy) (ht : P.underlying t = some (.slice el)) (hu : (st = false ∧ ∃ e', P.underlying u = some (.slice e')) ∨ (st = true ∧ P.underlying u = some .string ∧ P.underlying el = some (.int .u8))) (hsm : smallElem P el = true)
    (hev : evalOp e h (.append (P.cellsOf el) (aggT P el) hp st ox oy) = some (v, e', h')) : Step P A G S0 w0 S e w a o e' h' v := by
  simp only [evalOp] at hev
  split at hev
  · rename_i av bv hav hbv
    split at hev
    · rename_i ys hys
      split at hev
      · rename_i hcond
        simp only [Bool.and_eq_true] at hcond
        split at hev
        · rename_i v2 h2 hap
          cases hev
          exact .of hf hd hpl (snd_append hop hcc hca hct ht hu hsm hx hy hf.er hf.wr hav hbv hys hcond.1 hcond.2 hap)
        · cases hev
      · cases hev
    · cases hev
  · cases hev

theorem so_len (hf : FRel A G S0 w0 S h e a w) (hd : ∀ d, o.dst = some d → d < A.ntmps) {c : Call} (hcc : c.callee = .builtin .len) (hop : o.op = .call c) (hpl : Plain A o.dst)
    (hc : (match Builtin.len, c.args.toList, c.argTypes.toList with
      | .len, [x], [t] => match opd G A x, P.underlying t with
        | some o, some .string => some (IOp.lenS o)
        | some o, some (.slice _) => some (.lenV o)
        | some o, some (.map _ _) => some (.lenM o)
        | _, _ => none
      | _, _, _ => none) = some ip) (hev : evalOp e h ip = some (v, e', h')) : Step P A G S0 w0 S e w a o e' h' v := by
  split at hc
  · rename_i x t hca hct
    split at hc
    · rename_i ox hx ht
      cases hc
      simp only [evalOp] at hev
      split at hev
      · rename_i s hv
        cases hev
        exact .ofPure hf hd hpl (snd_lenS hop hcc (by assumption) (by assumption) ht hx hf.er hf.wr hv)
      · cases hev
    · rename_i ox el hx ht
      cases hc
      simp only [evalOp] at hev
      split at hev
      · rename_i u hv
        split at hev
        · rename_i n hn
          cases hev
          exact .ofPure hf hd hpl (snd_lenV hop hcc (by assumption) (by assumption) ht hx hf.er hf.wr hv hn)
        · cases hev
      · cases hev
    · rename_i ox kt el hx ht
      cases hc
      simp only [evalOp] at hev
      split at hev
      · rename_i hv
        cases hev
        exact .ofPure hf hd hpl (snd_lenM (n := 0) hop hcc (by assumption) (by assumption) ht hx hf.er hf.wr hv (.inl ⟨rfl, rfl⟩))
      · rename_i r hv
        split at hev
        · rename_i es clk hg
          cases hev
          exact .ofPure hf hd hpl (snd_lenM (n := es.length) hop hcc (by assumption) (by assumption) ht hx hf.er hf.wr hv (.inr ⟨_, _, _, rfl, hg, rfl⟩))
        · cases hev
      · cases hev
    · cases hc
  · cases hc

theorem so_minmax (hf : FRel A G S0 w0 S h e a w) (hd : ∀ d, o.dst = some d → d < A.ntmps) {c : Call} {mx : Bool} (hcc : c.callee = .builtin (if mx then .max else .min)) (hop : o.op = .call c) (hpl : Plain A o.dst) (hc : (opds G A c.args.toList).map (IOp.minmax mx) = some ip) (hev : evalOp e h ip = some (v, e', h')) : Step P A G S0 w0 S e w a o e' h' v := by
  obtain ⟨os, hos, rfl⟩ := Option.map_eq_some_iff.1 hc
  simp only [evalOp] at hev
  split at hev
  · rename_i u l hv
    split at hev
    · rename_i r hr
      cases hev
      exact .ofPure hf hd hpl (snd_minmax hop hcc hos hf.er hf.wr hv hr)
    · cases hev
  · cases hev

theorem so_builtin (hf : FRel A G S0 w0 S h e a w) (hd : ∀ d, o.dst = some d → d < A.ntmps) {b : Builtin} {args : Array Operand} {argTypes : Array TypeId} (hop : o.op = .call { callee := .builtin b, args := args, argTypes := argTypes }) (hc : compOp P G A reg i o.dst (.call { callee := .builtin b, args := args, argTypes := argTypes }) = some ip) (hev : evalOp e h ip = some (v, e', h')) : Step P A G S0 w0 S e w a o e' h' v := by
  simp only [compOp] at hc
  obtain ⟨hc1, hpl⟩ := plainD_some hc
  clear hc
  split at hc1
  · refine so_len hf hd (c := { callee := .builtin .len, args := args, argTypes := argTypes }) rfl hop hpl ?_ hev
    simp only [*]
    exact hc1
  · exact so_minmax hf hd (mx := false) rfl hop hpl hc1 hev
  · exact so_minmax hf hd (mx := true) rfl hop hpl hc1 hev
  · split at hc1
    · rename_i ox oy el el' hx hy ht hu
      split at hc1
      · rename_i hcond
        simp only [Bool.and_eq_true, beq_iff_eq] at hcond
        cases hc1
        exact so_append hf hd hop rfl (by assumption) (by assumption) hpl hx hy ht (.inl ⟨rfl, _, hu⟩) hcond.1 hev
      · cases hc1
    · rename_i ox oy el hx hy ht hu
      split at hc1
      · rename_i hcond
        simp only [Bool.and_eq_true] at hcond
        cases hc1
        exact so_append hf hd hop rfl (by assumption) (by assumption) hpl hx hy ht (.inr ⟨rfl, hu, u8T_some hcond.2⟩) hcond.1 hev
      · cases hc1
    · cases hc1
  · split at hc1
    · rename_i om ok' kt el hm hk ht
      split at hc1
      · rename_i kd hkd
        cases hc1
        simp only [evalOp] at hev
        split at hev
        · rename_i kv hmv hkv
          split at hev
          · rename_i hik
            cases hev
            exact .of hf hd hpl (snd_mdel hop rfl (by assumption) (by assumption) hm hk ht hkd hf.er hf.wr hmv hkv hik (.inl ⟨rfl, rfl⟩))
          · cases hev
        · rename_i r kv hmv hkv
          split at hev
          · rename_i es clk hg
            split at hev
            · rename_i hik
              split at hev
              · rename_i q hfi
                cases hev
                exact .of hf hd hpl (snd_mdel hop rfl (by assumption) (by assumption) hm hk ht hkd hf.er hf.wr hmv hkv hik (.inr ⟨_, _, _, _, rfl, hg, hfi, rfl⟩))
              · cases hev
            · cases hev
          · cases hev
        · cases hev
      · cases hc1
    · cases hc1
  · split at hc1
    · rename_i om kt el hm ht
      cases hc1
      simp only [evalOp] at hev
      split at hev
      · rename_i hv
        cases hev
        exact .of hf hd hpl (snd_mclear hop rfl (by assumption) (by assumption) hm ht hf.er hf.wr hv (.inl ⟨rfl, rfl⟩))
      · rename_i r hv
        split at hev
        · rename_i es c hg
          cases hev
          exact .of hf hd hpl (snd_mclear hop rfl (by assumption) (by assumption) hm ht hf.er hf.wr hv (.inr ⟨_, _, _, rfl, hg, rfl⟩))
        · cases hev
      · cases hev
    · cases hc1
  · split at hc1
    · rename_i ox oy el hx hy ht
      split at hc1
      · rename_i hsm
        cases hc1
        have hi : (P.info? el).isSome = true := cell1_known (small_facts hsm).2.2.2
        have key := fun av bv hav hbv hr => snd_copy (P := P) (h2 := h') (av := av) (bv := bv) (v := v) hop rfl (by assumption) (by assumption) ht hi hx hy hf.er hf.wr hav hbv hr
        simp only [evalOp] at hev
        split at hev
        · rename_i r off n sz' bv hav hbv
          split at hev
          · rename_i ys hys
            split at hev
            · rename_i hcond
              obtain ⟨h1, rfl, h3⟩ := hcond
              split at hev
              · rename_i cs hg
                split at hev
                · rename_i cs' hs
                  cases hev
                  exact .of hf hd hpl (key _ _ hav hbv (.inl ⟨r, off, n, ys, cs, cs', rfl, hys, hg, h3, hs, rfl, rfl⟩))
                · cases hev
              · cases hev
            · cases hev
          · cases hev
        · rename_i bv hav hbv
          split at hev
          · rename_i n hn
            cases hev
            exact .of hf hd hpl (key _ _ hav hbv (.inr ⟨rfl, ⟨n, hn⟩, rfl, rfl⟩))
          · cases hev
        · cases hev
      · cases hc1
    · cases hc1
  · cases hc1

/-- EVERY OPERATION. -/
theorem step_op (hf : FRel A G S0 w0 S h e a w) (hd : ∀ d, o.dst = some d → d < A.ntmps) (hc : compOp P G A reg i o.dst o.op = some ip) (hev : evalOp e h ip = some (v, e', h')) (hfree : ((∃ z, ip = .lalloc z) ∨ ∃ x, ip = .lbox x) → ∀ d, o.dst = some d → A.prom.contains d = true → ∀ i off, e.get i ≠ some (.adr d off)) : Step P A G S0 w0 S e w a o e' h' v := by
  cases hop : o.op <;> rw [hop] at hc
  case move x => exact so_mov hf hd (.inl hop) (by simpa only [compOp] using hc) hev
  case assign x => exact so_mov hf hd (.inr hop) (by simpa only [compOp] using hc) hev
  case pick => exact so_pick hf hd hop hc hev
  case alloc => exact so_alloc hf hd hop hc hev hfree
  case box => exact so_box hf hd hop hc hev hfree
  case build => exact so_build hf hd hop hc hev
  case buildSlice => exact so_bslice hf hd hop hc hev
  case load => exact so_load hf hd hop hc hev
  case store => exact so_store hf hd hop hc hev
  case nilCheck => exact so_nilchk hf hd hop hc hev
  case fieldAddr => exact so_faddr hf hd hop hc hev
  case indexAddr => exact so_iaddr hf hd hop hc hev
  case field => exact so_field hf hd hop hc hev
  case index => exact so_index hf hd hop hc hev
  case binOp => exact so_binOp hf hd hop hc hev
  case unOp => exact so_unOp hf hd hop hc hev
  case convert => exact so_convert hf hd hop hc hev
  case makeInterface => exact so_iface hf hd hop hc hev
  case makeFunc => exact so_mkfn hf hd hop hc hev
  case makeMap t r =>
    cases r with
    | none => exact so_mkmap hf hd hop hc hev
    | some x => simp only [compOp] at hc; cases hc
  case makeSlice => exact so_mkslice hf hd hop hc hev
  case slice => exact so_slice hf hd hop hc hev
  case lookup => exact so_lookup hf hd hop hc hev
  case mapUpdate => exact so_mupd hf hd (.inl hop) hc hev
  case insert => exact so_mupd (reg := reg) (i := i) hf hd (.inr hop) (by simp only [compOp] at hc ⊢; exact hc) hev
  case range => exact so_range hf hd hop hc hev
  case next it b =>
    cases b with
    | true => exact so_nextS hf hd hop hc hev
    | false => simp only [compOp] at hc; cases hc
  case entry => exact so_entry hf hd hop hc hev
  case extract => exact so_extract hf hd hop hc hev
  case call c =>
    obtain ⟨callee, args, argTypes⟩ := c
    cases callee with
    | builtin b => exact so_builtin hf hd hop hc hev
    | _ => simp only [compOp] at hc; cases hc
  all_goals (simp only [compOp] at hc; cases hc)

end
end
end Go.AM

set_option linter.unusedVariables false
set_option linter.unusedSimpArgs false
namespace Go.AM
open Go
section
variable {e e2 e' : Env} {h h' : Heap} {v : AV} {p : IOp}

/-! ### What an operation looks at -/

theorem val_agree {x : Opd} (hs : ∀ s ∈ sl x, e2.get s = e.get s) : val e2 x = val e x := by
  cases x with
  | t i => exact hs i (by simp [sl])
  | l i => simp only [val, hs i (by simp [sl])]
  | s i b => simp only [val, hs i (by simp [sl]), hs b (by simp [sl])]
  | c v => rfl
theorem vals_agree : ∀ {l : List Opd}, (∀ s ∈ l.flatMap sl, e2.get s = e.get s) → vals e2 l = vals e l
  | [], _ => rfl
  | x :: l, hs => by
    simp only [vals, val_agree (x := x) fun s h => hs s (by simp [h]), vals_agree (l := l) fun s h => hs s (by rw [List.flatMap_cons]; exact List.mem_append_right _ h)]
theorem nat_agree {x : Opd} (hs : ∀ s ∈ sl x, e2.get s = e.get s) : nat? e2 x = nat? e x := by
  simp only [nat?, val_agree hs]
theorem optNat_agree {x : Option Opd} {d : Nat} (hs : ∀ s ∈ slO x, e2.get s = e.get s) : optNat e2 d x = optNat e d x := by
  cases x with
  | none => rfl
  | some x => exact nat_agree hs
theorem fills_agree : ∀ {ps : List (Nat × Nat × Opd)} {cs : List AV}, (∀ s ∈ ps.flatMap (fun p => sl p.2.2), e2.get s = e.get s) → fills cs e2 ps = fills cs e ps
  | [], _, _ => rfl
  | (a, b, x) :: ps, cs, hs => by
    simp only [fills, val_agree (x := x) fun s h => hs s (by rw [List.flatMap_cons]; exact List.mem_append_left _ h)]
    split
    · split
      · split
        · exact fills_agree fun s h => hs s (by rw [List.flatMap_cons]; exact List.mem_append_right _ h)
        · rfl
      · rfl
    · rfl
theorem fillE_agree {sz : Nat} : ∀ {ps : List (Nat × Opd)} {cs : List AV}, (∀ s ∈ ps.flatMap (fun p => sl p.2), e2.get s = e.get s) → fillE sz cs e2 ps = fillE sz cs e ps
  | [], _, _ => rfl
  | (a, x) :: ps, cs, hs => by
    simp only [fillE, val_agree (x := x) fun s h => hs s (by rw [List.flatMap_cons]; exact List.mem_append_left _ h)]
    split
    · split
      · exact fillE_agree fun s h => hs s (by rw [List.flatMap_cons]; exact List.mem_append_right _ h)
      · rfl
    · rfl

theorem adrOf_mem {a : Opd} {t : Nat} (h : adrOf a t = true) : t ∈ sl a := by
  cases a <;> simp [adrOf] at h <;> simp [sl, h]

def reE (e2 : Env) (r : Option (AV × Env × Heap)) : Option (AV × Env × Heap) := match r with
  | some (v, _, h') => some (v, e2, h')
  | none => none

theorem eval_agree (hn : ∀ n a x, p ≠ .store n a x) (hs : ∀ s ∈ slotsI p, e2.get s = e.get s) : evalOp e2 h p = reE e2 (evalOp e h p) := by
  cases p
  case store => exact absurd rfl (hn _ _ _)
  case load n a =>
    simp only [slotsI] at hs
    simp only [evalOp, val_agree hs]
    split
    · split
      · split <;> rfl
      · rfl
    · split <;> rfl
    · split
      · rename_i hadr
        rw [hs _ (adrOf_mem hadr)]
        split
        · split <;> rfl
        · rfl
      · rfl
    · rfl
  case halloc => rfl
  case lalloc => rfl
  case mkmap => rfl
  case mentry => rfl
  case estore => rfl
  case build z ps =>
    simp only [slotsI] at hs
    simp only [evalOp, fills_agree hs]
    split <;> rfl
  case bslice hp z n ps =>
    simp only [slotsI] at hs
    simp only [evalOp, fillE_agree hs]
    split
    · split <;> rfl
    · rfl
  case mov x =>
    simp only [slotsI] at hs
    simp only [evalOp, val_agree hs]
    repeat' (first | rfl | split)
  case hbox x =>
    simp only [slotsI] at hs
    simp only [evalOp, val_agree hs]
    repeat' (first | rfl | split)
  case lbox x =>
    simp only [slotsI] at hs
    simp only [evalOp, val_agree hs]
    repeat' (first | rfl | split)
  case nilchk x =>
    simp only [slotsI] at hs
    simp only [evalOp, val_agree hs]
    repeat' (first | rfl | split)
  case faddr o x =>
    simp only [slotsI] at hs
    simp only [evalOp, val_agree hs]
    repeat' (first | rfl | split)
  case field o n x =>
    simp only [slotsI] at hs
    simp only [evalOp, val_agree hs]
    repeat' (first | rfl | split)
  case un o x =>
    simp only [slotsI] at hs
    simp only [evalOp, val_agree hs]
    repeat' (first | rfl | split)
  case eqN b x n =>
    simp only [slotsI] at hs
    simp only [evalOp, val_agree hs]
    repeat' (first | rfl | split)
  case cvI k x =>
    simp only [slotsI] at hs
    simp only [evalOp, val_agree hs]
    repeat' (first | rfl | split)
  case cvSS x =>
    simp only [slotsI] at hs
    simp only [evalOp, val_agree hs]
    repeat' (first | rfl | split)
  case cvS x =>
    simp only [slotsI] at hs
    simp only [evalOp, val_agree hs]
    repeat' (first | rfl | split)
  case cvB x =>
    simp only [slotsI] at hs
    simp only [evalOp, val_agree hs]
    repeat' (first | rfl | split)
  case mclear x =>
    simp only [slotsI] at hs
    simp only [evalOp, val_agree hs]
    repeat' (first | rfl | split)
  case rngS x =>
    simp only [slotsI] at hs
    simp only [evalOp, val_agree hs]
    repeat' (first | rfl | split)
  case rngM x =>
    simp only [slotsI] at hs
    simp only [evalOp, val_agree hs]
    repeat' (first | rfl | split)
  case nextS x =>
    simp only [slotsI] at hs
    simp only [evalOp, val_agree hs]
    repeat' (first | rfl | split)
  case entry x =>
    simp only [slotsI] at hs
    simp only [evalOp, val_agree hs]
    repeat' (first | rfl | split)
  case extract x i =>
    simp only [slotsI] at hs
    simp only [evalOp, val_agree hs]
    repeat' (first | rfl | split)
  case iface t x =>
    simp only [slotsI] at hs
    simp only [evalOp, val_agree hs]
    repeat' (first | rfl | split)
  case lenS x =>
    simp only [slotsI] at hs
    simp only [evalOp, val_agree hs]
    repeat' (first | rfl | split)
  case lenV x =>
    simp only [slotsI] at hs
    simp only [evalOp, val_agree hs]
    repeat' (first | rfl | split)
  case lenM x =>
    simp only [slotsI] at hs
    simp only [evalOp, val_agree hs]
    repeat' (first | rfl | split)
  case freeze a b c x =>
    simp only [slotsI] at hs
    simp only [evalOp, val_agree hs]
    repeat' (first | rfl | split)
  case iaddr z x y =>
    simp only [slotsI, List.mem_append] at hs
    have h1 := val_agree (x := x) fun s k => hs s (.inl k)
    have h2 := nat_agree (x := y) fun s k => hs s (.inr k)
    simp only [evalOp, h1, h2]
    repeat' (first | rfl | split)
  case iaddrA l z x y =>
    simp only [slotsI, List.mem_append] at hs
    have h1 := val_agree (x := x) fun s k => hs s (.inl k)
    have h2 := nat_agree (x := y) fun s k => hs s (.inr k)
    simp only [evalOp, h1, h2]
    repeat' (first | rfl | split)
  case idxS x y =>
    simp only [slotsI, List.mem_append] at hs
    have h1 := val_agree (x := x) fun s k => hs s (.inl k)
    have h2 := nat_agree (x := y) fun s k => hs s (.inr k)
    simp only [evalOp, h1, h2]
    repeat' (first | rfl | split)
  case idxA l z g x y =>
    simp only [slotsI, List.mem_append] at hs
    have h1 := val_agree (x := x) fun s k => hs s (.inl k)
    have h2 := nat_agree (x := y) fun s k => hs s (.inr k)
    simp only [evalOp, h1, h2]
    repeat' (first | rfl | split)
  case bin o x y =>
    simp only [slotsI, List.mem_append] at hs
    have h1 := val_agree (x := x) fun s k => hs s (.inl k)
    have h2 := val_agree (x := y) fun s k => hs s (.inr k)
    simp only [evalOp, h1, h2]
    repeat' (first | rfl | split)
  case eqB n x y =>
    simp only [slotsI, List.mem_append] at hs
    have h1 := val_agree (x := x) fun s k => hs s (.inl k)
    have h2 := val_agree (x := y) fun s k => hs s (.inr k)
    simp only [evalOp, h1, h2]
    repeat' (first | rfl | split)
  case eqA n k x y =>
    simp only [slotsI, List.mem_append] at hs
    have h1 := val_agree (x := x) fun s k => hs s (.inl k)
    have h2 := val_agree (x := y) fun s k => hs s (.inr k)
    simp only [evalOp, h1, h2]
    repeat' (first | rfl | split)
  case mkslice hp z x y =>
    simp only [slotsI, List.mem_append] at hs
    have h1 := nat_agree (x := x) fun s k => hs s (.inl k)
    have h2 := nat_agree (x := y) fun s k => hs s (.inr k)
    simp only [evalOp, h1, h2]
    repeat' (first | rfl | split)
  case lookup kd z ok x y =>
    simp only [slotsI, List.mem_append] at hs
    have h1 := val_agree (x := x) fun s k => hs s (.inl k)
    have h2 := val_agree (x := y) fun s k => hs s (.inr k)
    simp only [evalOp, h1, h2]
    repeat' (first | rfl | split)
  case mdel kd x y =>
    simp only [slotsI, List.mem_append] at hs
    have h1 := val_agree (x := x) fun s k => hs s (.inl k)
    have h2 := val_agree (x := y) fun s k => hs s (.inr k)
    simp only [evalOp, h1, h2]
    repeat' (first | rfl | split)
  case append a b c d x y =>
    simp only [slotsI, List.mem_append] at hs
    have h1 := val_agree (x := x) fun s k => hs s (.inl k)
    have h2 := val_agree (x := y) fun s k => hs s (.inr k)
    simp only [evalOp, h1, h2]
    repeat' (first | rfl | split)
  case copy a b x y =>
    simp only [slotsI, List.mem_append] at hs
    have h1 := val_agree (x := x) fun s k => hs s (.inl k)
    have h2 := val_agree (x := y) fun s k => hs s (.inr k)
    simp only [evalOp, h1, h2]
    repeat' (first | rfl | split)
  case pick x y z =>
    simp only [slotsI, List.mem_append] at hs
    have h1 := val_agree (x := x) fun s k => hs s (.inl (.inl k))
    have h2 := val_agree (x := y) fun s k => hs s (.inl (.inr k))
    have h3 := val_agree (x := z) fun s k => hs s (.inr k)
    simp only [evalOp, h1, h2, h3]
    repeat' (first | rfl | split)
  case mupd kd x y z =>
    simp only [slotsI, List.mem_append] at hs
    have h1 := val_agree (x := x) fun s k => hs s (.inl (.inl k))
    have h2 := val_agree (x := y) fun s k => hs s (.inl (.inr k))
    have h3 := val_agree (x := z) fun s k => hs s (.inr k)
    simp only [evalOp, h1, h2, h3]
    repeat' (first | rfl | split)
  case mkfn f l m =>
    simp only [slotsI, List.mem_append] at hs
    have h1 := vals_agree (l := l) fun s k => hs s (.inl k)
    have h2 := vals_agree (l := m) fun s k => hs s (.inr k)
    simp only [evalOp, h1, h2]
    repeat' (first | rfl | split)
  case minmax m l =>
    simp only [slotsI] at hs
    simp only [evalOp, vals_agree hs]
    repeat' (first | rfl | split)
  case sliceS x l m =>
    simp only [slotsI, List.mem_append] at hs
    have h1 := val_agree (x := x) fun s k => hs s (.inl (.inl k))
    have h2 := fun d => optNat_agree (d := d) (x := l) fun s k => hs s (.inl (.inr k))
    have h3 := fun d => optNat_agree (d := d) (x := m) fun s k => hs s (.inr k)
    simp only [evalOp, h1, h2, h3]
    repeat' (first | rfl | split)
  case sliceV z x l m n =>
    simp only [slotsI, List.mem_append] at hs
    have h1 := val_agree (x := x) fun s k => hs s (.inl (.inl (.inl k)))
    have h2 := fun d => optNat_agree (d := d) (x := l) fun s k => hs s (.inl (.inl (.inr k)))
    have h3 := fun d => optNat_agree (d := d) (x := m) fun s k => hs s (.inl (.inr k))
    have h4 := fun d => optNat_agree (d := d) (x := n) fun s k => hs s (.inr k)
    simp only [evalOp, h1, h2, h3, h4]
    repeat' (first | rfl | split)

end
end Go.AM

set_option linter.unusedVariables false
set_option linter.unusedSimpArgs false
namespace Go.AM
open Go
section
variable {e e2 e' : Env} {h h' h2 : Heap} {v : AV} {p : IOp}

theorem eval_env (hn : ∀ n a x, p ≠ .store n a x) (hev : evalOp e h p = some (v, e', h')) : e' = e := by
  have := eval_agree (e := e) (e2 := e) (h := h) hn (fun _ _ => rfl)
  rw [hev] at this
  simp only [reE, Option.some.injEq, Prod.mk.injEq] at this
  exact this.2.1

/-- the same slots, the same answer -/
theorem eval_agree2 (hs : ∀ s ∈ slotsI p, e2.get s = e.get s) (hev : evalOp e h p = some (v, e', h')) :
    ∃ e2', evalOp e2 h p = some (v, e2', h') ∧ ((e' = e ∧ e2' = e2) ∨ ∃ t u, t ∈ wrI p ∧ t ∈ slotsI p ∧ e' = e.put t u ∧ e2' = e2.put t u) := by
  by_cases hn : ∃ n a x, p = .store n a x
  · obtain ⟨n, a, x, rfl⟩ := hn
    simp only [slotsI, List.mem_append] at hs
    have h1 := val_agree (x := a) fun s k => hs s (.inl k)
    have h2 := val_agree (x := x) fun s k => hs s (.inr k)
    have wr : ∀ t, adrOf a t = true → t ∈ wrI (.store n a x) := fun t k => by
      cases a <;> simp [adrOf] at k <;> simp [wrI, k]
    simp only [evalOp] at hev ⊢
    simp only [h1, h2]
    split at hev
    · split at hev
      · rename_i hc
        simp only [if_pos hc]
        split at hev
        · split at hev
          · split at hev
            · cases hev
              exact ⟨e2, by simp [*], .inl ⟨rfl, rfl⟩⟩
            · cases hev
          · cases hev
        · rename_i t off hv
          split at hev
          · rename_i hadr
            have ht : e2.get t = e.get t := hs t (.inl (adrOf_mem hadr))
            simp only [if_pos hadr, ht]
            split at hev
            · rename_i cs hg
              split at hev
              · rename_i cs' hsp
                cases hev
                exact ⟨e2.put t (.agg cs'), by simp [hsp], .inr ⟨t, .agg cs', wr t hadr, by simp only [slotsI, List.mem_append]; exact .inl (adrOf_mem hadr), rfl, rfl⟩⟩
              · cases hev
            · rename_i u0 hna hg
              split at hev
              · rename_i h0
                split at hev
                · rename_i u hu
                  cases hev
                  refine ⟨e2.put t u, ?_, .inr ⟨t, u, wr t hadr, by simp only [slotsI, List.mem_append]; exact .inl (adrOf_mem hadr), rfl, rfl⟩⟩
                  simp only [hg, hu, h0, if_true]
                · cases hev
              · cases hev
            · cases hev
          · cases hev
        · cases hev
      · cases hev
    · cases hev
  · have hn' : ∀ n a x, p ≠ .store n a x := fun n a x k => hn ⟨n, a, x, k⟩
    have h1 := eval_agree (h := h) hn' hs
    rw [hev] at h1
    exact ⟨e2, h1, .inl ⟨eval_env hn' hev, rfl⟩⟩

def memI : IOp → Bool
  | .load _ _ | .lookup _ _ _ _ _ | .lenM _ | .entry _ | .cvS _ => true
  | _ => false
theorem memI_chk (h : needChk p = false) : memI p = false := by
  cases p <;> simp_all [needChk, memI]

def reH (h2 : Heap) (r : Option (AV × Env × Heap)) : Option (AV × Env × Heap) := match r with
  | some (v, e', _) => some (v, e', h2)
  | none => none

theorem eval_heap (hp : pureI p = true) (hm : memI p = false) : evalOp e h2 p = reH h2 (evalOp e h p) := by
  cases p <;> simp only [pureI, memI, Bool.false_eq_true, Bool.true_eq_false] at hp hm
  case bslice hp' z n ps =>
    cases hp' <;> simp at hp
    simp only [evalOp]
    repeat' (first | rfl | split)
  all_goals
    simp only [evalOp]
    repeat' (first | rfl | split)

theorem pure_heap (hp : pureI p = true) (hev : evalOp e h p = some (v, e', h')) : h' = h := by
  by_cases hm : memI p = true
  · cases p <;> simp only [memI, Bool.false_eq_true] at hm <;> simp only [evalOp] at hev
    all_goals (repeat' (split at hev)) <;> first | (cases hev; rfl) | cases hev
  · have := eval_heap (e := e) (h := h) (h2 := h) hp (by simpa using hm)
    rw [hev] at this
    simp only [reH, Option.some.injEq, Prod.mk.injEq] at this
    exact this.2.2

/-- more objects, the same answer -/
theorem eval_more (hp : pureI p = true) (hle : ∀ r x, h.get r = some x → h2.get r = some x) (hev : evalOp e h p = some (v, e', h')) : evalOp e h2 p = some (v, e', h2) := by
  by_cases hm : memI p = true
  · have hel : ∀ sz ag u l, elems h sz ag u = some l → elems h2 sz ag u = some l := fun sz ag u l hl => by
      cases u <;> simp only [elems] at hl ⊢ <;> try exact hl
      rename_i r off n sz'
      cases hg : h.get r with
      | none => rw [hg] at hl; cases hl
      | some x => rw [hg] at hl; rw [hle r x hg]; exact hl
    cases p <;> simp only [memI, Bool.false_eq_true] at hm <;> simp only [evalOp] at hev ⊢
    case load n a =>
      split at hev
      · rename_i r off hv
        cases hg : h.get r with
        | none => rw [hg] at hev; cases hev
        | some x =>
          rw [hg] at hev
          simp only [hv, hle r x hg]
          (repeat' (split at hev)) <;> first | (cases hev; simp_all; done) | cases hev
      · rename_i cs off hv
        try simp only [hv]
        split at hev
        · cases hev; simp_all
        · cases hev
      · rename_i t off hv
        try simp only [hv]
        (repeat' (split at hev)) <;> first | (cases hev; simp_all; done) | cases hev
      · cases hev
    case cvS x =>
      split at hev
      · rename_i u hv
        split at hev
        · rename_i l hl
          simp only [hv, hel _ _ _ _ hl]
          split at hev
          · cases hev; simp_all
          · cases hev
        · cases hev
      · cases hev
    case lookup kd z ok m k =>
      split at hev
      · simp_all
      · rename_i r kv hmv hkv
        cases hg : h.get r with
        | none => rw [hg] at hev; cases hev
        | some x =>
          rw [hg] at hev
          simp only [hmv, hkv, hle r x hg]
          (repeat' (split at hev)) <;> first | (cases hev; simp_all; done) | cases hev
      · cases hev
    case entry it =>
      split at hev
      · rename_i r hv
        cases hg : h.get r with
        | none => rw [hg] at hev; cases hev
        | some x =>
          rw [hg] at hev
          simp only [hv, hle r x hg]
          split at hev
          · rename_i m es c left u heq
            cases hg2 : h.get m with
            | none => rw [hg2] at hev; cases hev
            | some y =>
              rw [hg2] at hev
              simp only [hle m y hg2]
              (repeat' (split at hev)) <;> first | (cases hev; simp_all; done) | cases hev
          · cases hev
      · cases hev
    case lenM x =>
      split at hev
      · rename_i hv
        try simp only [hv]
        cases hev; rfl
      · rename_i r hv
        cases hg : h.get r with
        | none => rw [hg] at hev; cases hev
        | some x =>
          rw [hg] at hev
          simp only [hv, hle r x hg]
          (repeat' (split at hev)) <;> first | (cases hev; simp_all; done) | cases hev
      · cases hev
  · have := eval_heap (e := e) (h := h) (h2 := h2) hp (by simpa using hm)
    rw [hev] at this
    exact this

end
end Go.AM

set_option linter.unusedVariables false
set_option linter.unusedSimpArgs false
namespace Go.AM
open Go

/-- what a call of the machine says of the program -/
def ACall (P : Program) (G : GTab) : CallT := fun f args h Q =>
  (∃ fn, P.funcs[f]? = some fn ∧ fn.body.isSome = true ∧ fn.name ≠ "runtime.NumGoroutine") ∧
  ∀ S w cargs, WRel G S h w → VRelL S args cargs → Calls P f (List.toArray cargs) w fun r w' => ∃ c v S' h', r = .returned c ∧ Q v h' ∧ Ext S w S' w' ∧ WRel G S' h' w' ∧ VRel S' v c

section
variable {P : Program} {G : GTab} {A : Ann} {S S' S0 : Sim} {e e' em env : Env} {h h' : Heap} {a a' : Act} {w w' w0 : World} {o : Oper} {v : AV} {reg i : Nat} {ops : Array Oper}

theorem guard_rel {g : Guard} {b : Bool} (hg : guardOf A ops o.guard = some g) (hw : wanted env g = some b) (ha : ∀ s ∈ slG g, em.get s = env.get s) (he : ERel A S em a w) : Region.wanted o (yielded ops a.tmps) = b := by
  unfold guardOf at hg
  unfold Region.wanted
  split at hg
  · rename_i hn
    cases hg
    simp only [wanted, Option.some.injEq] at hw
    rw [hn]
    exact hw
  · rename_i j want hgo
    rw [hgo]
    simp only
    split at hg
    · rename_i d hd
      split at hg
      · cases hg
      · rename_i hpl
        cases hg
        simp only [Bool.or_eq_true, not_or, Bool.not_eq_true] at hpl
        have hs := ha d (by simp [slG])
        have hrel : ∀ u, env.get d = some u → VRel S u (tm a d) := fun u hu => by
          have := he.slot d u (by rw [hs]; exact hu)
          unfold SlotRel at this
          rw [if_neg (by rw [hpl.1]; simp), if_neg (by rw [hpl.2]; simp)] at this
          exact this
        have hy : yielded ops a.tmps j = match a.tmps[d]? with | some (.bool b) => some b | _ => none := by
          unfold yielded
          rw [hd]
          rfl
        rw [hy]
        simp only [wanted] at hw
        split at hw
        · rename_i x hx
          cases hw
          have := hrel _ hx
          simp only [VRel, tm] at this
          have h2 : a.tmps[d]? = some (.bool x) := by
            cases k : a.tmps[d]? with
            | none => simp [k, undef] at this
            | some y => simp [k] at this; rw [this]
          rw [h2]
          cases x <;> cases want <;> rfl
        · rename_i hx
          cases hw
          have := hrel _ hx
          simp only [VRel, tm] at this
          obtain ⟨l, h1, h2⟩ := this
          simp only [VRelL] at h2
          subst h2
          have h2 : ∀ x, a.tmps[d]? ≠ some (.bool x) := fun x k => by simp [k] at h1
          split
          · rename_i x k; exact absurd k (h2 x)
          · rfl
        · cases hw
    · cases hg

/-- the slots behind an operation -/
def Chg (d : Option Nat) (wr : List Nat) (env em env' em' : Env) : Prop :=
  (∀ s, d ≠ some s → s ∉ wr → env'.get s = env.get s ∧ em'.get s = em.get s) ∧ ∀ s, d = some s ∨ s ∈ wr → em'.get s = env'.get s

theorem Chg.put {d : Option Nat} {v : AV} : Chg d [] env em (putD env d v) (putD em d v) := by
  cases d with
  | none => exact ⟨fun s _ _ => ⟨rfl, rfl⟩, fun s hs => by rcases hs with hs | hs <;> cases hs⟩
  | some d =>
    refine ⟨fun s hs _ => ?_, fun s hs => ?_⟩
    · have : d ≠ s := fun k => hs (by rw [k])
      exact ⟨by show (env.put d v).get s = env.get s; rw [Tr.get_put, if_neg this], by show (em.put d v).get s = em.get s; rw [Tr.get_put, if_neg this]⟩
    · rcases hs with hs | hs
      · cases hs
        show (em.put d v).get d = (env.put d v).get d
        rw [Tr.get_put, Tr.get_put, if_pos rfl, if_pos rfl]
      · cases hs

theorem Chg.weak {d : Option Nat} {wr : List Nat} {env' em' : Env} (h : Chg d [] env em env' em') (hw : ∀ s ∈ wr, em.get s = env.get s) : Chg d wr env em env' em' := by
  refine ⟨fun s hs _ => h.1 s hs (by simp), fun s hs => ?_⟩
  by_cases hd : d = some s
  · exact h.2 s (.inl hd)
  · rcases hs with hs | hs
    · exact absurd hs hd
    · obtain ⟨h1, h2⟩ := h.1 s hd (by simp)
      rw [h1, h2]; exact hw s hs

theorem Chg.store {d : Option Nat} {v : AV} {t : Nat} {u : AV} {wr : List Nat} (ht : t ∈ wr) (hw : ∀ s ∈ wr, em.get s = env.get s) : Chg d wr env em (putD (env.put t u) d v) (putD (em.put t u) d v) := by
  have h2 := Chg.put (env := env.put t u) (em := em.put t u) (d := d) (v := v)
  refine ⟨fun s hs hw => ?_, fun s hs => ?_⟩
  · have h1 : t ≠ s := fun k => hw (k ▸ ht)
    have h2 := h2.1 s hs (by simp)
    rw [h2.1, h2.2, Tr.get_put, Tr.get_put, if_neg h1, if_neg h1]
    exact ⟨rfl, rfl⟩
  · by_cases hd : d = some s
    · exact h2.2 s (.inl hd)
    · rcases hs with hs | hs
      · exact absurd hs hd
      · obtain ⟨q1, q2⟩ := h2.1 s hd (by simp)
        rw [q1, q2, Tr.get_put, Tr.get_put]
        split
        · rfl
        · exact hw s hs

/-- what holds behind an operation -/
structure Nxt (P : Program) (G : GTab) (A : Ann) (S0 : Sim) (w0 : World) (S : Sim) (env em : Env) (a : Act) (w : World) (d : Option Nat) (wr : List Nat) (R : List Item) (Q : Env → Heap → Prop) (a' : Act) (w' : World) (S' : Sim) (env' em' : Env) (h' : Heap) : Prop where
  fr : FRel A G S0 w0 S' h' em' a' w'
  wi : wItems (ACall P G) R Q env' h'
  frm : Frm A S em a w S' em' a' w'
  chg : Chg d wr env em env' em'
  tmk : ∀ s, d ≠ some s → tm a' s = tm a s

theorem wanted_agree {g : Guard} (ha : ∀ s ∈ slG g, em.get s = env.get s) : wanted em g = wanted env g := by
  cases g with
  | none => rfl
  | some x =>
    obtain ⟨i, b⟩ := x
    simp only [wanted, ha i (by simp [slG])]

theorem Frm.trans {S1 S2 : Sim} {e1 e2 : Env} {a1 a2 : Act} {w1 w2 : World} (h : Frm A S e a w S1 e1 a1 w1) (k : Frm A S1 e1 a1 w1 S2 e2 a2 w2) : Frm A S e a w S2 e2 a2 w2 := fun b hb => by
  obtain ⟨h1, h2⟩ := h b hb
  obtain ⟨k1, k2⟩ := k b h1
  exact ⟨k1, k2.trans h2⟩

theorem put_tm {d : Option Nat} {c : Value} (hd : ∀ k, d = some k → k < a.tmps.size) : ∀ s, d ≠ some s → tm (a.put d c) s = tm a s := fun s hs => by
  cases d with
  | none => rfl
  | some d =>
    have : d ≠ s := fun k => hs (by rw [k])
    rw [tm_put (hd d rfl), if_neg this]

/-- arrays that are frozen behind an operation -/
theorem run_frz {d : Nat} {R : List Item} {Q : Env → Heap → Prop} (hd : o.dst = some d → d < A.ntmps) (hf : FRel A G S0 w0 S h em a w) (hW : wItems (ACall P G) (frzItems P A reg i o ++ R) Q env h) (hag : ∀ d, o.dst = some d → em.get d = env.get d) (hdd : ∀ k, o.dst = some k → k < A.ntmps) :
    ∃ S' env' em' h', Nxt P G A S0 w0 S env em a w o.dst [] R Q a w S' env' em' h' := by
  have none_ : frzItems P A reg i o = [] → ∃ S' env' em' h', Nxt P G A S0 w0 S env em a w o.dst [] R Q a w S' env' em' h' := fun hn => by
    rw [hn] at hW
    exact ⟨S, env, em, h, hf, hW, .ext (.refl S w) (fun _ _ => ⟨rfl, rfl⟩), ⟨fun s _ _ => ⟨rfl, rfl⟩, fun s hs => by rcases hs with hs | hs; exact hag s hs; cases hs⟩, fun _ _ => rfl⟩
  by_cases hz : frzItems P A reg i o = []
  · exact none_ hz
  · unfold frzItems at hz hW
    split at hz
    · rename_i x1 x2 at_ d' hfind hdst
      simp only [hfind, hdst] at hW
      by_cases hc : (plainB A (some d') && decide (1 ≤ (frzOf P o at_).1)) = true
      · rw [if_pos hc] at hW
        simp only [Bool.and_eq_true, decide_eq_true_eq, plainB, isPd, isSd, Bool.not_eq_true'] at hc
        simp only [List.cons_append, List.nil_append, wItems, wanted] at hW
        split at hW
        · rename_i v' e2 h2 hev
          obtain ⟨_, hW⟩ := hW
          have hev2 := eval_agree (e := env) (e2 := em) (h := h) (p := .freeze (frzOf P o at_).1 (frzOf P o at_).2 at_ (.t d')) (fun _ _ _ k => by cases k) (fun s hs => by
            simp only [slotsI, sl, List.mem_singleton] at hs
            rw [hs]; exact hag d' hdst)
          have he2 := eval_env (fun _ _ _ k => by cases k) hev
          subst he2
          rw [hev] at hev2
          simp only [reE] at hev2
          obtain ⟨_, S', x1, hf'⟩ := snd_freeze hf (hdd d' hdst) hc.1.1 hc.1.2 hc.2 hev2
          refine ⟨S', _, _, h2, hf', hW, .ext x1 (fun t ht => ⟨?_, rfl⟩), ?_, fun _ _ => rfl⟩
          · have : d' ≠ t := fun k => by subst k; rw [hc.1.1] at ht; cases ht
            rw [Tr.get_put, if_neg this]
          · rw [hdst]
            exact Chg.put (d := some d')
        · cases hW
      · exact absurd (if_neg hc) hz
    · exact absurd rfl hz

end
end Go.AM

set_option linter.unusedVariables false
set_option linter.unusedSimpArgs false
namespace Go.AM
open Go
section
variable {P : Program} {G : GTab} {A : Ann} {S S' S0 : Sim} {e e' em env : Env} {h h' : Heap} {a a' : Act} {w w' w0 : World} {o : Oper} {v : AV} {reg i : Nat} {ops : Array Oper} {R : List Item} {Q : Env → Heap → Prop} {K : Act → World → Prop} {Qc : Go.Exit → Act → World → Prop}

/-- a slot with an address names a local variable that is there -/
theorem adr_there (he : ERel A S em a w) {i t off : Nat} (h : em.get i = some (.adr t off)) : A.adrs.contains i = true ∧ ∃ u, em.get t = some u := by
  have hs := he.slot i _ h
  unfold SlotRel at hs
  split at hs
  · obtain ⟨b, _, _, l, el, fr, _, hr, _⟩ := hs
    simp only [AV.cells, VRelL, VRel] at hr
    obtain ⟨_, _, _, k, _⟩ := hr
    exact k.elim
  · split at hs
    · rename_i hp hq
      rcases hs with ⟨k, _⟩ | ⟨t', off', b, k, _, h2, _⟩
      · cases k
      · cases k; exact ⟨hq, h2⟩
    · simp only [VRel] at hs

theorem FRel.skip (hf : FRel A G S0 w0 S h em a w) {d : Option Nat} (hd : ∀ k, d = some k → k < A.ntmps ∧ A.prom.contains k = false) : FRel A G S0 w0 S h (putD em d (.tup [])) (a.put d undef) w := by
  cases d with
  | none => exact hf
  | some d =>
    obtain ⟨h1, h2⟩ := hd d rfl
    exact ⟨hf.ext, hf.wr, hf.er.skip h1 h2, low_put (Nat.lt_of_lt_of_le h1 hf.er.size) h2 hf.low⟩

theorem Nxt.skip (hf : FRel A G S0 w0 S h em a w) {d : Option Nat} (hd : ∀ k, d = some k → k < A.ntmps ∧ A.prom.contains k = false) {wr : List Nat} (hwr : ∀ s ∈ wr, em.get s = env.get s) (hW : wItems (ACall P G) R Q (putD env d (.tup [])) h) :
    Nxt P G A S0 w0 S env em a w d wr R Q (a.put d undef) w S (putD env d (.tup [])) (putD em d (.tup [])) h :=
  ⟨hf.skip hd, hW, .ext (.refl S w) (plain_locals fun k hk => ⟨Nat.lt_of_lt_of_le (hd k hk).1 hf.er.size, (hd k hk).2⟩), Chg.put.weak hwr, put_tm fun k hk => Nat.lt_of_lt_of_le (hd k hk).1 hf.er.size⟩

theorem run_op {g : Guard} {p : IOp} (hd : ∀ k, o.dst = some k → k < A.ntmps) (hpg : ∀ k, o.dst = some k → A.prom.contains k = true → o.guard = none) (hg : guardOf A ops o.guard = some g) (hc : compOp P G A reg i o.dst o.op = some p)
    (hf : FRel A G S0 w0 S h em a w) (hW : wItems (ACall P G) (.op o.dst g p :: R) Q env h) (hag : ∀ s ∈ slotsM (.op o.dst g p), em.get s = env.get s) (hag2 : ∀ d, o.dst = some d → em.get d = env.get d)
    (hK : ∀ a' w' S' env' em' h', Nxt P G A S0 w0 S env em a w o.dst (wrI p) R Q a' w' S' env' em' h' → K a' w') :
    if Region.wanted o (yielded ops a.tmps) then o.wp P a w K Qc else K (a.put o.dst undef) w := by
  simp only [slotsM, List.mem_append] at hag
  have hag1 : ∀ s ∈ slG g, em.get s = env.get s := fun s hs => hag s (.inl hs)
  have hag3 : ∀ s ∈ slotsI p, em.get s = env.get s := fun s hs => hag s (.inr hs)
  have hwrs : ∀ s ∈ wrI p, s ∈ slotsI p := fun s hs => by
    cases p <;> simp only [wrI, List.not_mem_nil] at hs
    rename_i n x y
    cases x <;> simp only [wrI, List.not_mem_nil, List.mem_singleton] at hs <;> subst hs <;> simp [slotsI, sl]
  have hwr : ∀ s ∈ wrI p, em.get s = env.get s := fun s hs => hag3 s (hwrs s hs)
  simp only [wItems] at hW
  split at hW
  · rename_i hwt
    rw [guard_rel hg hwt hag1 hf.er]
    simp only [if_true]
    split at hW
    · rename_i v e' h' hev
      obtain ⟨hfr, hW⟩ := hW
      obtain ⟨e2', hev2, hcase⟩ := eval_agree2 (e2 := em) hag3 hev
      obtain ⟨c, w', S', hrun, hf', hfrm⟩ := step_op hf hd hc hev2 (fun hl d hdd hp j off hj => by
        have hn : env.get d = none := by
          rcases hl with ⟨z, rfl⟩ | ⟨x, rfl⟩ <;> simp only [fresh, hdd, Option.isNone_iff_eq_none] at hfr <;> exact hfr
        obtain ⟨_, u, hu⟩ := adr_there hf.er hj
        rw [hag2 d hdd, hn] at hu
        cases hu)
      have hchg : Chg o.dst (wrI p) env em (putD e' o.dst v) (putD e2' o.dst v) := by
        rcases hcase with ⟨rfl, rfl⟩ | ⟨t, u, h1, h2, rfl, rfl⟩
        · exact Chg.put.weak hwr
        · exact Chg.store h1 hwr
      have hkk := hK _ _ S' _ _ h' ⟨hf', hW, hfrm, hchg, put_tm fun k hk => Nat.lt_of_lt_of_le (hd k hk) hf.er.size⟩
      unfold Oper.wp
      rcases hrun with hrun | ⟨hrun, rfl⟩
      · rw [hrun, Oper.upon_value]; exact hkk
      · rw [hrun, Oper.upon_skip]; exact hkk
    · exact hW.elim
  · rename_i hwt
    rw [guard_rel hg hwt hag1 hf.er]
    simp only [Bool.false_eq_true, if_false]
    refine hK _ _ S _ _ h (Nxt.skip hf (fun k hk => ⟨hd k hk, ?_⟩) hwr hW)
    cases hp : A.prom.contains k with
    | false => rfl
    | true =>
      have := hpg k hk hp
      rw [this] at hg
      simp only [guardOf, Option.some.injEq] at hg
      subst hg
      simp [wanted] at hwt
  · exact hW.elim

theorem run_next {g : Guard} {it : Operand} {oi : Opd} (hd : ∀ k, o.dst = some k → k < A.ntmps) (hpl : Plain A o.dst) (hg : guardOf A ops o.guard = some g) (hop : o.op = .next it false) (hi : opd G A it = some oi)
    (hf : FRel A G S0 w0 S h em a w) (hW : wItems (ACall P G) (.nextM o.dst g oi :: R) Q env h) (hag : ∀ s ∈ slotsM (.nextM o.dst g oi), em.get s = env.get s)
    (hK : ∀ a' w' S' env' em' h', Nxt P G A S0 w0 S env em a w o.dst [] R Q a' w' S' env' em' h' → K a' w') :
    if Region.wanted o (yielded ops a.tmps) then o.wp P a w K Qc else K (a.put o.dst undef) w := by
  simp only [slotsM, List.mem_append] at hag
  have hag1 : ∀ s ∈ slG g, em.get s = env.get s := fun s hs => hag s (.inl hs)
  have hv0 := val_agree (e := env) (e2 := em) (x := oi) fun s hs => hag s (.inr hs)
  have fin : ∀ {v h'}, Out P G S w h' v (execOp a.eval o) → wItems (ACall P G) R Q (putD env o.dst v) h' → o.wp P a w K Qc := fun {v h'} ho hW => by
    obtain ⟨c, w', S', hrun, hf', hfrm⟩ := hf.out ho (d := o.dst) fun k hk => ⟨hd k hk, hpl k hk⟩
    have hkk := hK _ _ S' _ _ h' ⟨hf', hW, hfrm, Chg.put, put_tm fun k hk => Nat.lt_of_lt_of_le (hd k hk) hf.er.size⟩
    unfold Oper.wp
    rcases hrun with hrun | ⟨hrun, rfl⟩
    · rw [hrun, Oper.upon_value]; exact hkk
    · rw [hrun, Oper.upon_skip]; exact hkk
  simp only [wItems] at hW
  split at hW
  · rename_i hwt
    rw [guard_rel hg hwt hag1 hf.er]
    simp only [if_true]
    split at hW
    · rename_i r hv
      have hv' : val em oi = some (.ptr r 0) := by rw [hv0]; exact hv
      split at hW
      · rename_i es c left cur hgr
        exact fin ((snd_nextN hop hi hf.er hf.wr hv' hgr).out hf.wr) hW
      · rename_i m es c left cur hgr
        obtain ⟨hm, hW⟩ := hW
        rcases snd_nextM hop hi hf.er hf.wr hv' hgr hm with ⟨rfl, ho⟩ | ⟨p, q, k, v, n, rfl, ho⟩
        · exact fin ho hW
        · cases hpq : p ++ (k, v, n) :: q with
          | nil => simp at hpq
          | cons x xs =>
            rw [hpq] at hW
            exact fin ho (hW p q k v n hpq.symm)
      · exact hW.elim
    · exact hW.elim
  · rename_i hwt
    rw [guard_rel hg hwt hag1 hf.er]
    simp only [Bool.false_eq_true, if_false]
    exact hK _ _ S _ _ h (Nxt.skip hf (fun k hk => ⟨hd k hk, (hpl k hk).1⟩) (by simp) hW)
  · exact hW.elim

theorem run_call {g : Guard} {fo : Operand} {args : Array Operand} {argTypes : Array TypeId} {cl : Callee} {l : List Opd} (hd : ∀ k, o.dst = some k → k < A.ntmps) (hpl : Plain A o.dst) (hg : guardOf A ops o.guard = some g)
    (hop : o.op = .call { callee := .value fo, args := args, argTypes := argTypes }) (hl : opds G A args.toList = some l) (hcl : (∃ f, fo = .func f ∧ cl = .fn f) ∨ ∃ x, opd G A fo = some x ∧ cl = .dyn x)
    (hf : FRel A G S0 w0 S h em a w) (hW : wItems (ACall P G) (.call o.dst g cl l :: R) Q env h) (hag : ∀ s ∈ slotsM (.call o.dst g cl l), em.get s = env.get s)
    (hK : ∀ a' w' S' env' em' h', Nxt P G A S0 w0 S env em a w o.dst [] R Q a' w' S' env' em' h' → K a' w') :
    if Region.wanted o (yielded ops a.tmps) then o.wp P a w K Qc else K (a.put o.dst undef) w := by
  simp only [slotsM, List.mem_append] at hag
  have hag1 : ∀ s ∈ slG g, em.get s = env.get s := fun s hs => hag s (.inl (.inl hs))
  have hvs := vals_agree (e := env) (e2 := em) (l := l) fun s hs => hag s (.inr hs)
  simp only [wItems] at hW
  split at hW
  · rename_i hwt
    rw [guard_rel hg hwt hag1 hf.er]
    simp only [if_true]
    split at hW
    · rename_i f vs hcal
      obtain ⟨⟨fn, hfn, hbody, hname⟩, hcall⟩ := hW
      -- the function and its arguments
      obtain ⟨first, cap, cargs, hfo, hrel⟩ : ∃ (first cap : Array Value) (cargs : List Value), a.eval fo = .func (.func f) first cap ∧ VRelL S vs (first.toList ++ (args.toList.map a.eval) ++ cap.toList) := by
        rcases hcl with ⟨f', rfl, rfl⟩ | ⟨x, hx, rfl⟩
        · simp only [callee] at hcal
          split at hcal
          · rename_i l' hl'
            cases hcal
            refine ⟨#[], #[], [], rfl, ?_⟩
            have := opds_rel hl hf.er hf.wr (by rw [hvs]; exact hl')
            simpa using this
          · cases hcal
        · simp only [callee] at hcal
          split at hcal
          · rename_i f' x' y' hv
            split at hcal
            · rename_i l' hl'
              cases hcal
              have h1 := opds_rel hl hf.er hf.wr (by rw [hvs]; exact hl')
              have h2 := opd_rel hx hf.er hf.wr (by rw [val_agree (e := env) (e2 := em) fun s hs => hag s (.inl (.inr hs))]; exact hv)
              simp only [VRel] at h2
              obtain ⟨cx, cy, h2, h3, h4⟩ := h2
              refine ⟨cx.toArray, cy.toArray, [], h2, ?_⟩
              exact (h3.app h1).app h4
            · cases hcal
          · cases hcal
      have hrun : (execOp a.eval o).run P w = .ok (.enter f (List.toArray (first.toList ++ (args.toList.map a.eval) ++ cap.toList))) w := by
        have hargs : first ++ args.map a.eval ++ cap = List.toArray (first.toList ++ (args.toList.map a.eval) ++ cap.toList) := by
          apply Array.ext'
          simp
        have hname' : (fn.name == "runtime.NumGoroutine") = false := by simpa using hname
        have hbody' : fn.body.isNone = false := by cases hb : fn.body with | none => rw [hb] at hbody; cases hbody | some _ => rfl
        simp only [execOp, hop, resolve, hfo, Deferred.ofValue, Sem.run_bind, Sem.run_pure, Result.andThen_ok, invoke, callFunc, program, Sem.run, hfn, hname', hbody', Bool.false_eq_true, if_false, hargs]
      unfold Oper.wp
      rw [hrun, Oper.upon_enter]
      refine Calls.mono (hcall S w _ hf.wr hrel) fun r w' hr => ?_
      obtain ⟨c, v, S', h', rfl, hq, hx, hw', hv⟩ := hr
      refine hK _ _ S' _ _ h' ⟨?_, hq, .ext hx (plain_locals fun k hk => ⟨Nat.lt_of_lt_of_le (hd k hk) hf.er.size, (hpl k hk).1⟩), Chg.put, put_tm fun k hk => Nat.lt_of_lt_of_le (hd k hk) hf.er.size⟩
      refine ⟨hf.ext.trans hx, hw', ?_, ?_⟩
      · cases hq : o.dst with
        | none => exact hf.er.ext hx
        | some d => exact (hf.er.ext hx).put (hd d hq) (hpl d hq).1 (hpl d hq).2 hv
      · cases hq : o.dst with
        | none => exact hf.low
        | some d => exact low_put (Nat.lt_of_lt_of_le (hd d hq) hf.er.size) (hpl d hq).1 hf.low
    · exact hW.elim
  · rename_i hwt
    rw [guard_rel hg hwt hag1 hf.er]
    simp only [Bool.false_eq_true, if_false]
    exact hK _ _ S _ _ h (Nxt.skip hf (fun k hk => ⟨hd k hk, (hpl k hk).1⟩) (by simp) hW)
  · exact hW.elim

end
end Go.AM

set_option linter.unusedVariables false
set_option linter.unusedSimpArgs false
namespace Go.AM
open Go
section
variable {P : Program} {G : GTab} {A : Ann} {S S' S0 : Sim} {e e' em env : Env} {h h' : Heap} {a a' : Act} {w w' w0 : World} {o : Oper} {v : AV} {reg i : Nat} {ops : Array Oper} {R : List Item} {Q : Env → Heap → Prop} {K : Act → World → Prop} {Qc : Go.Exit → Act → World → Prop}

theorem plainB_some {d : Option Nat} (h : ¬((!plainB A d) = true)) : Plain A d := fun k hk => by
  subst hk
  simpa [plainB, isPd, isSd] using h

theorem Chg.trans {d : Option Nat} {wr : List Nat} {env1 em1 env2 em2 : Env} (h : Chg d wr env em env1 em1) (k : Chg d [] env1 em1 env2 em2) : Chg d wr env em env2 em2 := by
  refine ⟨fun s hs hw => ?_, fun s hs => ?_⟩
  · obtain ⟨h1, h2⟩ := h.1 s hs hw
    obtain ⟨k1, k2⟩ := k.1 s hs (by simp)
    exact ⟨k1.trans h1, k2.trans h2⟩
  · by_cases hd : d = some s
    · exact k.2 s (.inl hd)
    · obtain ⟨k1, k2⟩ := k.1 s hd (by simp)
      rw [k1, k2]
      exact h.2 s hs

theorem run_item {x : List Item} (hc : compItem P G A reg ops i o = some x) (hf : FRel A G S0 w0 S h em a w) (hW : wItems (ACall P G) (x ++ R) Q env h) (hag : ∀ s ∈ x.flatMap slotsM, em.get s = env.get s) (hag2 : ∀ d, o.dst = some d → em.get d = env.get d)
    (hK : ∀ a' w' S' env' em' h', Nxt P G A S0 w0 S env em a w o.dst (x.flatMap wrM) R Q a' w' S' env' em' h' → K a' w') :
    if Region.wanted o (yielded ops a.tmps) then o.wp P a w K Qc else K (a.put o.dst undef) w := by
  unfold compItem at hc
  split at hc
  · cases hc
  · rename_i hdc
    have hd : ∀ k, o.dst = some k → k < A.ntmps := fun k hk => by
      simp only [dstOk, hk, Bool.not_eq_true, Bool.not_eq_false', Bool.and_eq_true, decide_eq_true_eq] at hdc
      exact hdc.1
    have hpg : ∀ k, o.dst = some k → A.prom.contains k = true → o.guard = none := fun k hk hp => by
      simp only [dstOk, hk, Bool.not_eq_true, Bool.not_eq_false', Bool.and_eq_true, decide_eq_true_eq, hp, Bool.not_true, Bool.false_or, Option.isNone_iff_eq_none] at hdc
      exact hdc.2
    split at hc
    · cases hc
    · rename_i g hg
      split at hc
      · rename_i m hm
        split at hc
        case isFalse => cases hc
        cases hc
        -- behind the main item
        have fin : ∀ {wr : List Nat}, wr = (m :: frzItems P A reg i o).flatMap wrM → ∀ a' w' S' env' em' h', Nxt P G A S0 w0 S env em a w o.dst wr (frzItems P A reg i o ++ R) Q a' w' S' env' em' h' → K a' w' := fun hwr a' w' S' env' em' h' hn => by
          obtain ⟨S2, env2, em2, h2, hn2⟩ := run_frz (P := P) (reg := reg) (i := i) (o := o) (d := 0) (fun _ => hd 0 ‹_›) hn.fr hn.wi (fun d hdd => hn.chg.2 d (.inl hdd)) hd
          exact hK _ _ S2 env2 em2 h2 ⟨hn2.fr, hn2.wi, hn.frm.trans hn2.frm, hwr ▸ hn.chg.trans hn2.chg, fun s hs => (hn2.tmk s hs).trans (hn.tmk s hs)⟩
        have hfw : (frzItems P A reg i o).flatMap wrM = [] := by
          unfold frzItems
          split
          · simp only
            split
            · rfl
            · rfl
          · rfl
        have hag' : ∀ s ∈ slotsM m, em.get s = env.get s := fun s hs => hag s (by rw [List.flatMap_cons]; exact List.mem_append_left _ hs)
        rw [List.cons_append] at hW
        unfold compMain at hm
        split at hm
        · rename_i fo args argTypes hop
          split at hm
          · cases hm
          · rename_i hpl
            have hpl := plainB_some hpl
            split at hm
            · rename_i l hl
              split at hm
              · rename_i f
                cases hm
                exact run_call hd hpl hg hop hl (.inl ⟨f, rfl, rfl⟩) hf hW hag' (fin (by rw [List.flatMap_cons, hfw]; rfl))
              · split at hm
                · rename_i x hx
                  cases hm
                  exact run_call hd hpl hg hop hl (.inr ⟨x, hx, rfl⟩) hf hW hag' (fin (by rw [List.flatMap_cons, hfw]; rfl))
                · cases hm
            · cases hm
        · rename_i it hop
          split at hm
          · cases hm
          · rename_i hpl
            have hpl := plainB_some hpl
            split at hm
            · rename_i oi hi
              cases hm
              exact run_next hd hpl hg hop hi hf hW hag' (fin (by rw [List.flatMap_cons, hfw]; rfl))
            · cases hm
        · split at hm
          · rename_i p hp
            cases hm
            exact run_op hd hpg hg hp hf hW hag' hag2 (fin (by rw [List.flatMap_cons, hfw]; simp [wrM]))
          · cases hm
      · cases hc

theorem frz_wr : (frzItems P A reg i o).flatMap wrM = [] := by
  unfold frzItems
  split
  · simp only
    split
    · rfl
    · rfl
  · rfl

/-- only local variables are written in their slots -/
theorem item_wr {x : List Item} (hc : compItem P G A reg ops i o = some x) : ∀ s ∈ x.flatMap wrM, A.prom.contains s = true := fun s hs => by
  unfold compItem at hc
  split at hc
  · cases hc
  · split at hc
    · cases hc
    · split at hc
      · split at hc
        · rename_i hall
          cases hc
          rw [List.flatMap_cons, frz_wr, List.append_nil] at hs
          exact List.all_eq_true.1 hall s hs
        · cases hc
      · cases hc

/-! ### Regions in the order of their text -/

/-- where the slots with addresses may lie -/
def AdrIn (K : List Nat) (e : Env) : Prop := ∀ i t off, e.get i = some (.adr t off) → i ∈ K

theorem FRel.congr (hf : FRel A G S0 w0 S h e a w) (he : ∀ s, e'.get s = e.get s) : FRel A G S0 w0 S h e' a w := by
  refine ⟨hf.ext, hf.wr, ⟨fun i v hv => ?_, fun i j b o p hi hj hie hje h3 h4 => ?_, hf.er.size, hf.er.defers⟩, fun i v b o hi hv hb => ?_⟩
  · have hs := hf.er.slot i v (by rw [← he]; exact hv)
    unfold SlotRel at *
    split
    · rename_i hp; rw [if_pos hp] at hs; exact hs
    · rename_i hp
      rw [if_neg hp] at hs
      split
      · rename_i hq
        rw [if_pos hq] at hs
        rcases hs with k | ⟨t, off, b, h1, h2, h3, h4, h5⟩
        · exact .inl k
        · exact .inr ⟨t, off, b, h1, h2, by rw [he]; exact h3, h4, h5⟩
      · rename_i hq; rw [if_neg hq] at hs; exact hs
  · rw [he] at hie hje
    exact hf.er.apart i j b o p hi hj hie hje h3 h4
  · exact hf.low i v b o hi (by rw [← he]; exact hv) hb

/-- slots with addresses: new ones lie where an operation of the region puts one -/
theorem adrIn_next {K' : List Nat} {wr : List Nat} {a1 : Act} {w1 : World} {S1 : Sim} {env1 em1 : Env} {h1 : Heap} (hn : Nxt P G A S0 w0 S env em a w o.dst wr R Q a1 w1 S1 env1 em1 h1) (hK : AdrIn K' em) (hwr : ∀ s ∈ wr, A.adrs.contains s = false ∨ em1.get s = em.get s) (hd : ∀ d, o.dst = some d → A.adrs.contains d = true → d ∈ K') : AdrIn K' em1 := fun i t off hi => by
  obtain ⟨hadr, _⟩ := adr_there hn.fr.er hi
  by_cases h1 : o.dst = some i
  · exact hd i h1 hadr
  · by_cases h2 : i ∈ wr
    · rcases hwr i h2 with k | k
      · rw [k] at hadr; cases hadr
      · rw [k] at hi; exact hK i t off hi
    · rw [(hn.chg.1 i h1 h2).2] at hi
      exact hK i t off hi

end
end Go.AM

set_option linter.unusedVariables false
set_option linter.unusedSimpArgs false
namespace Go.AM
open Go
section
variable {P : Program} {G : GTab} {A : Ann} {S S' S0 : Sim} {e e' em env : Env} {h h' : Heap} {a a' : Act} {w w' w0 : World} {o : Oper} {v : AV} {reg i : Nat} {ops : Array Oper} {R : List Item} {Q : Env → Heap → Prop} {K : List Nat} {Qc : Go.Exit → Act → World → Prop}

theorem annOk_spec (h : annOk A = true) : (∀ d, A.adrs.contains d = true → A.prom.contains d = false) ∧ ∀ d, A.adrs.contains d = true → A.prom.contains (A.baseOf d) = true := by
  simp only [annOk, Bool.and_eq_true, List.all_eq_true] at h
  refine ⟨fun d hd => ?_, fun d hd => ?_⟩
  · have := h.1 d (by simpa using hd)
    simpa using this
  · have hd' : d ∈ A.base.map (·.1) := by simpa [Ann.adrs] using hd
    unfold Ann.baseOf
    obtain ⟨x, hx, rfl⟩ := List.mem_map.1 hd'
    have hsome : (A.base.find? fun y => y.1 == x.1).isSome = true := by
      rw [List.find?_isSome]; exact ⟨x, hx, by simp⟩
    obtain ⟨y, hy⟩ := Option.isSome_iff_exists.1 hsome
    rw [hy]
    exact h.2 y (List.mem_of_find?_eq_some hy)

/-! ### Regions in the order of their text -/

theorem compAll_seq (ha : annOk A = true) {hdst : ∀ o ∈ ops.toList, ∀ d, o.dst = some d → A.adrs.contains d = true → d ∈ K} {Qi : Env → Heap → Prop} (hpost : ∀ S env h a w, FRel A G S0 w0 S h env a w → AdrIn K env → Qi env h → Qc .normal a w) :
    ∀ (l : List Nat) (items : List Item) (S : Sim) (env : Env) (h : Heap) (a : Act) (w : World), compAll P G A reg ops l = some items → FRel A G S0 w0 S h env a w → AdrIn K env → wItems (ACall P G) items Qi env h → wpOps P ops Qc l a w
  | [], items, S, env, h, a, w, hc, hf, hk, hW => by
    simp only [compAll, Option.some.injEq] at hc
    subst hc
    exact hpost S env h a w hf hk hW
  | i :: l, items, S, env, h, a, w, hc, hf, hk, hW => by
    simp only [compAll] at hc
    split at hc
    · rename_i o ho
      split at hc
      · rename_i x r hx hr
        cases hc
        unfold wpOps
        rw [ho]
        have hmem : o ∈ ops.toList := by
          have := List.mem_of_getElem? (l := ops.toList) (i := i) (a := o) (by simpa using ho)
          exact this
        have key := run_item (Qc := Qc) (K := fun a w => wpOps P ops Qc l a w) hx hf hW (fun _ _ => rfl) (fun _ _ => rfl) (fun a' w' S' env' em' h' hn => by
          have hk' : AdrIn K em' := adrIn_next hn hk (fun s hs => .inl (by
            cases hq : A.adrs.contains s with
            | false => rfl
            | true =>
              have h1 := item_wr hx s hs
              rw [(annOk_spec ha).1 s hq] at h1
              cases h1)) (hdst o hmem)
          have heq : ∀ s, env'.get s = em'.get s := fun s => by
            by_cases h1 : o.dst = some s
            · exact (hn.chg.2 s (.inl h1)).symm
            · by_cases h2 : s ∈ x.flatMap wrM
              · exact (hn.chg.2 s (.inr h2)).symm
              · obtain ⟨q1, q2⟩ := hn.chg.1 s h1 h2
                rw [q1, q2]
          exact compAll_seq ha (hdst := hdst) hpost l r S' env' h' a' w' hr (hn.fr.congr heq) (fun j t off hj => hk' j t off (by rw [← heq]; exact hj)) hn.wi)
        simp only
        split
        · rename_i hw'
          rw [if_pos hw'] at key
          exact .inl key
        · rename_i hw'
          rw [if_neg hw'] at key
          exact key
      · cases hc
    · cases hc

/-- slots with addresses go at a region's end -/
theorem FRel.dels : ∀ {l : List Nat} {env : Env}, FRel A G S0 w0 S h env a w → (∀ d ∈ l, A.prom.contains d = false) → FRel A G S0 w0 S h (Env.dels env l) a w
  | [], _, hf, _ => hf
  | d :: l, env, hf, hl => by
    have h1 : FRel A G S0 w0 S h (env.del d) a w := by
      refine ⟨hf.ext, hf.wr, hf.er.del (hl d (by simp)), fun i v b o hi hv hb => ?_⟩
      rw [Tr.get_del] at hv
      split at hv
      · cases hv
      · exact hf.low i v b o hi hv hb
    have h2 := FRel.dels (l := l) h1 fun d hd => hl d (by simp [hd])
    exact h2

theorem dels_get : ∀ {l : List Nat} {env : Env} {s : Nat}, (Env.dels env l).get s = if s ∈ l then none else env.get s
  | [], env, s => by simp [Env.dels]
  | d :: l, env, s => by
    simp only [Env.dels]
    rw [dels_get, Tr.get_del]
    by_cases h1 : s ∈ l
    · simp [h1]
    · by_cases h2 : d = s
      · subst h2; simp
      · simp [h1, h2]
        intro h3; exact absurd h3.symm h2

/-- no slot holds an address -/
def NoAdr (e : Env) : Prop := ∀ i t off, e.get i ≠ some (.adr t off)

/-- local variables that a region makes anew go at its beginning -/
theorem FRel.news (hf : FRel A G S0 w0 S h env a w) (hn : NoAdr env) {l : List Nat} : FRel A G S0 w0 S h (Env.dels env l) a w := by
  refine ⟨hf.ext, hf.wr, ⟨fun i v hv => ?_, fun i j b o p hi hj hie hje h3 h4 => ?_, hf.er.size, hf.er.defers⟩, fun i v b o hi hv hb => ?_⟩
  · rw [dels_get] at hv
    split at hv
    · cases hv
    · have hs := hf.er.slot i v hv
      unfold SlotRel at *
      split
      · rename_i hp; rw [if_pos hp] at hs; exact hs
      · rename_i hp
        rw [if_neg hp] at hs
        split
        · rename_i hq
          rw [if_pos hq] at hs
          rcases hs with k | ⟨t, off, b, rfl, _⟩
          · exact .inl k
          · exact absurd hv (hn i t off)
        · rename_i hq; rw [if_neg hq] at hs; exact hs
  · have key : ∀ k, (∃ v, (Env.dels env l).get k = some v) → ∃ v, env.get k = some v := fun k ⟨v, hv⟩ => by
      rw [dels_get] at hv
      split at hv
      · cases hv
      · exact ⟨v, hv⟩
    exact hf.er.apart i j b o p hi hj (key i hie) (key j hje) h3 h4
  · rw [dels_get] at hv
    split at hv
    · cases hv
    · exact hf.low i v b o hi hv hb

end
end Go.AM

set_option linter.unusedVariables false
set_option linter.unusedSimpArgs false
namespace Go.AM
open Go
section
variable {P : Program} {G : GTab} {A : Ann} {S S' S0 : Sim} {e e' em env : Env} {h h' h2 : Heap} {a a' : Act} {w w' w0 : World} {o : Oper} {v : AV} {reg i : Nat} {ops : Array Oper} {up : Array Nat} {its : List (List Item)}

/-! ### Regions whose order is drawn: what is fixed -/

/-- `j` comes before `i` -/
def Pr (ops : Array Oper) (i j : Nat) : Prop := ∃ o e, ops[i]? = some o ∧ e ∈ o.after ∧ Region.binds .any e = true ∧ e.on = j

structure Stat (P : Program) (G : GTab) (A : Ann) (reg : Nat) (ops : Array Oper) (up : Array Nat) (its : List (List Item)) : Prop where
  upc : ∀ i j, i < ops.size → j < ops.size → inUp up i j = true → ∃ k, Pr ops i k ∧ (k = j ∨ inUp up k j = true)
  back : ∀ i j, Pr ops i j → j < i
  sl : ∀ k d i, k < ops.size → i < ops.size → dstAt ops k = some d → i ≠ k → (dstAt ops i = some d ∨ d ∈ slotsAt its i) → inUp up i k = true ∨ inUp up k i = true
  it : ∀ i o, ops[i]? = some o → compItem P G A reg ops i o = some (itAt its i)
  len : its.length = ops.size

theorem mem_rng {i : Nat} (h : i < ops.size) : i ∈ rng ops := List.mem_range.2 h

theorem pr_lt {i j : Nat} (h : Pr ops i j) : i < ops.size := by
  obtain ⟨o, e, h, _⟩ := h
  exact (Array.getElem?_eq_some_iff.1 h).1

theorem itemsOf_at : ∀ (l : List Oper) (i : Nat) (its : List (List Item)), itemsOf P G A reg ops i l = some its → its.length = l.length ∧ ∀ (k : Nat) o, l[k]? = some o → compItem P G A reg ops (i + k) o = some (its.getD k [])
  | [], i, its, h => by
    simp only [itemsOf, Option.some.injEq] at h; subst h; exact ⟨rfl, fun k o hk => by simp at hk⟩
  | o :: l, i, its, h => by
    simp only [itemsOf] at h
    split at h
    · rename_i x r hx hr
      cases h
      obtain ⟨h1, h2⟩ := itemsOf_at l (i + 1) r hr
      refine ⟨by simp [h1], fun k o' hk => ?_⟩
      cases k with
      | zero => simp at hk; subst hk; simpa using hx
      | succ k =>
        have := h2 k o' (by simpa using hk)
        rw [show i + 1 + k = i + (k + 1) by omega] at this
        simpa using this
    · cases h

theorem stat_of (h1 : upOk ops up = true) (h2 : backOk ops = true) (h3 : slotsOk ops up its = true) (h4 : itemsOf P G A reg ops 0 ops.toList = some its) : Stat P G A reg ops up its := by
  obtain ⟨k1, k2⟩ := itemsOf_at _ _ _ h4
  refine ⟨fun i j hi hj hij => ?_, fun i j hp => ?_, fun k d i hk hi hd hne hor => ?_, fun i o ho => ?_, by simpa using k1⟩
  · simp only [upOk, List.all_eq_true] at h1
    have := h1 i (mem_rng hi) j (mem_rng hj)
    rw [hij] at this
    simp only [Bool.not_true, Bool.false_or] at this
    split at this
    · rename_i o ho
      rw [Array.any_eq_true'] at this
      obtain ⟨e, he, h⟩ := this
      simp only [Bool.and_eq_true, Bool.or_eq_true, beq_iff_eq] at h
      exact ⟨e.on, ⟨o, e, ho, he, h.1, rfl⟩, h.2⟩
    · cases this
  · have hi := pr_lt hp
    obtain ⟨o, e, ho, he, hb, rfl⟩ := hp
    simp only [backOk, List.all_eq_true] at h2
    have := h2 i (mem_rng hi)
    rw [ho] at this
    simp only [Array.all_eq_true_iff_forall_mem] at this
    have := this e he
    simpa [hb] using this
  · simp only [slotsOk, List.all_eq_true] at h3
    have := h3 k (mem_rng hk)
    rw [hd] at this
    simp only [List.all_eq_true] at this
    have := this i (mem_rng hi)
    simp only [Bool.or_eq_true, Bool.and_eq_true, beq_iff_eq, bne_iff_ne, ne_eq, Bool.not_eq_true'] at this
    rcases this with h | ⟨h5, h6⟩
    · exact absurd h hne
    · rcases hor with hor | hor
      · rcases h5 with (h5 | h5) | h5
        · exact absurd hor h5
        · exact .inl h5
        · exact .inr h5
      · rcases h6 with (h6 | h6) | h6
        · rw [← Bool.not_eq_true] at h6
          exact absurd (by simpa using hor) h6
        · exact .inl h6
        · exact .inr h6
  · have := k2 i o (by simpa using ho)
    rw [Nat.zero_add] at this
    exact this

/-- a set that holds with every operation what comes before it -/
def Closed (ops : Array Oper) (D : Nat → Prop) : Prop := ∀ i j, D i → Pr ops i j → D j

theorem Stat.closed_up (st : Stat P G A reg ops up its) {D : Nat → Prop} (hD : Closed ops D) : ∀ (n i j : Nat), i < n → i < ops.size → j < ops.size → (∀ k, Pr ops i k → D k) → inUp up i j = true → D j
  | 0, i, j, h, _, _, _, _ => by omega
  | n + 1, i, j, h, hi, hj, hp, hu => by
    obtain ⟨k, h1, h2⟩ := st.upc i j hi hj hu
    have hk := hp k h1
    rcases h2 with rfl | h2
    · exact hk
    · have hki := st.back i k h1
      exact st.closed_up hD n k j (by omega) (by omega) hj (fun m hm => hD k m hk hm) h2

/-! ### What waits -/

def Pend (env : Env) (h : Heap) (x : List Item) : Prop := ∃ d g p b, x = [.op d g p] ∧ pureI p = true ∧ wanted env g = some b ∧
  (b = true → ∃ v, evalOp env h p = some (v, env, h) ∧ ∀ s, d = some s → env.get s = some v) ∧ (b = false → ∀ s, d = some s → env.get s = some (.tup []))

theorem pure_wr {p : IOp} (h : pureI p = true) : wrI p = [] := by
  cases p <;> first | rfl | simp [pureI] at h
theorem pure_env {p : IOp} {v : AV} (hp : pureI p = true) (hev : evalOp env h p = some (v, e', h')) : e' = env ∧ h' = h := by
  refine ⟨eval_env (fun n a x k => ?_) hev, pure_heap hp hev⟩
  subst k; simp [pureI] at hp

/-- what waits still waits when other slots turn, and memory, if it does not look at memory -/
theorem Pend.keep {x : List Item} {env' : Env} {d : Option Nat} (hx : Pend env h x) (hd : ∀ d' g p, x = [.op d' g p] → d' = d) (hs : ∀ s ∈ x.flatMap slotsM, env'.get s = env.get s) (hd2 : ∀ s, d = some s → env'.get s = env.get s)
    (hh : (∀ r y, h.get r = some y → h2.get r = some y) ∨ ∀ d g p, x = [.op d g p] → needChk p = false) : Pend env' h2 x := by
  obtain ⟨d', g, p, b, rfl, hp, hw, h1, h3⟩ := hx
  have := hd d' g p rfl
  subst this
  simp only [List.flatMap_cons, List.flatMap_nil, List.append_nil, slotsM, List.mem_append] at hs
  refine ⟨d', g, p, b, rfl, hp, by rw [wanted_agree fun s hs' => hs s (.inl hs')]; exact hw, fun hb => ?_, fun hb s hs' => by rw [hd2 s hs']; exact h3 hb s hs'⟩
  obtain ⟨v, hev, hv⟩ := h1 hb
  refine ⟨v, ?_, fun s hs' => by rw [hd2 s hs']; exact hv s hs'⟩
  obtain ⟨e2, hev2, hc⟩ := eval_agree2 (e2 := env') (fun s hs' => hs s (.inr hs')) hev
  have := (pure_env hp hev2).1
  subst this
  rcases hh with hh | hh
  · exact eval_more hp hh hev2
  · rw [eval_heap (h := h) hp (memI_chk (hh d' g p rfl)), hev2]
    rfl

end
end Go.AM
