/- Own work. This text shows: slices.Insert of one cell: its contract. -/
import Derived.Test.YtcipamnhmeplkaaGreatDoorIn1
import Derived.Test.YtcipamnhmeplkaaGreatDoorAl
import Derived.Test.YtcipamnhmeplkaaGreatDoorAm7
set_option linter.unusedVariables false
set_option linter.unusedSimpArgs false
namespace Go.AM.J
open Go Go.AM Go.Proofs

/-! ### Worlds -/
theorem setCell_same (w : World) (b o : Nat) (v : Value) : (w.setCell ⟨b, o, none⟩ v).heap.size = w.heap.size ∧ (∀ k, k ≠ b → (w.setCell ⟨b, o, none⟩ v).heap[k]? = w.heap[k]?) ∧
    ∀ c el fr, w.heap[b]? = some (.cells c el fr) → ∃ c', (w.setCell ⟨b, o, none⟩ v).heap[b]? = some (.cells c' el fr) ∧ c'.size = c.size := by
  refine ⟨by simp [World.setCell], fun k hk => ?_, fun c el fr hb => ?_⟩
  · simp only [World.setCell, Array.getElem?_modify]
    rw [if_neg (fun e => hk e.symm)]
  · simp only [World.setCell, Array.getElem?_modify, if_true, hb, Option.map_some]
    exact ⟨_, rfl, by simp⟩
theorem setCells_same (b : Nat) : ∀ (vs : List Value) (o : Nat) (w : World), (w.setCells b o vs).heap.size = w.heap.size ∧ (∀ k, k ≠ b → (w.setCells b o vs).heap[k]? = w.heap[k]?) ∧
    (∀ c el fr, w.heap[b]? = some (.cells c el fr) → ∃ c', (w.setCells b o vs).heap[b]? = some (.cells c' el fr) ∧ c'.size = c.size) ∧
    (w.setCells b o vs).os = w.os ∧ (w.setCells b o vs).tape = w.tape ∧ (w.setCells b o vs).output = w.output
  | [], o, w => ⟨rfl, fun _ _ => rfl, fun c el fr h => ⟨c, h, rfl⟩, rfl, rfl, rfl⟩
  | v :: vs, o, w => by
    obtain ⟨h1, h2, h3⟩ := setCell_same w b o v
    obtain ⟨k1, k2, k3, k4, k5, k6⟩ := setCells_same b vs (o + 1) (w.setCell ⟨b, o, none⟩ v)
    refine ⟨k1.trans h1, fun k hk => (k2 k hk).trans (h2 k hk), fun c el fr hb => ?_, k4, k5, k6⟩
    obtain ⟨c1, e1, e2⟩ := h3 c el fr hb
    obtain ⟨c2, e3, e4⟩ := k3 c1 el fr e1
    exact ⟨c2, e3, e4.trans e2⟩
theorem cell_of {w : World} {b o : Nat} {c : Array Value} {el : TypeId} {fr : Nat × Nat} (h : w.heap[b]? = some (.cells c el fr)) : w.cell? ⟨b, o, none⟩ = c[o]? := by
  simp [World.cell?, h]
theorem of_cell {w : World} {b o : Nat} {v : Value} (h : w.cell? ⟨b, o, none⟩ = some v) : ∃ c el fr, w.heap[b]? = some (.cells c el fr) ∧ c[o]? = some v := by
  unfold World.cell? at h
  split at h
  · rename_i c el fr hb
    exact ⟨c, el, fr, hb, by simpa using h⟩
  · simp at h
theorem push_of {H H' : Array Obj} {o : Obj} (h1 : H'.size = H.size + 1) (h2 : ∀ k, k < H.size → H'[k]? = H[k]?) (h3 : H'[H.size]? = some o) : H' = H.push o := by
  apply Array.ext_getElem?
  intro k
  rw [Array.getElem?_push]
  split
  · rename_i e; subst e; exact h3
  · by_cases hk : k < H.size
    · exact h2 k hk
    · rw [Array.getElem?_eq_none (by omega), Array.getElem?_eq_none (by omega)]
/-- what a row holds behind both copies -/
theorem cells_ins {w : World} {b o i n : Nat} {cs vs : List Value} (hi : i < n) (hcl : cs.length = n * 2) (hvl : vs.length = 2)
    (hcs : ∀ j v, j < i * 2 → cs[j]? = some v → w.cell? ⟨b, o + j, none⟩ = some v) (hsp : ∀ j, j < (n + 1) * 2 → (w.cell? ⟨b, o + j, none⟩).isSome = true)
    {w1 w2 : World} (h1 : w1 = w.setCells b (o + (i + 1) * 2) (cs.drop (i * 2))) (h2 : w2 = w1.setCells b (o + i * 2) vs) : Row w2 b o (cs.take (i * 2) ++ (vs ++ cs.drop (i * 2))) := by
  intro j v hj
  have hdl : (cs.drop (i * 2)).length = (n - i) * 2 := by rw [List.length_drop, hcl]; omega
  have s1 : ∀ k, k < (n + 1) * 2 → (w1.cell? ⟨b, o + k, none⟩).isSome = true := fun k hk => by
    rw [h1]
    exact Go.Proofs.isSome_setCells b _ _ _ (fun t ht => by rw [Nat.add_assoc]; exact hsp _ (by omega)) _ (hsp k hk)
  have htl : (cs.take (i * 2)).length = i * 2 := by rw [List.length_take]; omega
  by_cases c1 : j < i * 2
  · rw [List.getElem?_append_left (by omega), List.getElem?_take, if_pos c1] at hj
    rw [h2, World.cell?_setCells_out b _ _ _ _ (fun _ _ => .inl (by show o + j < o + i * 2; omega)), h1, World.cell?_setCells_out b _ _ _ _ (fun _ _ => .inl (by show o + j < o + (i + 1) * 2; omega))]
    exact hcs j v c1 hj
  · rw [List.getElem?_append_right (by omega), htl] at hj
    by_cases c2 : j < i * 2 + 2
    · rw [List.getElem?_append_left (by omega)] at hj
      have := World.cell?_setCells_in b vs (o + i * 2) w1 (fun t ht => by rw [Nat.add_assoc]; exact s1 _ (by omega)) (j - i * 2) (by omega)
      rw [h2, show o + j = o + i * 2 + (j - i * 2) by omega, this]
      rw [List.getElem?_eq_getElem (by omega)] at hj
      exact hj
    · rw [List.getElem?_append_right (by omega), hvl] at hj
      have hjl : j - i * 2 - 2 < (cs.drop (i * 2)).length := (List.getElem?_eq_some_iff.1 hj).1
      have := World.cell?_setCells_in b (cs.drop (i * 2)) (o + (i + 1) * 2) w (fun t ht => by rw [Nat.add_assoc]; exact hsp _ (by omega)) (j - i * 2 - 2) hjl
      rw [h2, World.cell?_setCells_out b _ _ _ _ (fun _ _ => .inr (by show o + i * 2 + vs.length ≤ o + j; omega)), h1, show o + j = o + (i + 1) * 2 + (j - i * 2 - 2) by omega, this]
      rw [List.getElem?_eq_getElem hjl] at hj
      exact hj

/-- the same, the other way round -/
theorem cells_ins2 {w : World} {b i n : Nat} {cs vs : List Value} (hi : i < n) (hcl : cs.length = n * 2) (hvl : vs.length = 2)
    (hcs : ∀ j v, j < i * 2 → cs[j]? = some v → w.cell? ⟨b, j, none⟩ = some v) (hsp : ∀ j, j < (n + 1) * 2 → (w.cell? ⟨b, j, none⟩).isSome = true)
    {w1 w2 : World} (h1 : ∀ x, w1.cell? x = (w.setCells b (i * 2) vs).cell? x) (h2 : w2 = w1.setCells b ((i + 1) * 2) (cs.drop (i * 2))) : Row w2 b 0 (cs.take (i * 2) ++ (vs ++ cs.drop (i * 2))) := by
  intro j v hj
  have hdl : (cs.drop (i * 2)).length = (n - i) * 2 := by rw [List.length_drop, hcl]; omega
  have s1 : ∀ k, k < (n + 1) * 2 → (w1.cell? ⟨b, k, none⟩).isSome = true := fun k hk => by
    rw [h1]
    exact Go.Proofs.isSome_setCells b _ _ _ (fun t ht => hsp _ (by omega)) _ (hsp k hk)
  have htl : (cs.take (i * 2)).length = i * 2 := by rw [List.length_take]; omega
  rw [Nat.zero_add]
  by_cases c1 : j < i * 2
  · rw [List.getElem?_append_left (by omega), List.getElem?_take, if_pos c1] at hj
    rw [h2, World.cell?_setCells_out b _ _ _ _ (fun _ _ => .inl (by show j < (i + 1) * 2; omega)), h1, World.cell?_setCells_out b _ _ _ _ (fun _ _ => .inl (by show j < i * 2; omega))]
    exact hcs j v c1 hj
  · rw [List.getElem?_append_right (by omega), htl] at hj
    by_cases c2 : j < i * 2 + 2
    · rw [List.getElem?_append_left (by omega)] at hj
      have := World.cell?_setCells_in b vs (i * 2) w (fun t ht => hsp _ (by omega)) (j - i * 2) (by omega)
      rw [h2, World.cell?_setCells_out b _ _ _ _ (fun _ _ => .inl (by show j < (i + 1) * 2; omega)), h1, show j = i * 2 + (j - i * 2) by omega, this]
      rw [List.getElem?_eq_getElem (by omega)] at hj
      exact hj
    · rw [List.getElem?_append_right (by omega), hvl] at hj
      have hjl : j - i * 2 - 2 < (cs.drop (i * 2)).length := (List.getElem?_eq_some_iff.1 hj).1
      have := World.cell?_setCells_in b (cs.drop (i * 2)) ((i + 1) * 2) w1 (fun t ht => s1 _ (by omega)) (j - i * 2 - 2) hjl
      rw [List.getElem?_eq_getElem hjl] at hj
      rw [← hj, h2, ← this]
      congr 2
      omega

/-! ### The contract -/
variable {S : Sim} {h : Heap} {w w' : World}

theorem chunk_flat : ∀ (n : Nat) (cs : List AV), cs.length = n * 2 → (∀ x ∈ chunk 2 true n cs, x.cells.length = 2) ∧ (chunk 2 true n cs).flatMap AV.cells = cs ∧ (chunk 2 true n cs).length = n
  | 0, cs, hl => by
    have : cs = [] := List.length_eq_zero_iff.1 (by omega)
    subst this
    simp [chunk]
  | n + 1, cs, hl => by
    obtain ⟨h1, h2, h3⟩ := chunk_flat n (cs.drop 2) (by rw [List.length_drop]; omega)
    simp only [chunk, if_true]
    refine ⟨fun x hx => ?_, ?_, by simp [h3]⟩
    · rcases List.mem_cons.1 hx with rfl | hx
      · show (cs.take 2).length = 2
        rw [List.length_take]; omega
      · exact h1 x hx
    · rw [List.flatMap_cons, h2]
      show cs.take 2 ++ cs.drop 2 = cs
      exact List.take_append_drop _ _

/-- an object that is sealed: its elements as a value -/
theorem sealed {G : GTab} {S1 : Sim} {h1 : Heap} {r b base lim lo n cap : Nat} {news : List AV} {l : List Value} (hw : WRel G S1 h1 w) (hr : S1.ρ r = .live b base lim) (hl : Row w b lo l) (hrel : VRelL S1 news l) (hnl : news.length = n * 2) (hn : n ≤ cap) :
    Ext S1 w ((S1.kill r).shut0 b lo l) w ∧ WRel G ((S1.kill r).shut0 b lo l) (h1.rem r) w ∧ VRel ((S1.kill r).shut0 b lo l) (.vs .unk (chunk 2 true n news)) (.slice (some ⟨b, lo, none⟩) n cap) := by
  obtain ⟨x1, x2⟩ := seal_obj hw hr hl
  refine ⟨x1, x2, ?_⟩
  obtain ⟨c1, c2, c3⟩ := chunk_flat n news hnl
  simp only [VRel]
  refine ⟨some ⟨b, lo, none⟩, cap, by rw [c3], by rw [c3]; exact hn, trivial, .inr ⟨b, lo, 2, rfl, by omega, ?_⟩⟩
  rw [VEls.flat]
  refine ⟨c1, .of fun i v hv => ?_⟩
  rw [c2] at hv
  obtain ⟨c, e1, e2⟩ := hrel.get i v hv
  refine ⟨c, ?_, e2.mono x1.le⟩
  show (if b = b ∧ lo ≤ lo + i then l[lo + i - lo]? else (S1.kill r).F b (lo + i)) = some c
  rw [if_pos ⟨rfl, Nat.le_add_right _ _⟩, Nat.add_sub_cancel_left]
  exact e1

theorem two_cells {a b : AV} {c : Value} {cp : Cap} (hv : VRel S (.vs cp [.agg [a, b]]) c) : ∃ vb vo vc ca cb, c = .slice (some ⟨vb, vo, none⟩) 1 vc ∧ S.F vb vo = some ca ∧ S.F vb (vo + 1) = some cb ∧ VRel S a ca ∧ VRel S b cb := by
  simp only [VRel] at hv
  obtain ⟨base, cap, rfl, hl, _, hx⟩ := hv
  rcases hx with hx | ⟨vb, vo, sz, rfl, h1, h2⟩
  · cases hx
  · simp only [VEls, VMem] at h2
    obtain ⟨h3, ⟨⟨ca, e1, e2⟩, ⟨cb, e3, e4⟩, _⟩, _⟩ := h2
    exact ⟨vb, vo, cap, ca, cb, rfl, e1, e3, e2, e4⟩
theorem f147_ok : ∃ fn, Tryz.prog.funcs[147]? = some fn ∧ fn.body.isSome = true ∧ fn.name ≠ "runtime.NumGoroutine" :=
  ⟨Tryz.f147, Tryz.func147, by kernel_rfl, by decide +kernel⟩
theorem less1 {G : GTab} {S' : Sim} {h1 : Heap} {x : AObj} (hno : ∀ r, h.next ≤ r → h1.get r = none) (hw : WRel G S' ((h1.new x).rem h1.next) w) (hn : h1.next = h.next) : WRel G S' ⟨h1.o, h.next + 1⟩ w := by
  refine hw.less (by simp [Heap.rem, Heap.new, hn]) fun r y hy => ?_
  have hlt : r < h.next := by
    by_cases hr : r < h.next
    · exact hr
    · have := hno r (by omega)
      rw [show h1.get r = (⟨h1.o, h.next + 1⟩ : Heap).get r from rfl, hy] at this; cases this
  show ((h1.o.put h1.next x).del h1.next).get r = some y
  rw [Tr.get_del, if_neg (by omega), Tr.get_put, if_neg (by omega)]
  exact hy

theorem ins_ok {G : GTab} : ∀ args h v h', insP args h = some (v, h') → ∀ Q : AV → Heap → Prop, Q v h' → ACall Tryz.prog G 147 args h Q := by
  intro args h v h' hp Q hq
  refine ⟨f147_ok, fun S w cargs hw hrel => ?_⟩
  unfold insP at hp
  split at hp
  · rename_i cp a b
    split at hp
    · rename_i hsc
      simp only [Option.some.injEq, Prod.mk.injEq] at hp
      obtain ⟨rfl, rfl⟩ := hp
      simp only [Bool.and_eq_true] at hsc
      simp only [VRelL] at hrel
      obtain ⟨c0, _, rfl, hc0, c1, _, rfl, hc1, c2, _, rfl, hc2, rfl⟩ := hrel
      simp only [VRel] at hc1
      subst hc1
      have ⟨vb, vo, vc, ca, cb, e0, f1, f2, r1, r2⟩ := two_cells hc2
      subst e0
      simp only [VRel] at hc0
      obtain ⟨base, cap0, rfl, _, hcap, _⟩ := hc0
      simp only [CapOk, List.length_nil] at hcap
      subst hcap
      have hrow : Row w vb vo [ca, cb] := fun i v hv => by
        match i, hv with
        | 0, hv => cases hv; exact hw.Fc _ _ _ f1
        | 1, hv => cases hv; exact hw.Fc _ _ _ f2
      refine (ins_new base vb vo vc [ca, cb] w rfl hrow).mono ?_
      rintro e w1 ⟨cap, c, rfl, k1, k2, k3, k4, k5, k6, k7⟩
      have hrl : VRelL S [a, b] [ca, cb] := .cons r1 (.cons r2 .nil)
      obtain ⟨x1, x2⟩ := new_cells hw k2 k3 k4 k5 (cs := [a, b]) (by rw [k6]; simp; omega) (fun i v hv => by
        obtain ⟨cv, e1, e2⟩ := hrl.get i v hv
        exact ⟨cv, k7 i cv e1, e2⟩) (thaw0 _ _)
      obtain ⟨y1, y2, y3⟩ := sealed (r := h.next) (b := w.heap.size) (base := 0) (lim := c.size) (lo := 0) (n := 1) (cap := cap) (news := [a, b]) (l := [ca, cb]) x2 (by simp [Sim.addR]) (fun i v hv => by
        rw [Nat.zero_add, cell_of (cell_new k2)]
        exact k7 i v hv) (hrl.mono x1.le) rfl k1
      exact ⟨_, _, _, _, rfl, hq, x1.trans y1, less1 (fun r hr => hw.no r hr) y2 rfl, y3⟩
    · cases hp
  · rename_i r o n sz i cp a b
    split at hp
    · rename_i cs hg
      split at hp
      · rename_i hcond
        simp only [Option.some.injEq, Prod.mk.injEq] at hp
        obtain ⟨rfl, rfl⟩ := hp
        simp only [Bool.and_eq_true, decide_eq_true_eq] at hcond
        obtain ⟨⟨⟨⟨⟨⟨⟨hsz, hle⟩, hcsc⟩, hsa⟩, hsb⟩, hi0⟩, hin⟩, hn6⟩ := hcond
        have hsz := Nat.eq_of_beq_eq_true hsz
        subst hsz
        have hle := Nat.le_of_ble_eq_true hle
        have hin : i.toNat < n := Nat.le_of_ble_eq_true hin
        have hn6 : n < 1000000 := Nat.le_of_ble_eq_true hn6
        obtain ⟨k, rfl⟩ : ∃ k : Nat, i = (k : Int) := ⟨i.toNat, by omega⟩
        simp only [Int.toNat_natCast] at hin hq ⊢
        simp only [VRelL] at hrel
        obtain ⟨c0, _, rfl, hc0, c1, _, rfl, hc1, c2, _, rfl, hc2, rfl⟩ := hrel
        simp only [VRel] at hc1
        subst hc1
        have ⟨vb, vo, vc, ca, cb, e0, f1, f2, r1, r2⟩ := two_cells hc2
        subst e0
        obtain ⟨bb, base, lim, hρ, c, el, fr, hb, k1, k2, k3, k4⟩ := hw.obj r _ hg
        simp only [VRel, hρ] at hc0
        obtain ⟨ad, cap, rfl, hnc, hk⟩ := hc0
        obtain ⟨rfl, hlim⟩ := hk (by omega)
        have hvbb : vb ≠ bb := fun e => hw.Fr vb vo ca r base lim f1 (e ▸ hρ)
        have hrow : Row w vb vo [ca, cb] := fun i v hv => by
          match i, hv with
          | 0, hv => cases hv; exact hw.Fc _ _ _ f1
          | 1, hv => cases hv; exact hw.Fc _ _ _ f2
        -- the cells of the row
        let old := (cs.drop o).take (n * 2)
        let csv : List Value := (c.toList.drop (base + o)).take (n * 2)
        have hcl : csv.length = n * 2 := by simp [csv]; omega
        have hcsv : ∀ j v, csv[j]? = some v → c[base + o + j]? = some v := fun j v hv => by
          simp only [csv, List.getElem?_take] at hv
          split at hv
          · rw [List.getElem?_drop] at hv; simpa using hv
          · cases hv
        have hold : VRelL S old csv := .of (by rw [hcl]; simp [old]; omega) fun j v u hv hu => by
          have hj : j < n * 2 := by have := (List.getElem?_eq_some_iff.1 hu).1; omega
          simp only [old, List.getElem?_take, if_pos hj, List.getElem?_drop] at hv
          obtain ⟨cv, e1, e2⟩ := k4 (o + j) v hv
          have := hcsv j u hu
          rw [← Nat.add_assoc, this] at e1
          cases e1; exact e2
        have hone : ∀ {l : List AV} {m : List Value}, VRelL S l m → (∀ x ∈ l, x.scal = true) → ∀ u ∈ m, u.oneCell' = true := fun {l m} hlm hs u hu => by
          obtain ⟨j, hj⟩ := List.mem_iff_getElem?.1 hu
          have hjl : j < l.length := by rw [← hlm.len]; exact (List.getElem?_eq_some_iff.1 hj).1
          obtain ⟨u', e1, e2⟩ := hlm.get j l[j] (List.getElem?_eq_getElem hjl)
          rw [hj] at e1; cases e1
          exact oneCell_of e2 (hs _ (List.getElem_mem hjl))
        have h1c : ∀ u ∈ csv, u.oneCell' = true := hone hold fun x hx => List.all_eq_true.1 hcsc x (List.mem_of_mem_drop (List.mem_of_mem_take hx))
        have hrl : VRelL S [a, b] [ca, cb] := .cons r1 (.cons r2 .nil)
        have h1v : ∀ u ∈ [ca, cb], u.oneCell' = true := hone hrl fun x hx => by
          simp at hx; rcases hx with rfl | rfl
          · exact hsa
          · exact hsb
        have hcellb : ∀ j v, csv[j]? = some v → w.cell? ⟨bb, base + o + j, none⟩ = some v := fun j v hv => by
          rw [cell_of hb]; exact hcsv j v hv
        have hnew : VRelL S (insC o n k cs a b) (csv.take (k * 2) ++ ([ca, cb] ++ csv.drop (k * 2))) := by
          have e1 : (cs.drop o).take (k * 2) = old.take (k * 2) := by
            simp only [old, List.take_take]; congr 1; omega
          unfold insC
          rw [e1]
          exact (hold.take _).app (hrl.app (hold.drop _))
        have hnl : (insC o n k cs a b).length = (n + 1) * 2 := by
          rw [← hnew.len]; simp [hcl]; omega
        have hfz : ∀ j, base ≤ j → w.frozen? ⟨bb, j, none⟩ = false := fun j hj => by
          simp only [World.frozen?, hb]
          have := k3 j hj (Nat.le_refl _)
          simpa using this
        obtain ⟨cv, elv, frv, hbv, hcv⟩ := of_cell (hw.Fc _ _ _ f1)
        by_cases hroom : n + 1 ≤ cap
        · -- in place
          have hsp : ∀ j, j < (n + 1) * 2 → (w.cell? ⟨bb, base + o + j, none⟩).isSome = true := fun j hj => by
            rw [cell_of hb, Array.getElem?_eq_getElem (by omega)]; rfl
          refine (ins_shift bb (base + o) n cap k vb vo vc csv [ca, cb] w hin hroom (by omega) hvbb hcl rfl hcellb hsp (fun j _ => hfz _ (by omega)) hrow h1c h1v elv el cv.size c.size (by simp [World.shape?, hbv]) (by simp [World.shape?, hb])
            (by have := (Array.getElem?_eq_some_iff.1 hcv).1; omega) (by omega) (hfz _ (by omega))).mono ?_
          rintro e w1 ⟨rfl, hw1⟩
          obtain ⟨a1, a2, a3, a4, a5, a6⟩ := setCells_same bb (csv.drop (k * 2)) (base + o + (k + 1) * 2) w.drew
          obtain ⟨b1, b2, b3, b4, b5, b6⟩ := setCells_same bb [ca, cb] (base + o + k * 2) (w.drew.setCells bb (base + o + (k + 1) * 2) (csv.drop (k * 2)))
          rw [← hw1] at b1 b2 b3 b4 b5 b6
          have hrow1 : Row w1 bb (base + o) _ := cells_ins (w := w.drew) hin hcl rfl (fun j v _ hv => hcellb j v hv) hsp rfl hw1
          obtain ⟨c3, e3, s3⟩ := a3 c el fr hb
          obtain ⟨c4, e4, s4⟩ := b3 c3 el fr e3
          obtain ⟨x1, x2⟩ := move_obj (base' := base + o) (lim' := lim) (x' := .cells (insC o n k cs a b)) hw hρ (b1.trans a1) (fun q hq => (b2 q hq).trans (a2 q hq)) (b4.trans a4) (b5.trans a5) (b6.trans a6) (fun S' le hS' =>
            ⟨bb, base + o, lim, hS', c4, el, fr, e4, by rw [hnl]; omega, by omega, fun q h1 h2 => k3 q (by omega) h2, fun j v hv => by
              obtain ⟨u, e1, e2⟩ := hnew.get j v hv
              refine ⟨u, ?_, e2.mono le⟩
              rw [← cell_of e4]
              exact hrow1 j u e1⟩)
          obtain ⟨y1, y2, y3⟩ := sealed (r := h.next) (b := bb) (base := base + o) (lim := lim) (lo := base + o) (n := n + 1) (cap := cap) x2 (by simp [Sim.addR]) hrow1 (hnew.mono x1.le) hnl hroom
          exact ⟨_, _, _, _, rfl, hq, x1.trans y1, less1 (h1 := h.rem r) (fun q hq => by
            simp only [Heap.get, Heap.rem, Tr.get_del]
            split
            · rfl
            · exact hw.no q hq) y2 rfl, y3⟩
        · -- a new row
          refine (ins_grow bb (base + o) n cap k vb vo vc csv [ca, cb] w hin hnc (by omega) (by omega) hcl rfl hcellb hrow h1c h1v).mono ?_
          rintro e w1 ⟨cap', ROW, rfl, g1, g2, g3, hw1⟩
          obtain ⟨z1, z2⟩ := kill_obj hw hρ
          let w0 : World := w.alloc (.cells ROW 142)
          have hb0 : w0.heap[w.heap.size]? = some (.cells ROW 142 (0, 0)) := by show (w.heap.push (Obj.cells ROW 142))[w.heap.size]? = _; simp
          have hs0 : w0.heap.size = w.heap.size + 1 := by show (w.heap.push (Obj.cells ROW 142)).size = _; simp
          obtain ⟨a1, a2, a3, a4, a5, a6⟩ := setCells_same w.heap.size [ca, cb] (k * 2) w0.drew
          obtain ⟨b1, b2, b3, b4, b5, b6⟩ := setCells_same w.heap.size (csv.drop (k * 2)) ((k + 1) * 2) (w0.drew.setCells w.heap.size (k * 2) [ca, cb]).drew
          rw [← hw1] at b1 b2 b3 b4 b5 b6
          obtain ⟨c3, e3, s3⟩ := a3 ROW 142 (0, 0) hb0
          obtain ⟨c4, e4, s4⟩ := b3 c3 142 (0, 0) e3
          have hpush : w1.heap = w.heap.push (.cells c4 142 (0, 0)) := push_of (by rw [b1]; show (w0.drew.setCells w.heap.size (k * 2) [ca, cb]).heap.size = _; rw [a1]; exact hs0) (fun q hq => by
            rw [b2 q (by omega)]
            show (w0.drew.setCells w.heap.size (k * 2) [ca, cb]).heap[q]? = _
            rw [a2 q (by omega)]
            show (w.heap.push _)[q]? = _
            rw [Array.getElem?_push, if_neg (by omega)]) e4
          have hrow1 : Row w1 w.heap.size 0 (csv.take (k * 2) ++ ([ca, cb] ++ csv.drop (k * 2))) := by
            refine cells_ins2 (w := w0.drew) (w1 := (w0.drew.setCells w.heap.size (k * 2) [ca, cb]).drew) hin hcl rfl (fun j v hj hv => ?_) (fun j hj => ?_) (fun x => rfl) hw1
            · rw [cell_of (w := w0.drew) (c := ROW) (el := 142) (fr := (0, 0)) hb0, g3 j hj]; exact hv
            · rw [cell_of (w := w0.drew) (c := ROW) (el := 142) (fr := (0, 0)) hb0, Array.getElem?_eq_getElem (by omega)]; rfl
          obtain ⟨x1, x2⟩ := new_cells (w' := w1) z2 hpush (by exact b4.trans a4) (by exact b5.trans a5) (by exact b6.trans a6) (cs := insC o n k cs a b) (by rw [hnl]; omega) (fun j v hv => by
            obtain ⟨u, e1, e2⟩ := (hnew.mono z1.le).get j v hv
            refine ⟨u, ?_, e2⟩
            have := hrow1 j u e1
            rw [Nat.zero_add, cell_of e4] at this
            exact this) (thaw0 _ _)
          obtain ⟨y1, y2, y3⟩ := sealed (r := (h.rem r).next) (b := w.heap.size) (base := 0) (lim := c4.size) (lo := 0) (n := n + 1) (cap := cap') x2 (by simp [Sim.addR]) hrow1 ((hnew.mono z1.le).mono x1.le) hnl g1
          exact ⟨_, _, _, _, rfl, hq, z1.trans (x1.trans y1), less1 (h1 := h.rem r) (fun q hq => by
            simp only [Heap.get, Heap.rem, Tr.get_del]
            split
            · rfl
            · exact hw.no q hq) y2 rfl, y3⟩
      · cases hp
    · cases hp
  · cases hp
end Go.AM.J
