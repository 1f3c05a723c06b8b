/- Own work. This text shows: the operations on memory, slices and maps. -/
import Derived.Test.YtcipamnhmeplkaaGreatDoorAm2
import Derived.Great.FillDense
import Derived.Great.BuildSlice
import Derived.Laws.Tables
import Derived.Laws.MakeOwn
import Derived.Laws.BytesString
import Derived.Laws.Slices
import Derived.Laws.RangeString
set_option linter.unusedVariables false
set_option linter.unusedSimpArgs false
namespace Go.AM
open Go
section
variable {P : Program} {G : GTab} {A : Ann} {S S' : Sim} {e : Env} {h h' : Heap} {a : Act} {w w' : World}

theorem zero_rel {t : TypeId} {z : AV} (hz : zeroOf P t = some z) : ∃ i v, P.info? t = some i ∧ i.zero = some v ∧ ∀ S, VRel S z v := by
  unfold zeroOf at hz
  split at hz
  · rename_i i hi
    split at hz
    · rename_i v hv
      exact ⟨i, v, hi, hv, fun S => ofVal_rel 8 v z hz⟩
    · cases hz
  · cases hz

/-- a new row of cells -/
theorem new_cells (hw : WRel G S h w) {c : Array Value} {el : TypeId} {fr : Nat × Nat} (e : w'.heap = w.heap.push (.cells c el fr)) (eo : w'.os = w.os) (et : w'.tape = w.tape) (eu : w'.output = w.output)
    {cs : List AV} (hl : cs.length ≤ c.size) (hc : ∀ (i : Nat) v, cs[i]? = some v → ∃ cv, c[i]? = some cv ∧ VRel S v cv) (hfr : Thaw fr 0 c.size) :
    Ext S w (S.addR h.next w.heap.size 0 c.size) w' ∧ WRel G (S.addR h.next w.heap.size 0 c.size) (h.new (.cells cs)) w' :=
  new_obj hw e eo et eu fun S' le hr _ => ⟨_, _, _, hr, c, el, fr, cell_new e, by simpa using hl, Nat.le_refl _, hfr, fun i v hv => by
    obtain ⟨cv, h1, h2⟩ := hc i v hv
    exact ⟨cv, by simpa using h1, h2.mono le⟩⟩

theorem thaw0 (lo hi : Nat) : Thaw (0, 0) lo hi := fun o _ _ h => by simp at h

theorem snd_halloc {o : Oper} {t : TypeId} {z : AV} (hop : o.op = .alloc t) (hz : zeroOf P t = some z) (hw : WRel G S h w) :
    Out P G S w (h.new (.cells z.cells)) (.ptr h.next 0) (execOp a.eval o) := by
  obtain ⟨i, v, hi, hv, hr⟩ := zero_rel hz
  obtain ⟨l, h1, h2⟩ := (hr S).cells
  obtain ⟨x1, x2⟩ := new_cells (w' := w.alloc (.cells v.cells t)) (fr := (0, 0)) hw rfl rfl rfl rfl (cs := z.cells) (by rw [h1]; simp [h2.len]) (fun i u hu => by
    obtain ⟨c, e1, e2⟩ := h2.get i u hu
    exact ⟨c, by rw [h1]; simpa using e1, e2⟩) (thaw0 _ _)
  refine ⟨.pointer (some ⟨w.heap.size, 0, none⟩), _, _, .inl ?_, x1, x2, ?_⟩
  · simp only [execOp, hop]
    refine run_v ?_
    simp [Instr.alloc, zeroValue, typeInfo, hi, hv, newVar, newRow]
  · simp only [VRel, Sim.addR, if_pos]

theorem snd_hbox {o : Oper} {t : TypeId} {x : Operand} {ox : Opd} {v : AV} (hop : o.op = .box t x) (hx : opd G A x = some ox) (he : ERel A S e a w) (hw : WRel G S h w) (hv : val e ox = some v) :
    Out P G S w (h.new (.cells v.cells)) (.ptr h.next 0) (execOp a.eval o) := by
  obtain ⟨l, h1, h2⟩ := (opd_rel hx he hw hv).cells
  obtain ⟨x1, x2⟩ := new_cells (w' := w.alloc (.cells (a.eval x).cells t)) (fr := (0, 0)) hw rfl rfl rfl rfl (cs := v.cells) (by rw [h1]; simp [h2.len]) (fun i u hu => by
    obtain ⟨c, e1, e2⟩ := h2.get i u hu
    exact ⟨c, by rw [h1]; simpa using e1, e2⟩) (thaw0 _ _)
  refine ⟨.pointer (some ⟨w.heap.size, 0, none⟩), _, _, .inl ?_, x1, x2, ?_⟩
  · simp only [execOp, hop]
    refine run_v ?_
    simp [Instr.box, newVar, newRow]
  · simp only [VRel, Sim.addR, if_pos]

/-- parts go in -/
theorem splice_rel {cs vc cs' : List AV} {off : Nat} {c : Array Value} {l l' : List Value} (h1 : VRelL S cs l) (h2 : VRelL S vc l') (hs : splice cs off vc = some cs') :
    ∃ l2, ((l'.zipIdx 0).foldl (fun cs (x : Value × Nat) => cs.setIfInBounds (off + x.2) x.1) l.toArray) = List.toArray l2 ∧ VRelL S cs' l2 := by
  obtain ⟨g1, g2⟩ := Great.foldl_set off l' 0 l.toArray
  obtain ⟨s1, s2, s3, s4⟩ := splice_get hs
  refine ⟨_, (Array.toArray_toList).symm, .of (by rw [Array.length_toList, g1, s2]; simpa using h1.len) fun i v c hv hc => ?_⟩
  have hc' : ((l'.zipIdx 0).foldl (fun cs (x : Value × Nat) => cs.setIfInBounds (off + x.2) x.1) l.toArray)[i]? = some c := by simpa using hc
  rw [g2 i] at hc'
  have hl := h1.len
  have hl' := h2.len
  simp only [Nat.add_zero, List.size_toArray] at hc'
  by_cases hi : i < off ∨ off + vc.length ≤ i
  · rw [s3 i hi] at hv
    rw [if_neg (by omega)] at hc'
    obtain ⟨c', e1, e2⟩ := h1.get i v hv
    simp at hc'
    rw [e1] at hc'; cases hc'
    exact e2
  · have := (List.getElem?_eq_some_iff.1 hv).1
    rw [if_pos (by omega)] at hc'
    have := s4 (i - off) (by omega)
    rw [show off + (i - off) = i by omega, hv] at this
    obtain ⟨c', e1, e2⟩ := h2.get (i - off) v this.symm
    rw [e1] at hc'; cases hc'
    exact e2

theorem fill_rel {place : Nat → Option (Nat × Nat)} {e : Env} : ∀ {ps : List (Nat × Nat × Opd)} {qs : List (Nat × Value)} {cs cs' : List AV} {l : List Value}, fills cs e ps = some cs' → VRelL S cs l → ps.length = qs.length →
    (∀ (i : Nat) p q, ps[i]? = some p → qs[i]? = some q → place q.1 = some (p.1, p.2.1) ∧ ∀ v, val e p.2.2 = some v → VRel S v q.2) →
    ∃ l', Instr.fill place l.toArray qs = some (List.toArray l') ∧ VRelL S cs' l'
  | [], [], cs, cs', l, hf, hr, hl, hp => by
    simp only [fills, Option.some.injEq] at hf
    subst hf
    exact ⟨l, rfl, hr⟩
  | [], _ :: _, cs, cs', l, hf, hr, hl, hp => by simp at hl
  | _ :: _, [], cs, cs', l, hf, hr, hl, hp => by simp at hl
  | (off, n, x) :: ps, (i, u) :: qs, cs, cs', l, hf, hr, hl, hp => by
    obtain ⟨hpl, hv⟩ := hp 0 _ _ rfl rfl
    simp only [fills] at hf
    split at hf
    · rename_i v hv1
      split at hf
      · rename_i hn
        split at hf
        · rename_i cs1 hs
          have h1 := (hv v hv1).ek
          obtain ⟨l1, e1, e2⟩ := h1.cells
          obtain ⟨l2, e3, e4⟩ := splice_rel (c := #[]) hr e2 hs
          have hsz : u.cells.size = n := by rw [e1, List.size_toArray, e2.len, hn]
          have hle := (splice_get hs).1
          obtain ⟨l', f1, f2⟩ := fill_rel hf e4 (by simpa using hl) (fun j p q hp' hq' => hp (j + 1) p q (by simpa using hp') (by simpa using hq'))
          refine ⟨l', ?_, f2⟩
          simp only [Instr.fill]
          simp only [hpl]
          have hb : (decide (u.cells.size ≠ n) || decide (off + u.cells.size > l.toArray.size)) = false := by
            have := hr.len
            simp [hsz]
            omega
          rw [hb]
          simp only [Bool.false_eq_true, if_false]
          rw [← f1, ← e3]
          congr 1
          rw [e1]
          rw [← Array.foldl_toList, Array.toList_zipIdx]
        · cases hf
      · cases hf
    · cases hf

theorem partsS_len {fs : Array Field} : ∀ {ps : List (Nat × Operand)} {os : List (Nat × Nat × Opd)}, partsS P G A fs ps = some os → os.length = ps.length ∧
    ∀ (i : Nat) p q, os[i]? = some p → ps[i]? = some q → ∃ f : Field, fs[q.1]? = some f ∧ p.1 = f.offset ∧ p.2.1 = P.cellsOf f.type ∧ opd G A q.2 = some p.2.2
  | [], os, h => by
    simp only [partsS, Option.some.injEq] at h; subst h; exact ⟨rfl, fun i p q hp => by simp at hp⟩
  | (i, x) :: ps, os, h => by
    simp only [partsS] at h
    split at h
    · rename_i f o r hf ho hr
      cases h
      obtain ⟨h1, h2⟩ := partsS_len hr
      refine ⟨by simp [h1], fun j p q hp hq => ?_⟩
      cases j with
      | zero => simp at hp hq; subst hp hq; exact ⟨f, hf, rfl, rfl, ho⟩
      | succ j => exact h2 j p q (by simpa using hp) (by simpa using hq)
    · cases h
theorem partsA_len {sz : Nat} : ∀ {ps : List (Nat × Operand)} {os : List (Nat × Nat × Opd)}, partsA G A sz ps = some os → os.length = ps.length ∧
    ∀ (i : Nat) p q, os[i]? = some p → ps[i]? = some q → p.1 = q.1 * sz ∧ p.2.1 = sz ∧ opd G A q.2 = some p.2.2
  | [], os, h => by
    simp only [partsA, Option.some.injEq] at h; subst h; exact ⟨rfl, fun i p q hp => by simp at hp⟩
  | (i, x) :: ps, os, h => by
    simp only [partsA] at h
    split at h
    · rename_i o r ho hr
      cases h
      obtain ⟨h1, h2⟩ := partsA_len hr
      refine ⟨by simp [h1], fun j p q hp hq => ?_⟩
      cases j with
      | zero => simp at hp hq; subst hp hq; exact ⟨rfl, rfl, ho⟩
      | succ j => exact h2 j p q (by simpa using hp) (by simpa using hq)
    · cases h
theorem partsE_len {n : Nat} : ∀ {ps : List (Nat × Operand)} {os : List (Nat × Opd)}, partsE G A n ps = some os → os.length = ps.length ∧
    ∀ (i : Nat) p q, os[i]? = some p → ps[i]? = some q → p.1 = q.1 ∧ q.1 < n ∧ opd G A q.2 = some p.2
  | [], os, h => by
    simp only [partsE, Option.some.injEq] at h; subst h; exact ⟨rfl, fun i p q hp => by simp at hp⟩
  | (i, x) :: ps, os, h => by
    simp only [partsE] at h
    split at h
    · rename_i o r ho hr
      split at h
      · rename_i hn
        cases h
        obtain ⟨h1, h2⟩ := partsE_len hr
        refine ⟨by simp [h1], fun j p q hp hq => ?_⟩
        cases j with
        | zero => simp at hp hq; subst hp hq; exact ⟨rfl, hn, ho⟩
        | succ j => exact h2 j p q (by simpa using hp) (by simpa using hq)
      · cases h
    · cases h

theorem get_map2 {α β : Type} {f : α → β} {l : List α} {i : Nat} {y : β} (h : (l.map f)[i]? = some y) : ∃ x, l[i]? = some x ∧ f x = y := by
  simpa [List.getElem?_map] using h

theorem snd_buildA {o : Oper} {t el : TypeId} {n : Nat} {parts : Array (Nat × Operand)} {z cs : List AV} {os : List (Nat × Nat × Opd)} (hop : o.op = .build t parts) (hz : zeroOf P t = some (.agg z)) (ht : P.underlying t = some (.array n el)) (hi : (P.info? el).isSome = true)
    (ho : partsA G A (P.cellsOf el) parts.toList = some os) (he : ERel A S e a w) (hw : WRel G S h w) (hf : fills z e os = some cs) : Pure P S w (.agg cs) (execOp a.eval o) := by
  obtain ⟨i, v, h1, h2, hr⟩ := zero_rel hz
  have h3 := hr S
  simp only [VRel] at h3
  obtain ⟨l, h3, h4⟩ := h3
  obtain ⟨k1, k2⟩ := partsA_len ho
  obtain ⟨ie, hie⟩ := Option.isSome_iff_exists.1 hi
  have hsz : P.cellsOf el = ie.size := by simp [Program.cellsOf, hie]
  obtain ⟨l', f1, f2⟩ := fill_rel (place := fun i => some (i * ie.size, ie.size)) (qs := parts.toList.map fun (i, x) => (i, a.eval x)) hf h4 (by simp [k1]) (fun i p q hp hq => by
    obtain ⟨y, hy, rfl⟩ := get_map2 hq
    obtain ⟨e1, e2, e3⟩ := k2 i p y hp hy
    refine ⟨by rw [e1, e2, hsz], fun v hv => opd_rel e3 he hw hv⟩)
  refine ⟨.agg l'.toArray, ?_, by simp only [VRel]; exact ⟨l', rfl, f2⟩⟩
  simp only [execOp, hop]
  refine run_v (run_build (P := P) w t _ _ ?_)
  simp only [Program.built, h1, ht, h2, hie, Array.toList_map]
  rw [h3]
  exact f1

theorem places_get {fs : List Field} {places : List (Nat × Nat)} : fs.mapM (fun f => (P.info? f.type).map fun i => (f.offset, i.size)) = some places → ∀ (i : Nat) (f : Field), fs[i]? = some f → places[i]? = some (f.offset, P.cellsOf f.type) := by
  induction fs generalizing places with
  | nil => intro _ i f hf; simp at hf
  | cons g fs ih =>
    intro h i f hf
    simp only [List.mapM_cons, Option.bind_eq_bind, Option.pure_def] at h
    cases hi : P.info? g.type with
    | none => simp [hi] at h
    | some ig =>
      cases hr : fs.mapM (fun f => (P.info? f.type).map fun i => (f.offset, i.size)) with
      | none => simp [hi, hr] at h
      | some rest =>
        simp [hi, hr] at h
        subst h
        cases i with
        | zero => simp at hf; subst hf; simp [Program.cellsOf, hi]
        | succ i => simp at hf ⊢; exact ih hr i f hf

theorem snd_buildS {o : Oper} {t : TypeId} {fs : Array Field} {parts : Array (Nat × Operand)} {z cs : List AV} {os : List (Nat × Nat × Opd)} (hop : o.op = .build t parts) (hz : zeroOf P t = some (.agg z)) (ht : P.underlying t = some (.struct fs))
    (hi : ∃ places, fs.toList.mapM (fun f => (P.info? f.type).map fun i => (f.offset, i.size)) = some places)
    (ho : partsS P G A fs parts.toList = some os) (he : ERel A S e a w) (hw : WRel G S h w) (hf : fills z e os = some cs) : Pure P S w (.agg cs) (execOp a.eval o) := by
  obtain ⟨i, v, h1, h2, hr⟩ := zero_rel hz
  have h3 := hr S
  simp only [VRel] at h3
  obtain ⟨l, h3, h4⟩ := h3
  obtain ⟨k1, k2⟩ := partsS_len ho
  obtain ⟨places, hpl⟩ := hi
  obtain ⟨l', f1, f2⟩ := fill_rel (place := (places.toArray[·]?)) (qs := parts.toList.map fun (i, x) => (i, a.eval x)) hf h4 (by simp [k1]) (fun i p q hp hq => by
    obtain ⟨y, hy, rfl⟩ := get_map2 hq
    obtain ⟨f, e0, e1, e2, e3⟩ := k2 i p y hp hy
    refine ⟨by
      simp only [List.getElem?_toArray]
      rw [places_get hpl y.1 f (by simpa using e0), e1, e2], fun v hv => opd_rel e3 he hw hv⟩)
  refine ⟨.agg l'.toArray, ?_, by simp only [VRel]; exact ⟨l', rfl, f2⟩⟩
  simp only [execOp, hop]
  refine run_v (run_build (P := P) w t _ _ ?_)
  simp only [Program.built, h1, ht, h2, hpl, Array.toList_map]
  rw [h3]
  exact f1

end
end Go.AM

set_option linter.unusedVariables false
set_option linter.unusedSimpArgs false
namespace Go.AM
open Go
section
variable {P : Program} {G : GTab} {A : Ann} {S S' : Sim} {e : Env} {h h' : Heap} {a : Act} {w w' : World}

theorem flat_get {sz : Nat} : ∀ {xs : List AV}, (∀ x ∈ xs, x.cells.length = sz) → ∀ i x, xs[i]? = some x → ∀ j, j < sz → (xs.flatMap AV.cells)[i * sz + j]? = x.cells[j]?
  | [], _, i, x, hx, j, hj => by simp at hx
  | y :: xs, h, i, x, hx, j, hj => by
    simp only [List.flatMap_cons]
    have hy := h y (by simp)
    cases i with
    | zero => simp at hx; subst hx; rw [Nat.zero_mul, Nat.zero_add, List.getElem?_append_left (by omega)]
    | succ i =>
      rw [List.getElem?_append_right (by rw [hy, Nat.add_mul]; omega), hy, show (i + 1) * sz + j - sz = i * sz + j by rw [Nat.add_mul]; omega]
      exact flat_get (fun z hz => h z (by simp [hz])) i x (by simpa using hx) j hj

theorem list_of_cells {sz : Nat} (h0 : 1 ≤ sz) {a b : List AV} {n : Nat} (ha : a.length = n * sz) (hb : b.length = n * sz) (hij : ∀ i j, i < n → j < sz → a[i * sz + j]? = b[i * sz + j]?) : a = b := by
  apply List.ext_getElem?
  intro k
  by_cases hk : k < n * sz
  · have := hij (k / sz) (k % sz) (Nat.div_lt_of_lt_mul (by rw [Nat.mul_comm]; exact hk)) (Nat.mod_lt _ h0)
    rwa [show k / sz * sz + k % sz = k by rw [Nat.mul_comm]; exact Nat.div_add_mod k sz] at this
  · rw [List.getElem?_eq_none (by omega), List.getElem?_eq_none (by omega)]

theorem flat_set {sz : Nat} : ∀ {xs : List AV}, (∀ x ∈ xs, x.cells.length = sz) → ∀ {i : Nat} {v : AV}, i < xs.length → v.cells.length = sz → splice (xs.flatMap AV.cells) (i * sz) v.cells = some ((xs.set i v).flatMap AV.cells)
  | [], _, i, v, hi, _ => by simp at hi
  | y :: xs, h, i, v, hi, hv => by
    have hy := h y (by simp)
    have hx : ∀ z ∈ xs, z.cells.length = sz := fun z hz => h z (by simp [hz])
    cases i with
    | zero =>
      simp only [splice, List.flatMap_cons, List.length_append, Nat.zero_mul, Nat.zero_add, List.take_zero, List.nil_append, List.set_cons_zero]
      rw [if_pos (by omega), hv, List.drop_append_of_le_length (by omega), List.drop_of_length_le (by omega)]
      simp
    | succ i =>
      have ih := flat_set hx (i := i) (v := v) (by simpa using hi) hv
      simp only [splice, List.flatMap_cons, List.set_cons_succ] at ih ⊢
      split at ih
      · rename_i hle
        simp only [Option.some.injEq] at ih
        rw [if_pos (by simp only [List.length_append, Nat.add_mul]; omega), ← ih]
        have e1 : (i + 1) * sz = y.cells.length + i * sz := by rw [hy, Nat.add_mul]; omega
        rw [e1, List.take_append, List.drop_append]
        simp only [Nat.add_sub_cancel_left, Nat.add_assoc]
        rw [List.take_of_length_le (by omega), List.drop_of_length_le (by omega)]
        simp [List.append_assoc]
      · cases ih

theorem er_cells_scal {v : AV} : v.er.cells.length = v.cells.length := by
  cases v <;> simp [AV.er, AV.er1, AV.cells]

theorem fillE_rel {sz n : Nat} {e : Env} : ∀ {ps : List (Nat × Opd)} {qs : List (Nat × Value)} {xs xs' : List AV} {l : List Value}, fillE sz xs e ps = some xs' → (∀ x ∈ xs, x.cells.length = sz) → xs.length = n → VRelL S (xs.flatMap AV.cells) l → ps.length = qs.length →
    (∀ (i : Nat) p q, ps[i]? = some p → qs[i]? = some q → p.1 = q.1 ∧ q.1 < n ∧ ∀ v, val e p.2 = some v → VRel S v q.2) →
    ∃ l', Instr.fill (fun i => some (i * sz, sz)) l.toArray qs = some (List.toArray l') ∧ VRelL S (xs'.flatMap AV.cells) l' ∧ (∀ x ∈ xs', x.cells.length = sz) ∧ xs'.length = n
  | [], [], xs, xs', l, hf, hs, hn, hr, hl, hp => by
    simp only [fillE, Option.some.injEq] at hf
    subst hf
    exact ⟨l, rfl, hr, hs, hn⟩
  | [], _ :: _, xs, xs', l, hf, hs, hn, hr, hl, hp => by simp at hl
  | _ :: _, [], xs, xs', l, hf, hs, hn, hr, hl, hp => by simp at hl
  | (j, x) :: ps, (i, u) :: qs, xs, xs', l, hf, hs, hn, hr, hl, hp => by
    obtain ⟨hpl, hin, hv⟩ := hp 0 _ _ rfl rfl
    simp only at hpl
    subst hpl
    simp only at hin
    simp only [fillE] at hf
    split at hf
    · rename_i v hv1
      split at hf
      · rename_i hsz
        have h1 := (hv v hv1).er
        obtain ⟨l1, e1, e2⟩ := h1.cells
        have hsp := flat_set hs (i := j) (v := v.er) (by omega) hsz
        obtain ⟨l2, e3, e4⟩ := splice_rel (c := #[]) hr e2 hsp
        have hus : u.cells.size = sz := by rw [e1, List.size_toArray, e2.len, hsz]
        have hle := (splice_get hsp).1
        obtain ⟨l', f1, f2⟩ := fillE_rel (n := n) hf (fun y hy => by
          rcases List.mem_or_eq_of_mem_set hy with k | k
          · exact hs y k
          · rw [k]; exact hsz) (by simp [hn]) e4 (by simpa using hl) (fun j p q hp' hq' => hp (j + 1) p q (by simpa using hp') (by simpa using hq'))
        refine ⟨l', ?_, f2⟩
        simp only [Instr.fill]
        have hb : (decide (u.cells.size ≠ sz) || decide (j * sz + u.cells.size > l.toArray.size)) = false := by
          have := hr.len
          simp [hus]
          omega
        rw [hb]
        simp only [Bool.false_eq_true, if_false]
        rw [← f1, ← e3]
        congr 1
        rw [e1]
        rw [← Array.foldl_toList, Array.toList_zipIdx]
      · cases hf
    · cases hf

theorem rep_rel {z : AV} {c : Value} {n : Nat} (hz : VRel S z c) : VRelL S ((List.replicate n z).flatMap AV.cells) ((Array.range (n * z.cells.length)).map (c.cells[· % c.cells.size]!)).toList := by
  obtain ⟨l, h1, h2⟩ := hz.cells
  have hlen := h2.len
  have hfl : ((List.replicate n z).flatMap AV.cells).length = n * z.cells.length := by
    rw [flat_len (sz := z.cells.length) (fun x hx => by rw [List.eq_of_mem_replicate hx]), List.length_replicate]
  refine .of (by simp [hfl]) fun i v u hv hu => ?_
  have hi := (List.getElem?_eq_some_iff.1 hv).1
  rw [hfl] at hi
  have h0 : 0 < z.cells.length := by
    rcases Nat.eq_zero_or_pos z.cells.length with k | k
    · rw [k] at hi; omega
    · exact k
  have hd : i / z.cells.length < n := Nat.div_lt_of_lt_mul (by rw [Nat.mul_comm]; exact hi)
  have hm : i % z.cells.length < z.cells.length := Nat.mod_lt _ h0
  have hg := flat_get (sz := z.cells.length) (xs := List.replicate n z) (fun x hx => by rw [List.eq_of_mem_replicate hx]) (i / z.cells.length) z (by simp [List.getElem?_replicate, hd]) (i % z.cells.length) hm
  rw [show i / z.cells.length * z.cells.length + i % z.cells.length = i by rw [Nat.mul_comm]; exact Nat.div_add_mod i _, hv] at hg
  obtain ⟨c', k1, k2⟩ := h2.get _ v hg.symm
  have hu2 : u = c' := by
    simp only [Array.toList_map, Array.toList_range, List.getElem?_map, List.getElem?_range hi, Option.map_some, Option.some.injEq] at hu
    rw [← hu, h1, List.size_toArray, hlen]
    simp [k1]
  rw [hu2]; exact k2

theorem imm_els {l : List Value} {b sz : Nat} {xs : List AV} (hs : ∀ x ∈ xs, x.cells.length = sz) (hl : VRelL S (xs.flatMap AV.cells) l) (hF : ∀ (i : Nat) v, l[i]? = some v → S.F b i = some v) : VEls S xs b 0 sz := by
  rw [VEls.flat]
  refine ⟨hs, .of fun i v hv => ?_⟩
  obtain ⟨c, e1, e2⟩ := hl.get i v hv
  exact ⟨c, by rw [Nat.zero_add]; exact hF i c e1, e2⟩

/-- a slice made anew, written or not -/
theorem new_slice (hp : Bool) (hw : WRel G S h w) {el : TypeId} {xs : List AV} {l : List Value} {sz : Nat} (h0 : 1 ≤ sz) (e : w'.heap = w.heap.push (.cells l.toArray el)) (eo : w'.os = w.os) (et : w'.tape = w.tape) (eu : w'.output = w.output)
    (hs : ∀ x ∈ xs, x.cells.length = sz) (hl : VRelL S (xs.flatMap AV.cells) l) :
    ∃ S', Ext S w S' w' ∧ WRel G S' (if hp then h.new (.cells (xs.flatMap AV.cells)) else h) w' ∧ VRel S' (if hp then .hs h.next 0 xs.length sz else .vs .exact xs) (.slice (some ⟨w.heap.size, 0, none⟩) xs.length xs.length) := by
  have hlen := hl.len
  rw [flat_len hs] at hlen
  cases hp with
  | true =>
    obtain ⟨x1, x2⟩ := new_cells hw e eo et eu (cs := xs.flatMap AV.cells) (by simp [hl.len]) (fun i v hv => by
      obtain ⟨c, e1, e2⟩ := hl.get i v hv
      exact ⟨c, by simpa using e1, e2⟩) (thaw0 _ _)
    refine ⟨_, x1, by simpa using x2, ?_⟩
    simp only [if_true, VRel, Sim.addR]
    exact ⟨_, _, rfl, Nat.le_refl _, fun _ => ⟨rfl, by simp [hlen]⟩⟩
  | false =>
    obtain ⟨x1, x2⟩ := new_imm hw e eo et eu (cs := l) (fun i v hv => by simpa using hv)
    refine ⟨_, x1, by simpa using x2, ?_⟩
    simp only [Bool.false_eq_true, if_false, VRel]
    refine ⟨_, _, rfl, Nat.le_refl _, rfl, .inr ⟨_, _, sz, rfl, h0, imm_els hs (hl.mono x1.le) fun i v hv => ?_⟩⟩
    simp only [Sim.addF, if_true]
    exact hv

theorem small_facts {el : TypeId} (h : smallElem P el = true) : P.bytesOf el ≤ 65536 ∧ P.cellsOf el ≤ 16384 ∧ 1 ≤ P.cellsOf el ∧ cell1 P el = true := by
  simp only [smallElem, Bool.and_eq_true, decide_eq_true_eq] at h
  exact ⟨h.1.1.1.1, h.1.1.1.2, h.1.1.2, h.1.2⟩
theorem small_zero {el : TypeId} (h : smallElem P el = true) : ∃ z, zeroOf P el = some z ∧ z.cells.length = P.cellsOf el := by
  simp only [smallElem, Bool.and_eq_true, decide_eq_true_eq] at h
  have := h.2
  split at this
  · rename_i z hz
    exact ⟨z, hz, by simpa using this⟩
  · cases this

theorem snd_bslice {o : Oper} {t el : TypeId} {n : Nat} {hp : Bool} {parts : Array (Nat × Operand)} {z : AV} {xs : List AV} {os : List (Nat × Opd)} (hop : o.op = .buildSlice t n parts) (hz : zeroOf P el = some z) (ht : P.underlying t = some (.slice el)) (hsm : smallElem P el = true) (hzs : z.cells.length = P.cellsOf el) (hn : n < 1000)
    (ho : partsE G A n parts.toList = some os) (he : ERel A S e a w) (hw : WRel G S h w) (hf : fillE z.cells.length (List.replicate n z) e os = some xs) :
    Out P G S w (if hp then h.new (.cells (xs.flatMap AV.cells)) else h) (if hp then .hs h.next 0 n z.cells.length else .vs .exact xs) (execOp a.eval o) := by
  obtain ⟨i, v, h1, h2, hr⟩ := zero_rel hz
  obtain ⟨b1, b2, b3, b4⟩ := small_facts hsm
  obtain ⟨k1, k2⟩ := partsE_len ho
  have hsz : P.cellsOf el = i.size := by simp [Program.cellsOf, h1]
  have hrep := rep_rel (n := n) (hr S)
  obtain ⟨l', f1, f2, f3, f4⟩ := fillE_rel (n := n) (qs := parts.toList.map fun (i, x) => (i, a.eval x)) hf (fun x hx => by rw [List.eq_of_mem_replicate hx]) (by simp) hrep (by simp [k1]) (fun i p q hp hq => by
    obtain ⟨y, hy, rfl⟩ := get_map2 hq
    obtain ⟨e1, e2, e3⟩ := k2 i p y hp hy
    exact ⟨e1, e2, fun v hv => opd_rel e3 he hw hv⟩)
  obtain ⟨S', x1, x2, x3⟩ := new_slice hp hw (w' := w.alloc (.cells l'.toArray el)) (el := el) (by omega) rfl rfl rfl rfl f3 f2
  rw [f4] at x3
  refine ⟨_, _, S', .inl ?_, x1, x2, x3⟩
  simp only [execOp, hop]
  refine run_v ?_
  rw [hzs, hsz] at f1
  by_cases hn0 : n = 0
  · subst hn0
    have hp0 : parts.toList = [] := by
      cases hpl : parts.toList with
      | nil => rfl
      | cons q qs =>
        obtain ⟨p, hp'⟩ : ∃ p, os[0]? = some p := by
          cases os with
          | nil => rw [hpl] at k1; simp at k1
          | cons p _ => exact ⟨p, rfl⟩
        have := (k2 0 p q hp' (by rw [hpl]; rfl)).2.1
        omega
    have hp1 : parts = #[] := by rw [← Array.toList_inj]; exact hp0
    subst hp1
    simp [Instr.fill] at f1
    have : l' = [] := by
      have := f2.len
      rw [flat_len f3, f4] at this
      simpa using this
    subst this
    simp [Instr.buildSlice, run_underlying ht, sizeOf, typeInfo, zeroValue, h1, h2, newRow, Instr.fill, Array.range_zero']
  · refine run_buildSlice (P := P) w t el n _ _ i v ht h1 h2 ?_ ?_ ?_
    · rw [hsz] at b2
      have := Nat.mul_le_mul (show n ≤ 1000 by omega) b2
      omega
    · rw [hsz] at b3
      have := Nat.mul_pos (Nat.pos_of_ne_zero hn0) b3
      omega
    · simp only [Array.toList_map]
      exact f1

end
end Go.AM

set_option linter.unusedVariables false
set_option linter.unusedSimpArgs false
namespace Go.AM
open Go
section
variable {P : Program} {G : GTab} {A : Ann} {S S' : Sim} {e : Env} {h h' : Heap} {a : Act} {w w' : World}

theorem snd_mkmap {o : Oper} {t : TypeId} (hop : o.op = .makeMap t none) (hw : WRel G S h w) : Out P G S w (h.new (.map [] 0)) (.mp h.next) (execOp a.eval o) := by
  obtain ⟨x1, x2⟩ := new_obj (w' := w.alloc (.map #[] 0)) (lim := 0) hw rfl rfl rfl rfl (x := .map [] 0) (fun S' le hr _ => ⟨_, _, _, hr, #[], cell_new rfl, rfl, by simp, by simp⟩)
  refine ⟨.map (some w.heap.size), _, _, .inl ?_, x1, x2, ?_⟩
  · simp only [execOp, hop]
    refine run_v ?_
    simp [Instr.makeMap]
  · simp only [VRel, Sim.addR, if_pos]

theorem chunk_len {sz : Nat} {ag : Bool} : ∀ {n : Nat} {cs : List AV}, (chunk sz ag n cs).length = n
  | 0, cs => rfl
  | n + 1, cs => by simp [chunk, chunk_len]
theorem scal_cells {v : AV} (h : v.scal = true) : v.cells = [v] := AV.cells_of_ne fun cs e => by subst e; simp [AV.scal] at h
theorem chunk_flat {sz : Nat} {ag : Bool} : ∀ {n : Nat} {cs : List AV}, n * sz ≤ cs.length → (ag || (sz == 1 && cs.all AV.scal)) = true → (∀ x ∈ chunk sz ag n cs, x.cells.length = sz) ∧ (chunk sz ag n cs).flatMap AV.cells = cs.take (n * sz)
  | 0, cs, _, _ => by simp [chunk]
  | n + 1, cs, hl, hg => by
    rw [Nat.add_mul] at hl
    have hg' : (ag || (sz == 1 && (cs.drop sz).all AV.scal)) = true := by
      cases ag with
      | true => rfl
      | false =>
        simp only [Bool.false_or, Bool.and_eq_true, List.all_eq_true] at hg ⊢
        exact ⟨hg.1, fun x hx => hg.2 x (List.mem_of_mem_drop hx)⟩
    obtain ⟨h1, h2⟩ := chunk_flat (n := n) (cs := cs.drop sz) (by simp; omega) hg'
    have key : ∀ y : AV, y.cells = cs.take sz → (∀ x ∈ y :: chunk sz ag n (cs.drop sz), x.cells.length = sz) ∧ (y :: chunk sz ag n (cs.drop sz)).flatMap AV.cells = cs.take ((n + 1) * sz) := fun y hy => by
      refine ⟨fun x hx => ?_, ?_⟩
      · rcases List.mem_cons.1 hx with rfl | hx
        · rw [hy]; simp; omega
        · exact h1 x hx
      · rw [List.flatMap_cons, hy, h2, Nat.add_mul, Nat.add_comm (n * sz), Nat.one_mul, List.take_add]
    cases ag with
    | true => exact key (.agg (cs.take sz)) rfl
    | false =>
      simp only [Bool.false_or, Bool.and_eq_true, beq_iff_eq, List.all_eq_true] at hg
      obtain ⟨rfl, hg⟩ := hg
      cases cs with
      | nil => simp at hl
      | cons x cs =>
        refine key x ?_
        rw [scal_cells (hg x (by simp))]
        rfl

/-- what is read of a slice -/
theorem elems_rel {sz : Nat} {ag : Bool} {v : AV} {xs : List AV} {c : Value} (hw : WRel G S h w) (hv : VRel S v c) (hel : elems h sz ag v = some xs) :
    (∀ x ∈ xs, x.cells.length = sz) ∧ ∃ base cap, c = .slice base xs.length cap ∧ xs.length ≤ cap ∧ (xs = [] ∨ ∃ b o l, base = some ⟨b, o, none⟩ ∧ Row w b o l ∧ VRelL S (xs.flatMap AV.cells) l) := by
  cases v <;> simp only [elems, reduceCtorEq] at hel
  · cases hel
    simp only [VRel] at hv
    exact ⟨by simp, none, 0, hv, Nat.le_refl _, .inl rfl⟩
  · split at hel
    · rename_i hd
      cases hel
      simp only [VRel] at hv
      obtain ⟨base, cap, hc, hl, _, hx⟩ := hv
      rcases hx with rfl | ⟨b, o, sz', hb, h1, hE⟩
      · exact ⟨by simp, base, cap, hc, hl, .inl rfl⟩
      · cases xs with
        | nil => exact ⟨by simp, base, cap, hc, hl, .inl rfl⟩
        | cons x xs =>
          have hs : sz' = sz := by
            rw [VEls.cons] at hE
            simp only [hdSz, beq_iff_eq] at hd
            rw [← hE.1, hd]
          subst hs
          rw [VEls.flat] at hE
          obtain ⟨l, g1, g2⟩ := mem_row hw hE.2
          exact ⟨hE.1, base, cap, hc, hl, .inr ⟨b, o, l, hb, g2, g1⟩⟩
    · cases hel
  · rename_i r off n sz'
    split at hel
    · rename_i cs hg
      split at hel
      · rename_i hd
        obtain ⟨rfl, hd, hag⟩ := hd
        cases hel
        have hag' : (ag || (sz' == 1 && (cs.drop off).all AV.scal)) = true := by
          cases ag with
          | true => rfl
          | false =>
            simp only [Bool.false_or, Bool.and_eq_true, List.all_eq_true] at hag ⊢
            exact ⟨hag.1, fun x hx => hag.2 x (List.mem_of_mem_drop hx)⟩
        obtain ⟨q1, q2⟩ := chunk_flat (n := n) (cs := cs.drop off) (by simp; omega) hag'
        obtain ⟨b, base, lim, l, hr, g1, g2⟩ := obj_row hw hg
        simp only [VRel, hr] at hv
        obtain ⟨ad, cap, hc, hl, hk⟩ := hv
        rw [chunk_len]
        refine ⟨q1, some ad, cap, hc, hl, ?_⟩
        by_cases h0 : n = 0
        · left; subst h0; rfl
        · right
          obtain ⟨rfl, hk2⟩ := hk (by omega)
          refine ⟨b, base + off, (l.drop off).take (n * sz'), rfl, fun i u hu => ?_, ?_⟩
          · rw [List.getElem?_take] at hu
            split at hu
            · rw [List.getElem?_drop] at hu
              rw [Nat.add_assoc]
              exact g2 _ u hu
            · cases hu
          · rw [q2]
            exact (g1.drop off).take _
      · cases hel
    · cases hel

theorem row_add {b o : Nat} {l : List Value} (h : Row w b o l) : ∀ j v, l[j]? = some v → w.cell? ((Addr.mk b o none).add j) = some v := fun j v hv => by
  rw [add_none]; exact h j v hv

theorem bytesOf_rel : ∀ {xs : List AV} {s : List UInt8} {l : List Value}, bytesOf xs = some s → VRelL S (xs.flatMap AV.cells) l → ∃ ns : List Int, l = ns.map (Value.int .u8) ∧ ns.map (fun n => UInt8.ofNat n.toNat) = s
  | [], s, l, hb, hr => by
    simp only [bytesOf, Option.some.injEq] at hb; subst hb
    simp only [List.flatMap_nil, VRelL] at hr; subst hr
    exact ⟨[], rfl, rfl⟩
  | x :: xs, s, l, hb, hr => by
    unfold bytesOf at hb
    split at hb
    · simp_all
    · rename_i n xs' heq
      cases heq
      split at hb
      · rename_i r hr'
        cases hb
        simp only [List.flatMap_cons, AV.cells, List.singleton_append, VRelL] at hr
        obtain ⟨c, cs, rfl, h1, h2⟩ := hr
        simp only [VRel] at h1
        subst h1
        obtain ⟨ns, rfl, h3⟩ := bytesOf_rel hr' h2
        exact ⟨n :: ns, rfl, by simp [h3]⟩
      · cases hb
    · cases hb

theorem push_all : ∀ (ns : List Int) (s : ByteArray), ns.foldl (fun r n => r.push (UInt8.ofNat n.toNat)) s = ⟨(s.data.toList ++ ns.map fun n => UInt8.ofNat n.toNat).toArray⟩
  | [], s => by simp
  | n :: ns, s => by
    rw [List.foldl_cons, push_all ns]
    simp [ByteArray.push]

theorem snd_cvS {o : Oper} {s d el : TypeId} {x : Operand} {ox : Opd} {v : AV} {xs : List AV} {bs : List UInt8} (hop : o.op = .convert s d x) (hs : P.underlying s = some (.slice el)) (hel : P.underlying el = some (.int .u8)) (hd : P.underlying d = some .string) (hx : opd G A x = some ox)
    (he : ERel A S e a w) (hw : WRel G S h w) (hv : val e ox = some v) (hxs : elems h 1 false v = some xs) (hb : bytesOf xs = some bs) : Pure P S w (.str bs) (execOp a.eval o) := by
  have h1 := opd_rel hx he hw hv
  obtain ⟨q1, base, cap, hc, hl, hq⟩ := elems_rel hw h1 hxs
  refine ⟨.string ⟨bs.toArray⟩, ?_, by simp only [VRel]⟩
  rw [run_convertOp hop, hc]
  refine run_v ?_
  have hcv : (convert s d (.slice base xs.length cap)).run P w = (Conv.bytesToString (.slice base xs.length cap)).run P w := by
    simp [convert, run_underlying hs, run_underlying hd, run_underlying hel]
  rw [hcv]
  rcases hq with rfl | ⟨b, o', l, rfl, g1, g2⟩
  · simp only [bytesOf, Option.some.injEq] at hb
    subst hb
    cases base with
    | none => rfl
    | some ad => exact run_bytesToString (P := P) w ad 0 cap [] rfl
  · obtain ⟨ns, rfl, h3⟩ := bytesOf_rel hb g2
    have hlen := g2.len
    rw [flat_len q1] at hlen
    simp only [List.length_map, Nat.mul_one] at hlen
    have hld := run_loadCells_list (P := P) w ⟨b, o', none⟩ _ (row_add g1)
    rw [List.length_map, hlen] at hld
    rw [run_bytesToString (P := P) w ⟨b, o', none⟩ xs.length cap ns hld, push_all]
    simp only [ByteArray.empty, ByteArray.emptyWithCapacity, List.nil_append, h3]
    rfl

end
end Go.AM

set_option linter.unusedVariables false
set_option linter.unusedSimpArgs false
namespace Go.AM
open Go
section
variable {P : Program} {G : GTab} {A : Ann} {S S' : Sim} {e : Env} {h h' : Heap} {a : Act} {w w' : World}

theorem modify_push_last {α : Type} (xs : Array α) (x : α) (f : α → α) : (xs.push x).modify xs.size f = xs.push (f x) := by
  apply Array.ext_getElem?
  intro i
  rw [Array.getElem?_modify, Array.getElem?_push, Array.getElem?_push]
  by_cases hi : i = xs.size
  · subst hi; simp
  · rw [if_neg (fun e => hi e.symm), if_neg hi, if_neg hi]

theorem snd_cvB {o : Oper} {s d el : TypeId} {x : Operand} {ox : Opd} {bs : List UInt8} (hop : o.op = .convert s d x) (hs : P.underlying s = some .string) (hd : P.underlying d = some (.slice el)) (hel : P.underlying el = some (.int .u8)) (hx : opd G A x = some ox)
    (he : ERel A S e a w) (hw : WRel G S h w) (hv : val e ox = some (.str bs)) : Out P G S w h (.vs .unk (bs.map fun b => .int .u8 b.toNat)) (execOp a.eval o) := by
  have h1 := opd_rel hx he hw hv
  simp only [VRel] at h1
  have hq : (Question.appendCap bs.length 0 el).forced = false := rfl
  generalize hcap : (Question.appendCap bs.length 0 el).cut (w.tape w.drawn (.appendCap bs.length 0 el)) = cap
  have hge : bs.length ≤ cap := by rw [← hcap]; simp [Question.cut]
  generalize hcs : ((bs.map fun b : UInt8 => Value.int .u8 b.toNat).toArray ++ Array.replicate (cap - bs.length) (.int .u8 0) : Array Value) = cs
  let w1 : World := { w with heap := w.heap.push (.cells cs el (cs.size, cs.size + 1)), drawn := w.drawn + 1 }
  have hrun : (Conv.stringToBytes el ⟨bs.toArray⟩).run P w = .ok (.slice (some ⟨w.heap.size, 0, none⟩) bs.length cap) w1 := by
    have e1 : (ByteArray.mk bs.toArray).size = bs.length := by simp [ByteArray.size]
    have e2 : (Array.map (fun b : UInt8 => Value.int .u8 b.toNat) bs.toArray ++ Array.replicate (cap - bs.length) (.int .u8 0) : Array Value) = cs := by rw [← hcs]; simp
    simp only [Conv.stringToBytes, choose, Sem.run_bind, Sem.run, e1, hq, Bool.false_eq_true, if_false, hcap, Result.andThen_ok, newRow, newObj, e2, markStringish, shape, World.shape?, Array.getElem?_push_size, freeze, World.freeze, Sem.run_pure]
    simp only [Nat.one_ne_zero, if_false, modify_push_last]
    simp [w1]
  generalize hlq : (bs.map fun b : UInt8 => Value.int .u8 b.toNat) = lq at *
  obtain ⟨x1, x2⟩ := new_imm (w' := w1) hw rfl rfl rfl rfl (cs := lq) (fun i v hv => by
    rw [← hcs, Array.getElem?_append_left (by simpa using (List.getElem?_eq_some_iff.1 hv).1)]
    simpa using hv)
  refine ⟨.slice (some ⟨w.heap.size, 0, none⟩) bs.length cap, w1, _, .inl ?_, x1, x2, ?_⟩
  · rw [run_convertOp hop, h1]
    refine run_v ?_
    rw [← hrun]
    simp [convert, run_underlying hs, run_underlying hd, run_underlying hel]
  · simp only [VRel]
    refine ⟨_, cap, by rw [List.length_map], by simpa using hge, trivial, .inr ⟨_, _, 1, rfl, Nat.le_refl _, ?_⟩⟩
    refine imm_els (l := lq) (fun x hx => ?_) ?_ (fun i v hv => by simp only [Sim.addF, if_true]; exact hv)
    · simp only [List.mem_map] at hx
      obtain ⟨b, _, rfl⟩ := hx
      rfl
    · rw [← hlq]
      generalize S.addF w.heap.size _ = S2
      clear hlq x1 x2 w1 hrun hcs hge hcap hv h1 hq
      induction bs with
      | nil => simp only [List.map_nil, List.flatMap_nil]; exact .nil
      | cons b bs ih =>
        simp only [List.map_cons, List.flatMap_cons, AV.cells, List.singleton_append]
        exact ih.cons (by simp only [VRel])

/-! ### makeSlice -/

theorem made_rep {z : Value} {n : Nat} : madeCells z.cells n = (Array.range n).map (z.cells[· % z.cells.size]!) := rfl

theorem snd_mkslice {o : Oper} {t el : TypeId} {l c : Operand} {ol oc : Opd} {n m : Nat} {z : AV} {r : AV × Heap} (hp : Bool) (hop : o.op = .makeSlice t l c) (hl : opd G A l = some ol) (hc : opd G A c = some oc) (hz : zeroOf P el = some z) (ht : P.underlying t = some (.slice el))
    (hsm : smallElem P el = true) (hzs : z.cells.length = P.cellsOf el) (he : ERel A S e a w) (hw : WRel G S h w) (hn : nat? e ol = some n) (hm : nat? e oc = some m) (hnm : n ≤ m) (hok : lenOk m = true)
    (hr : r = (if hp then (.hs h.next 0 n z.cells.length, h.new (.cells ((List.replicate n z).flatMap AV.cells))) else if n = m then (.vs .exact (List.replicate n z), h) else (.vs (.tok h.next 0) [], h.new (.tip 0 z.cells.length))) )
    (hk : n = m ∨ (hp = false ∧ n = 0)) : Out P G S w r.2 r.1 (execOp a.eval o) := by
  obtain ⟨i, v, h1, h2, hrel⟩ := zero_rel hz
  obtain ⟨b1, b2, b3, b4⟩ := small_facts hsm
  have hsz : P.cellsOf el = i.size := by simp [Program.cellsOf, h1]
  have hby : P.bytesOf el = i.bytes := by simp [Program.bytesOf, h1]
  obtain ⟨k1, e1⟩ := nat_rel hl he hw hn
  obtain ⟨k2, e2⟩ := nat_rel hc he hw hm
  simp only [lenOk, decide_eq_true_eq] at hok
  have hmul : i.bytes * m ≤ 65536 * 2 ^ 30 := Nat.mul_le_mul (by omega) (by omega)
  have hrun := run_make (P := P) w t el i v ht h1 h2 k1 k2 n m (by omega) (by omega) (by
    have : ((i.bytes * m : Nat) : Int) ≤ ((65536 * 2 ^ 30 : Nat) : Int) := by exact_mod_cast hmul
    rw [Int.natCast_mul] at this
    have e3 : ((65536 * 2 ^ 30 : Nat) : Int) ≤ 281474976710656 := by decide
    omega) (by omega)
  simp only [Int.toNat_natCast] at hrun
  have hx : (execOp a.eval o).run P w = .ok (.value (.slice (some ⟨w.heap.size, 0, none⟩) n m)) (w.alloc (.cells (madeCells v.cells (m * i.size)) el)) := by
    simp only [execOp, hop, e1, e2]
    exact run_v hrun
  have hrep := rep_rel (n := n) (hrel S)
  rw [hzs, hsz] at hrep
  by_cases hnm2 : n = m
  · subst hnm2
    obtain ⟨S', x1, x2, x3⟩ := new_slice hp hw (w' := w.alloc (.cells (madeCells v.cells (n * i.size)) el)) (el := el) (xs := List.replicate n z) (sz := z.cells.length) (l := (madeCells v.cells (n * i.size)).toList) (by omega) (by rw [Array.toArray_toList]; rfl) rfl rfl rfl (fun x hx => by rw [List.eq_of_mem_replicate hx]) hrep
    simp only [List.length_replicate] at x3
    refine ⟨_, _, S', .inl hx, x1, ?_, ?_⟩
    · rw [hr]; cases hp <;> simpa using x2
    · rw [hr]; cases hp <;> simpa using x3
  · rcases hk with hk | ⟨rfl, rfl⟩
    · exact absurd hk hnm2
    · simp only [Bool.false_eq_true, if_false, if_neg hnm2] at hr
      subst hr
      obtain ⟨x1, x2⟩ := new_tok (w' := w.alloc (.cells (madeCells v.cells (m * i.size)) el)) hw rfl rfl rfl rfl (cs := []) (n := 0) (sz := z.cells.length) (cap := m) (by simp) (by simp) (by rw [size_madeCells, hzs, hsz]; exact Nat.le_refl _) (thaw0 _ _)
      refine ⟨_, _, _, .inl hx, x1, x2, ?_⟩
      simp only [VRel]
      refine ⟨_, _, rfl, Nat.zero_le _, ⟨⟨0, w.heap.size, 0, m * z.cells.length, z.cells.length⟩, by simp [Sim.addT], Nat.le_refl _, fun _ _ => ⟨0, rfl, by simp, by simp⟩⟩, .inl trivial⟩

end
end Go.AM

set_option linter.unusedVariables false
set_option linter.unusedSimpArgs false
namespace Go.AM
open Go
section
variable {P : Program} {G : GTab} {A : Ann} {S S' : Sim} {e : Env} {h h' : Heap} {a : Act} {w w' : World}

theorem optO_some {x : Option Operand} {ox : Option Opd} (h : optO G A x = some ox) : (x = none ∧ ox = none) ∨ ∃ y oy, x = some y ∧ ox = some oy ∧ opd G A y = some oy := by
  unfold optO at h
  split at h
  · cases h; exact .inl ⟨rfl, rfl⟩
  · split at h
    · rename_i x o ho; cases h; exact .inr ⟨_, _, rfl, rfl, ho⟩
    · cases h

theorem run_bounds {isS : Bool} {len cap d l m k : Nat} {lo hi mx : Option Operand} {ol oh om : Option Opd} (h1 : optO G A lo = some ol) (h2 : optO G A hi = some oh) (h3 : optO G A mx = some om) (he : ERel A S e a w) (hw : WRel G S h w)
    (hl : optNat e 0 ol = some l) (hm : optNat e len oh = some m) (hk : optNat e cap om = some k) (hlm : l ≤ m) (hmk : m ≤ k) (hkc : k ≤ cap) (hmx : om.isSome = true → oh.isSome = true) :
    (Instr.sliceBounds isS len cap (lo.map a.eval) (hi.map a.eval) (mx.map a.eval)).run P w = .ok (l, m, k) w := by
  have hmax : ∀ code, (match mx.map a.eval with | some v => Instr.sliceBound v cap code | none => pure cap : Sem Nat).run P w = .ok k w := fun code => by
    rcases optO_some h3 with ⟨rfl, rfl⟩ | ⟨y, oy, rfl, rfl, hy⟩
    · simp only [optNat, Option.some.injEq] at hk
      subst hk; rfl
    · obtain ⟨kk, e1⟩ := nat_rel hy he hw hk
      simp only [Option.map_some, e1]
      rw [run_sliceBound (P := P) w kk (k : Int) cap code (by omega) (by omega), Int.toNat_natCast]
  rcases optO_some h2 with ⟨rfl, rfl⟩ | ⟨y, oy, rfl, rfl, hy⟩
  · rcases optO_some h3 with ⟨rfl, rfl⟩ | ⟨y, oy, rfl, rfl, hy⟩
    · simp only [optNat, Option.some.injEq] at hm hk
      subst hm hk
      rcases optO_some h1 with ⟨rfl, rfl⟩ | ⟨y, oy, rfl, rfl, hy⟩
      · simp only [optNat, Option.some.injEq] at hl
        subst hl
        rfl
      · obtain ⟨kk, e1⟩ := nat_rel hy he hw hl
        simp only [Instr.sliceBounds, Option.map_some, Option.map_none, Sem.run_bind, Sem.run_pure, Result.andThen_ok, e1]
        rw [run_sliceBound (P := P) w kk (l : Int) len _ (by omega) (by omega), Int.toNat_natCast]
        rfl
    · exact absurd (hmx rfl) (by simp)
  · obtain ⟨kh, e2⟩ := nat_rel hy he hw hm
    have hlow : ∀ code k, (match lo.map a.eval with | some v => do let l ← Instr.sliceBound v m code; pure (l, m, k) | none => do let l ← pure 0; pure (l, m, k) : Sem (Nat × Nat × Nat)).run P w = .ok (l, m, k) w := fun code k => by
      rcases optO_some h1 with ⟨rfl, rfl⟩ | ⟨y, oy, rfl, rfl, hy⟩
      · simp only [optNat, Option.some.injEq] at hl
        subst hl; rfl
      · obtain ⟨kk, e1⟩ := nat_rel hy he hw hl
        simp only [Option.map_some, e1, Sem.run_bind]
        rw [run_sliceBound (P := P) w kk (l : Int) m code (by omega) (by omega), Int.toNat_natCast]
        rfl
    rcases optO_some h3 with ⟨rfl, rfl⟩ | ⟨z, oz, rfl, rfl, hz⟩
    · simp only [optNat, Option.some.injEq] at hk
      subst hk
      simp only [Instr.sliceBounds, Option.map_some, Option.map_none, Sem.run_bind, Sem.run_pure, Result.andThen_ok, e2]
      rw [run_sliceBound (P := P) w kh (m : Int) cap _ (by omega) (by omega), Int.toNat_natCast]
      simp only [Result.andThen_ok]
      exact hlow _ _
    · obtain ⟨kz, e3⟩ := nat_rel hz he hw hk
      simp only [Instr.sliceBounds, Option.map_some, Sem.run_bind, Sem.run_pure, Result.andThen_ok, e2, e3]
      rw [run_sliceBound (P := P) w kz (k : Int) cap _ (by omega) (by omega), Int.toNat_natCast]
      simp only [Result.andThen_ok]
      rw [run_sliceBound (P := P) w kh (m : Int) k _ (by omega) (by omega), Int.toNat_natCast]
      simp only [Result.andThen_ok]
      exact hlow _ _

theorem extract_list (s : List UInt8) (l m : Nat) : (ByteArray.mk s.toArray).extract l m = ⟨((s.take m).drop l).toArray⟩ := by
  apply ByteArray.ext
  rw [ByteArray.data_extract]
  apply Array.ext'
  simp [Array.toList_extract, List.extract_eq_take_drop, List.drop_take]

theorem snd_sliceS {o : Oper} {t : TypeId} {x : Operand} {lo hi : Option Operand} {ox : Opd} {ol oh : Option Opd} {s : List UInt8} {l m : Nat} (hop : o.op = .slice t x lo hi none) (hx : opd G A x = some ox) (h1 : optO G A lo = some ol) (h2 : optO G A hi = some oh) (ht : P.underlying t = some .string)
    (he : ERel A S e a w) (hw : WRel G S h w) (hv : val e ox = some (.str s)) (hl : optNat e 0 ol = some l) (hm : optNat e s.length oh = some m) (hlm : l ≤ m) (hms : m ≤ s.length) : Pure P S w (.str ((s.take m).drop l)) (execOp a.eval o) := by
  have hc := opd_rel hx he hw hv
  simp only [VRel] at hc
  have hb := run_bounds (P := P) (isS := false) (len := s.length) (cap := s.length) (d := 0) (k := s.length) (mx := none) (om := none) h1 h2 rfl he hw hl hm rfl hlm hms (Nat.le_refl _) (by simp)
  refine ⟨.string ⟨((s.take m).drop l).toArray⟩, ?_, by simp only [VRel]⟩
  simp only [execOp, hop, hc]
  refine run_v ?_
  have e1 : (ByteArray.mk s.toArray).size = s.length := by simp [ByteArray.size]
  rw [Option.map_none] at hb ⊢
  simp only [Instr.sliceAt, Sem.run_bind, run_underlying ht, Result.andThen_ok, Instr.slice, Option.isSome_none, Bool.false_eq_true, if_false, Sem.run_pure, e1, hb]
  rw [extract_list]

theorem run_sliceSl {t el : TypeId} {base : Option Addr} {len cap l m k : Nat} {lo hi mx : Option Value} (ht : P.underlying t = some (.slice el)) (hi' : (P.info? el).isSome = true) (hb : (Instr.sliceBounds true len cap lo hi mx).run P w = .ok (l, m, k) w) :
    (Instr.sliceAt t (.slice base len cap) lo hi mx).run P w = .ok (.slice (if k = l then base else base.map (·.add (l * P.cellsOf el))) (m - l) (k - l)) w := by
  simp only [Instr.sliceAt, Sem.run_bind, run_underlying ht, Result.andThen_ok, Instr.slice, hb, run_sz hi', Sem.run_pure]

theorem take_drop_len {α : Type} {xs : List α} {l m : Nat} (h1 : l ≤ m) (h2 : m ≤ xs.length) : ((xs.take m).drop l).length = m - l := by simp; omega

theorem slice_els {xs : List AV} {base : Option Addr} {l m k sz : Nat} (hE : xs = [] ∨ ∃ b o sz, base = some ⟨b, o, none⟩ ∧ 1 ≤ sz ∧ VEls S xs b o sz) (h1 : l ≤ m) (h2 : m ≤ xs.length) (hd : hdSz sz xs = true) (h0 : 1 ≤ sz) (hk : m ≤ k) :
    (xs.take m).drop l = [] ∨ ∃ b o sz', (if k = l then base else base.map (·.add (l * sz))) = some ⟨b, o, none⟩ ∧ 1 ≤ sz' ∧ VEls S ((xs.take m).drop l) b o sz' := by
  by_cases hm : m = l
  · left
    subst hm
    exact List.drop_of_length_le (by simp; omega)
  · rcases hE with rfl | ⟨b, o, sz', rfl, h3, h4⟩
    · simp
    · right
      have hs : sz' = sz := by
        cases xs with
        | nil => simp at h2; omega
        | cons x xs =>
          rw [VEls.cons] at h4
          simp only [hdSz, beq_iff_eq] at hd
          rw [← h4.1, hd]
      subst hs
      refine ⟨b, o + l * sz', sz', ?_, h3, (h4.take m).drop l (by simp; omega)⟩
      rw [if_neg (by omega), Option.map_some, add_none]

theorem snd_sliceV {o : Oper} {t el : TypeId} {x : Operand} {lo hi mx : Option Operand} {ox : Opd} {ol oh om : Option Opd} {v v' : AV} (hop : o.op = .slice t x lo hi mx) (hx : opd G A x = some ox) (h1 : optO G A lo = some ol) (h2 : optO G A hi = some oh) (h3 : optO G A mx = some om)
    (ht : P.underlying t = some (.slice el)) (hel : 1 ≤ P.cellsOf el) (hmx : om.isSome = true → oh.isSome = true) (he : ERel A S e a w) (hw : WRel G S h w) (hv : val e ox = some v)
    (hr : (v = .nils ∧ v' = .nils ∧ optNat e 0 ol = some 0 ∧ optNat e 0 oh = some 0 ∧ optNat e 0 om = some 0) ∨
      (∃ c xs l m k, v = .vs c xs ∧ optNat e 0 ol = some l ∧ optNat e xs.length oh = some m ∧ optNat e xs.length om = some k ∧ l ≤ m ∧ m ≤ k ∧ k ≤ xs.length ∧ hdSz (P.cellsOf el) xs = true ∧
        v' = .vs (if om.isSome then (if k = m then .exact else .unk) else (if m = xs.length then capCut c l else .unk)) ((xs.take m).drop l)) ∨
      (∃ r off n l m, v = .hs r off n (P.cellsOf el) ∧ optNat e 0 ol = some l ∧ optNat e n oh = some m ∧ l ≤ m ∧ m ≤ n ∧ om = none ∧ v' = .hs r (off + l * P.cellsOf el) (m - l) (P.cellsOf el))) :
    Pure P S w v' (execOp a.eval o) := by
  have hc := opd_rel hx he hw hv
  have hi' : (P.info? el).isSome = true := by
    cases k : P.info? el with
    | some _ => rfl
    | none => simp [Program.cellsOf, k] at hel
  have e1 : execOp a.eval o = (do pure (Next.value (← Instr.sliceAt t (a.eval x) (lo.map a.eval) (hi.map a.eval) (mx.map a.eval))) : Sem Next) := by simp only [execOp, hop]
  rw [Pure, e1]
  rcases hr with ⟨rfl, rfl, q1, q2, q3⟩ | ⟨c, xs, l, m, k, rfl, q1, q2, q3, q4, q5, q6, q7, rfl⟩ | ⟨r, off, n, l, m, rfl, q1, q2, q3, q4, rfl, rfl⟩
  · simp only [VRel] at hc
    rw [hc]
    have hb := run_bounds (P := P) (isS := true) (d := 0) h1 h2 h3 he hw q1 q2 q3 (Nat.le_refl _) (Nat.le_refl _) (Nat.le_refl _) hmx
    exact ⟨_, run_v (run_sliceSl ht hi' hb), by simp only [VRel]; rfl⟩
  · simp only [VRel] at hc
    obtain ⟨base, cap, hc, hl, hcap, hE⟩ := hc
    rw [hc]
    cases om with
    | some om =>
      have hb := run_bounds (P := P) (isS := true) (len := xs.length) (cap := cap) (d := 0) h1 h2 h3 he hw q1 q2 q3 q4 q5 (by omega) hmx
      refine ⟨_, run_v (run_sliceSl ht hi' hb), ?_⟩
      simp only [VRel, Option.isSome_some, if_true]
      refine ⟨_, _, by rw [take_drop_len q4 (by omega)], by rw [take_drop_len q4 (by omega)]; omega, ?_, ?_⟩
      · split
        · rw [take_drop_len q4 (by omega)]; simp only [CapOk]; omega
        · trivial
      · exact slice_els hE q4 (by omega) q7 hel (by omega)
    | none =>
      rcases optO_some h3 with ⟨rfl, _⟩ | ⟨y, oy, _, hf, _⟩
      · simp only [optNat, Option.some.injEq] at q3
        subst q3
        have hb := run_bounds (P := P) (isS := true) (len := xs.length) (cap := cap) (d := 0) (k := cap) (mx := none) (om := none) h1 h2 rfl he hw q1 q2 rfl q4 (by omega) (Nat.le_refl _) (by simp)
        refine ⟨_, run_v (run_sliceSl ht hi' hb), ?_⟩
        simp only [VRel, Option.isSome_none, Bool.false_eq_true, if_false]
        refine ⟨_, _, by rw [take_drop_len q4 (by omega)], by rw [take_drop_len q4 (by omega)]; omega, ?_, ?_⟩
        · rw [take_drop_len q4 (by omega)]
          split
          · rename_i hm
            unfold capCut
            split
            · rename_i hl0
              subst hl0 hm
              simp only [Nat.sub_zero, Nat.zero_mul]
              have : (if cap = 0 then base else base.map (·.add 0)) = base ∨ (cap = 0) := by
                by_cases h0 : cap = 0
                · exact .inr h0
                · left
                  rw [if_neg h0]
                  cases base with
                  | none => rfl
                  | some ad => cases ad; simp [Addr.add]
              rcases this with k | k
              · rw [k]; exact hcap
              · rw [if_pos k]; exact hcap
            · cases c <;> simp only [CapOk] at hcap ⊢
              omega
          · trivial
        · exact slice_els hE q4 (by omega) q7 hel (by omega)
      · cases hf
  · rcases optO_some h3 with ⟨rfl, _⟩ | ⟨y, oy, _, hf, _⟩
    · have key : ∀ ad cap, a.eval x = .slice (some ad) n cap → n ≤ cap → (Instr.sliceAt t (.slice (some ad) n cap) (lo.map a.eval) (hi.map a.eval) (Option.map a.eval none)).run P w = .ok (.slice (some (if cap = l then ad else ad.add (l * P.cellsOf el))) (m - l) (cap - l)) w := fun ad cap _ hl => by
        have hb := run_bounds (P := P) (isS := true) (len := n) (cap := cap) (d := 0) (k := cap) (mx := none) (om := none) h1 h2 rfl he hw q1 q2 rfl q3 (by omega) (Nat.le_refl _) (by simp)
        rw [run_sliceSl ht hi' hb]
        congr 2
        split <;> simp_all
      simp only [VRel] at hc
      split at hc
      · rename_i b base lim hr
        obtain ⟨ad, cap, hc, hl, hk⟩ := hc
        rw [hc]
        refine ⟨_, run_v (key ad cap hc hl), ?_⟩
        simp only [VRel, hr]
        refine ⟨_, _, rfl, by omega, fun h0 => ?_⟩
        obtain ⟨rfl, h4⟩ := hk (by omega)
        rw [if_neg (by omega), add_none]
        refine ⟨by rw [Nat.add_assoc], ?_⟩
        have : (cap - l) * P.cellsOf el + l * P.cellsOf el = cap * P.cellsOf el := by rw [← Nat.add_mul]; congr 1; omega
        omega
      · rename_i hr
        obtain ⟨ad, cap, hc, hl, hk⟩ := hc
        rw [hc]
        refine ⟨_, run_v (key ad cap hc hl), ?_⟩
        simp only [VRel, hr]
        refine ⟨_, _, rfl, by omega, fun h0 => ?_⟩
        have h4 := hk (by omega)
        rw [if_neg (by omega)]
        cases ad
        simp only at h4
        subst h4
        rw [add_none]
      · exact hc.elim
    · cases hf

end
end Go.AM

set_option linter.unusedVariables false
set_option linter.unusedSimpArgs false
namespace Go.AM
open Go
section
variable {P : Program} {G : GTab} {A : Ann} {S S' : Sim} {e : Env} {h h' : Heap} {a : Act} {w w' : World}

/-! ### Maps -/

theorem EntRel.len : ∀ {es : List (AV × AV × Nat)} {l : List MapEntry}, EntRel S es l → l.length = es.length
  | [], l, h => by simp only [EntRel] at h; subst h; rfl
  | (k, v, n) :: es, l, h => by
    simp only [EntRel] at h
    obtain ⟨m, ms, rfl, _, _, _, h⟩ := h
    simp [h.len]
theorem EntRel.get : ∀ {es : List (AV × AV × Nat)} {l : List MapEntry}, EntRel S es l → ∀ (i : Nat) x, es[i]? = some x → ∃ m, l[i]? = some m ∧ VRel S x.1 m.key ∧ VRel S x.2.1 m.val ∧ m.born = x.2.2
  | [], l, h, i, x, hx => by simp at hx
  | (k, v, n) :: es, l, h, i, x, hx => by
    simp only [EntRel] at h
    obtain ⟨m, ms, rfl, h1, h2, h3, h⟩ := h
    cases i with
    | zero => simp at hx; subst hx; exact ⟨m, rfl, h1, h2, h3⟩
    | succ i => simp at hx ⊢; exact h.get i x hx
theorem EntRel.of : ∀ {es : List (AV × AV × Nat)} {l : List MapEntry}, l.length = es.length → (∀ (i : Nat) x m, es[i]? = some x → l[i]? = some m → VRel S x.1 m.key ∧ VRel S x.2.1 m.val ∧ m.born = x.2.2) → EntRel S es l
  | [], l, hl, _ => by simp only [EntRel]; cases l <;> simp_all
  | (k, v, n) :: es, [], hl, _ => by simp at hl
  | (k, v, n) :: es, m :: ms, hl, h => by
    simp only [EntRel]
    obtain ⟨h1, h2, h3⟩ := h 0 _ m rfl rfl
    exact ⟨m, ms, rfl, h1, h2, h3, EntRel.of (by simpa using hl) fun i x m' hx hm => h (i + 1) x m' (by simpa using hx) (by simpa using hm)⟩

def kdOf : TypeDesc → Option Nat
  | .int _ => some 0
  | .string => some 1
  | .bool => some 2
  | _ => none
theorem kindOf_desc {t : TypeId} {kd : Nat} (hk : kindOf P t = some kd) : ∃ d, P.underlying t = some d ∧ kdOf d = some kd := by
  unfold kindOf at hk
  split at hk
  · cases hk; exact ⟨_, ‹_›, rfl⟩
  · cases hk; exact ⟨_, ‹_›, rfl⟩
  · cases hk; exact ⟨_, ‹_›, rfl⟩
  · cases hk

theorem mk_beq (a b : List UInt8) : ((ByteArray.mk a.toArray) == (ByteArray.mk b.toArray)) = (a == b) := by
  have : ((ByteArray.mk a.toArray) == (ByteArray.mk b.toArray)) = (a.toArray == b.toArray) := rfl
  rw [this]
  simp

theorem same_rel {d : TypeDesc} {kd : Nat} {k x : AV} {ck cx : Value} {b : Bool} (hd : kdOf d = some kd) (hi : isKey kd k = true) (h1 : VRel S k ck) (h2 : VRel S x cx) (hk : keyEq k x = some b) :
    Instr.sameNow d ck cx = some b ∧ (b = true → cx = ck) := by
  unfold keyEq at hk
  split at hk
  · rename_i j a' k' b'
    split at hk
    · rename_i hjk
      simp only [beq_iff_eq] at hjk
      subst hjk
      cases hk
      simp only [VRel] at h1 h2
      subst h1 h2
      cases d <;> simp only [kdOf, Option.some.injEq, reduceCtorEq] at hd <;> subst hd <;> simp only [isKey, Bool.false_eq_true] at hi
      simp [Instr.sameNow]
      intro h; rw [h]
    · cases hk
  · cases hk
    simp only [VRel] at h1 h2
    subst h1 h2
    cases d <;> simp only [kdOf, Option.some.injEq, reduceCtorEq] at hd <;> subst hd <;> simp only [isKey, Bool.false_eq_true] at hi
    simp only [Instr.sameNow, mk_beq, true_and]
    intro h; rw [beq_iff_eq] at h; rw [h]
  · cases hk
    simp only [VRel] at h1 h2
    subst h1 h2
    cases d <;> simp only [kdOf, Option.some.injEq, reduceCtorEq] at hd <;> subst hd <;> simp only [isKey, Bool.false_eq_true] at hi
    simp [Instr.sameNow]
    intro h; rw [h]
  · cases hk

theorem find_rel {d : TypeDesc} {kd : Nat} {k : AV} {ck : Value} (hd : kdOf d = some kd) (hi : isKey kd k = true) (h1 : VRel S k ck) : ∀ {es : List (AV × AV × Nat)} {l : List MapEntry} {r : Option AV} (i : Nat), EntRel S es l → mfind k es = some r →
    (r = none ∧ Instr.findNow d ck l i = some none ∧ (∀ v c, mput k v c es = es ++ [(k, v, c)]) ∧ mdrop k es = es) ∨
    (∃ j m x v n, r = some v ∧ es[j]? = some (x, v, n) ∧ l[j]? = some m ∧ VRel S v m.val ∧ m.born = n ∧ m.key = ck ∧ Instr.findNow d ck l i = some (some (i + j, m.val)) ∧ (∀ u c, mput k u c es = es.set j (k, u, n)) ∧ mdrop k es = es.eraseIdx j)
  | [], l, r, i, hE, hf => by
    simp only [EntRel] at hE; subst hE
    simp only [mfind, Option.some.injEq] at hf
    exact .inl ⟨hf.symm, rfl, fun _ _ => rfl, rfl⟩
  | (x, v, n) :: es, l, r, i, hE, hf => by
    simp only [EntRel] at hE
    obtain ⟨m, ms, rfl, q1, q2, q3, hE⟩ := hE
    simp only [mfind] at hf
    split at hf
    · rename_i hk
      cases hf
      obtain ⟨s1, s2⟩ := same_rel hd hi h1 q1 hk
      refine .inr ⟨0, m, x, v, n, rfl, rfl, rfl, q2, q3, s2 rfl, by simp [Instr.findNow, s1], fun u c => by simp [mput, hk], by simp [mdrop, hk]⟩
    · rename_i hk
      obtain ⟨s1, s2⟩ := same_rel hd hi h1 q1 hk
      rcases find_rel hd hi h1 (i + 1) hE hf with ⟨r1, r2, r3, r4⟩ | ⟨j, m', x', v', n', r1, r2, r3, r4, r5, r6, r7, r8, r9⟩
      · exact .inl ⟨r1, by simp [Instr.findNow, s1, r2], fun u c => by simp [mput, hk, r3], by simp [mdrop, hk, r4]⟩
      · refine .inr ⟨j + 1, m', x', v', n', r1, by simpa using r2, by simpa using r3, r4, r5, r6, ?_, fun u c => by simp [mput, hk, r8], by simp [mdrop, hk, r9]⟩
        simp only [Instr.findNow, s1]
        rw [r7]
        congr 3
        omega
    · cases hf

theorem run_findKey {kt : TypeId} {d : TypeDesc} {ck : Value} {l : List MapEntry} {r : Option (Nat × Value)} (hu : P.underlying kt = some d) (hf : Instr.findNow d ck l 0 = some r) : (Instr.findKey kt ck l).run P w = .ok r w := by
  simp only [Instr.findKey, Sem.run_bind, run_underlying hu, Result.andThen_ok, hf, Sem.run_pure]
theorem run_checkKey {b : Bool} {kt : TypeId} {d : TypeDesc} {kd : Nat} {ck : Value} (hu : P.underlying kt = some d) (hd : kdOf d = some kd) : (Instr.checkKey b 10000 kt ck).run P w = .ok () w := by
  have key : ∀ n, (Instr.checkKey b (n + 1) kt ck).run P w = .ok () w := fun n => by
    simp only [Instr.checkKey, Sem.run_bind, run_underlying hu, Result.andThen_ok]
    cases d <;> simp only [kdOf, reduceCtorEq] at hd <;> rfl
  exact key 9999

theorem run_zero {t : TypeId} {i : TypeInfo} {v : Value} (hi : P.info? t = some i) (hz : i.zero = some v) : (zeroValue t).run P w = .ok v w := by
  simp [zeroValue, typeInfo, hi, hz]

theorem map_obj {r : Nat} {es : List (AV × AV × Nat)} {clk : Nat} {c : Value} (hw : WRel G S h w) (hg : h.get r = some (.map es clk)) (hv : VRel S (.mp r) c) : ∃ b base lim ces, S.ρ r = .live b base lim ∧ c = .map (some b) ∧ w.heap[b]? = some (.map ces clk) ∧ EntRel S es ces.toList ∧
    (es.map (·.2.2)).Pairwise (· < ·) ∧ ∀ x ∈ es, x.2.2 < clk := by
  obtain ⟨b, base, lim, hr, ces, h1, h2, h3, h4⟩ := hw.obj r _ hg
  simp only [VRel, hr] at hv
  exact ⟨b, base, lim, ces, hr, hv, h1, h2, h3, h4⟩

theorem run_getMap {b : Nat} {ces : Array MapEntry} {clk : Nat} (hb : w.heap[b]? = some (.map ces clk)) : (getObj b).run P w = .ok (.map ces clk) w := by
  simp only [getObj, Sem.run, hb]

theorem snd_lookup {o : Oper} {t kt el : TypeId} {ok : Bool} {m k : Operand} {om ok' : Opd} {kd : Nat} {z kv mv v : AV} (hop : o.op = .lookup t m k ok) (hm : opd G A m = some om) (hk : opd G A k = some ok') (ht : P.underlying t = some (.map kt el)) (hz : zeroOf P el = some z) (hkd : kindOf P kt = some kd)
    (he : ERel A S e a w) (hw : WRel G S h w) (hmv : val e om = some mv) (hkv : val e ok' = some kv) (hik : isKey kd kv = true)
    (hr : (mv = .nilm ∧ v = (if ok then .tup [z, .bool false] else z)) ∨ (∃ r es clk q, mv = .mp r ∧ h.get r = some (.map es clk) ∧ mfind kv es = some q ∧ v = (match q with | some u => if ok then .tup [u, .bool true] else u | none => if ok then .tup [z, .bool false] else z))) :
    Pure P S w v (execOp a.eval o) := by
  have c1 := opd_rel hm he hw hmv
  have c2 := opd_rel hk he hw hkv
  obtain ⟨d, hd, hkd'⟩ := kindOf_desc hkd
  obtain ⟨iz, vz, hi, hz1, hzr⟩ := zero_rel hz
  have e1 : execOp a.eval o = (do pure (Next.value (← Instr.lookup t (a.eval m) (a.eval k) ok)) : Sem Next) := by simp only [execOp, hop]
  rw [Pure, e1]
  have fin : ∀ (u : AV) (cu : Value) (bb : Bool), VRel S u cu → VRel S (if ok then .tup [u, .bool bb] else u) (if ok then .tuple #[cu, .bool bb] else cu) := fun u cu bb hu => by
    cases ok
    · simpa using hu
    · simp only [if_true, VRel]
      exact ⟨[cu, .bool bb], rfl, (VRelL.nil.cons (by simp only [VRel])).cons hu⟩
  rcases hr with ⟨rfl, rfl⟩ | ⟨r, es, clk, q, rfl, hg, hf, rfl⟩
  · simp only [VRel] at c1
    rw [c1]
    refine ⟨if ok then .tuple #[vz, .bool false] else vz, run_v ?_, fin z vz false (hzr S)⟩
    simp only [Instr.lookup, Sem.run_bind, run_underlying ht, Result.andThen_ok, Sem.run_pure, run_checkKey hd hkd', run_findKey (l := []) hd (show Instr.findNow d (a.eval k) [] 0 = some none from rfl), run_zero hi hz1]
  · obtain ⟨b, base, lim, ces, hr, hc, hb, hE, _, _⟩ := map_obj hw hg c1
    rw [hc]
    rcases find_rel hkd' hik c2 0 hE hf with ⟨rfl, f2, _, _⟩ | ⟨j, me, x, v', n, rfl, f2, f3, f4, f5, f6, f7, _, _⟩
    · refine ⟨if ok then .tuple #[vz, .bool false] else vz, run_v ?_, fin z vz false (hzr S)⟩
      simp only [Instr.lookup, Sem.run_bind, run_underlying ht, Result.andThen_ok, Sem.run_pure, run_getMap hb, run_checkKey hd hkd', run_findKey hd f2, run_zero hi hz1]
    · refine ⟨if ok then .tuple #[me.val, .bool true] else me.val, run_v ?_, fin v' me.val true f4⟩
      simp only [Instr.lookup, Sem.run_bind, run_underlying ht, Result.andThen_ok, Sem.run_pure, run_getMap hb, run_checkKey hd hkd', run_findKey hd f7]

theorem snd_lenM {o : Oper} {x : Operand} {ox : Opd} {v : AV} {n : Nat} {t kt el : TypeId} {c : Call} (hop : o.op = .call c) (hcc : c.callee = .builtin .len) (hca : c.args.toList = [x]) (hct : c.argTypes.toList = [t])
    (ht : P.underlying t = some (.map kt el)) (ho : opd G A x = some ox) (he : ERel A S e a w) (hw : WRel G S h w) (hv : val e ox = some v) (hn : (v = .nilm ∧ n = 0) ∨ ∃ r es clk, v = .mp r ∧ h.get r = some (.map es clk) ∧ n = es.length) :
    Pure P S w (.int .i64 n) (execOp a.eval o) := by
  have h1 := opd_rel ho he hw hv
  refine ⟨.int .i64 n, ?_, by simp only [VRel]⟩
  rw [run_builtin hop hcc]
  have e1 : c.args = #[x] := by rw [← Array.toList_inj]; exact hca
  have e2 : c.argTypes = #[t] := by rw [← Array.toList_inj]; exact hct
  refine run_v ?_
  rcases hn with ⟨rfl, rfl⟩ | ⟨r, es, clk, rfl, hg, rfl⟩
  · simp only [VRel] at h1
    simp only [e1, e2, List.map_toArray, List.map_cons, List.map_nil, Builtin.len_, h1]
    simp [run_underlying ht, goInt]
  · obtain ⟨b, base, lim, ces, hr, hc, hb, hE, _, _⟩ := map_obj hw hg h1
    have hl := hE.len
    simp only [e1, e2, List.map_toArray, List.map_cons, List.map_nil, Builtin.len_, hc]
    simp only [Array.length_toList] at hl
    simp [run_underlying ht, goInt, run_getMap hb, hl]

end
end Go.AM

set_option linter.unusedVariables false
set_option linter.unusedSimpArgs false
namespace Go.AM
open Go
section
variable {P : Program} {G : GTab} {A : Ann} {S S' : Sim} {e : Env} {h h' : Heap} {a : Act} {w w' : World}

def World.putObj (w : World) (b : Nat) (o : Obj) : World := { w with heap := w.heap.setIfInBounds b o }

theorem putObj_same {b : Nat} {o o' : Obj} (hb : w.heap[b]? = some o) : (World.putObj w b o').heap[b]? = some o' := by
  have := (Array.getElem?_eq_some_iff.1 hb).1
  simp [World.putObj, this]
theorem putObj_else {b k : Nat} {o' : Obj} (h : k ≠ b) : (World.putObj w b o').heap[k]? = w.heap[k]? := by
  simp only [World.putObj]
  rw [Array.getElem?_setIfInBounds_ne (fun e => h e.symm)]
theorem putObj_size {b : Nat} {o' : Obj} : (World.putObj w b o').heap.size = w.heap.size := by simp [World.putObj]
theorem run_setMap {b : Nat} {ces : Array MapEntry} {clk : Nat} {o' : Obj} (hb : w.heap[b]? = some (.map ces clk)) : (setObj b o').run P w = .ok () (World.putObj w b o') := by
  simp only [setObj, Sem.run, hb, World.putObj]

/-- a map is written -/
theorem upd_map (hw : WRel G S h w) {r b base lim : Nat} {es es' : List (AV × AV × Nat)} {clk clk' : Nat} {ces ces' : Array MapEntry} (hr : S.ρ r = .live b base lim) (hg : h.get r = some (.map es clk)) (hb : w.heap[b]? = some (.map ces clk))
    (hE : EntRel S es' ces'.toList) (hp : (es'.map (·.2.2)).Pairwise (· < ·)) (hc : ∀ x ∈ es', x.2.2 < clk') :
    Ext S w S (World.putObj w b (.map ces' clk')) ∧ WRel G S (h.set r (.map es' clk')) (World.putObj w b (.map ces' clk')) :=
  upd_obj hw hr hg putObj_size (fun k hk => putObj_else hk) rfl rfl rfl ⟨b, base, lim, hr, ces', putObj_same hb, hE, hp, hc⟩

theorem undef_rel {S : Sim} : VRel S (.tup []) undef := by simp only [VRel]; exact ⟨[], rfl, VRelL.nil⟩

theorem sameBits_key {kd : Nat} {k : AV} {c : Value} (hi : isKey kd k = true) (h : VRel S k c) : Instr.sameBits 10000 c c = true := by
  unfold isKey at hi
  split at hi
  · simp only [VRel] at h; subst h; simp [Instr.sameBits]
  · simp only [VRel] at h; subst h; simp only [Instr.sameBits, mk_beq, beq_self_eq_true]
  · simp only [VRel] at h; subst h; simp [Instr.sameBits]
  · cases hi

theorem map_born_set {es : List (AV × AV × Nat)} {j n : Nat} {x v k u : AV} (hj : es[j]? = some (x, v, n)) : (es.set j (k, u, n)).map (·.2.2) = es.map (·.2.2) := by
  apply List.ext_getElem?
  intro i
  simp only [List.getElem?_map, List.getElem?_set]
  by_cases h : j = i
  · subst h
    rw [if_pos rfl, hj]
    split
    · rfl
    · have := (List.getElem?_eq_some_iff.1 hj).1; omega
  · rw [if_neg h]

theorem snd_mupd {o : Oper} {t kt el : TypeId} {m k x : Operand} {om ok' ox : Opd} {kd : Nat} {kv vv : AV} {r clk : Nat} {es : List (AV × AV × Nat)} {q : Option AV} (hop : o.op = .mapUpdate t m k x ∨ o.op = .insert t m k x) (hm : opd G A m = some om) (hk : opd G A k = some ok') (hx : opd G A x = some ox)
    (ht : P.underlying t = some (.map kt el)) (hkd : kindOf P kt = some kd) (he : ERel A S e a w) (hw : WRel G S h w) (hmv : val e om = some (.mp r)) (hkv : val e ok' = some kv) (hxv : val e ox = some vv) (hik : isKey kd kv = true)
    (hg : h.get r = some (.map es clk)) (hf : mfind kv es = some q) : Out P G S w (h.set r (.map (mput kv vv clk es) (match q with | some _ => clk | none => clk + 1))) (.tup []) (execOp a.eval o) := by
  have c1 := opd_rel hm he hw hmv
  have c2 := opd_rel hk he hw hkv
  have c3 := opd_rel hx he hw hxv
  obtain ⟨d, hd, hkd'⟩ := kindOf_desc hkd
  obtain ⟨b, base, lim, ces, hr, hc, hb, hE, hp, hclk⟩ := map_obj hw hg c1
  have e1 : execOp a.eval o = (do Instr.mapUpdate t (a.eval m) (a.eval k) (a.eval x); pure Next.skip : Sem Next) := by
    rcases hop with hop | hop <;> simp only [execOp, hop]
  have hlen := hE.len
  have fin : ∀ (ces' : Array MapEntry) (clk' : Nat), (Instr.mapUpdate t (.map (some b)) (a.eval k) (a.eval x)).run P w = .ok () (World.putObj w b (.map ces' clk')) → EntRel S (mput kv vv clk es) ces'.toList → ((mput kv vv clk es).map (·.2.2)).Pairwise (· < ·) → (∀ x ∈ mput kv vv clk es, x.2.2 < clk') →
      Out P G S w (h.set r (.map (mput kv vv clk es) clk')) (.tup []) (execOp a.eval o) := fun ces' clk' hrun h1 h2 h3 => by
    obtain ⟨x1, x2⟩ := upd_map hw hr hg hb h1 h2 h3
    refine ⟨undef, _, S, .inr ⟨?_, rfl⟩, x1, x2, undef_rel⟩
    rw [e1, hc]
    simp only [Sem.run_bind, hrun, Result.andThen_ok, Sem.run_pure]
  rcases find_rel hkd' hik c2 0 hE hf with ⟨rfl, f2, f3, _⟩ | ⟨j, me, x', v', n, rfl, f2, f3, f4, f5, f6, f7, f8, _⟩
  · refine fin (ces.push { key := a.eval k, val := a.eval x, born := clk }) (clk + 1) ?_ ?_ ?_ ?_
    · simp only [Instr.mapUpdate, Sem.run_bind, run_underlying ht, Result.andThen_ok, run_getMap hb, run_checkKey hd hkd', run_findKey hd f2, run_setMap hb]
    · rw [f3]
      refine .of (by simp [hlen]) fun i y m' hy hm' => ?_
      rw [Array.toList_push] at hm'
      by_cases hi : i < es.length
      · rw [List.getElem?_append_left hi] at hy
        rw [List.getElem?_append_left (by omega)] at hm'
        obtain ⟨m'', q1, q2⟩ := hE.get i y hy
        rw [hm'] at q1; cases q1
        exact q2
      · rw [List.getElem?_append_right (by omega)] at hy
        rw [List.getElem?_append_right (by omega)] at hm'
        rw [hlen] at hm'
        cases hii : i - es.length with
        | zero =>
          rw [hii] at hy hm'
          simp at hy hm'
          subst hy hm'
          exact ⟨c2, c3, rfl⟩
        | succ z => rw [hii] at hy; simp at hy
    · rw [f3, List.map_append, List.pairwise_append]
      refine ⟨hp, by simp, fun y hy z hz => ?_⟩
      simp only [List.mem_map] at hy
      obtain ⟨y', hy', rfl⟩ := hy
      simp at hz
      subst hz
      exact hclk y' hy'
    · rw [f3]
      intro y hy
      rcases List.mem_append.1 hy with hy | hy
      · have := hclk y hy; omega
      · simp at hy; subst hy; simp
  · refine fin (ces.modify j fun en => { en with key := a.eval k, val := a.eval x }) clk ?_ ?_ ?_ ?_
    · have hj : ces[j]? = some me := by simpa using f3
      simp only [Instr.mapUpdate, Sem.run_bind, run_underlying ht, Result.andThen_ok, run_getMap hb, run_checkKey hd hkd', run_findKey hd f7, Nat.zero_add, hj, Option.map_some, Option.getD_some, f6, Instr.keyThatStays, sameBits_key hik c2, if_true, Sem.run_pure, run_setMap hb]
    · rw [f8]
      refine .of (by simp [hlen]) fun i y m' hy hm' => ?_
      have hm2 : (ces.modify j fun en => { en with key := a.eval k, val := a.eval x })[i]? = some m' := by rw [← Array.getElem?_toList]; exact hm'
      rw [Array.getElem?_modify] at hm2
      rw [List.getElem?_set] at hy
      by_cases hij : j = i
      · subst hij
        have hj : ces[j]? = some me := by simpa using f3
        rw [if_pos rfl] at hy hm2
        rw [hj] at hm2
        split at hy
        · cases hy
          simp only [Option.map_some, Option.some.injEq] at hm2
          subst hm2
          exact ⟨c2, c3, f5⟩
        · cases hy
      · rw [if_neg hij] at hy hm2
        obtain ⟨m'', q1, q2⟩ := hE.get i y hy
        have : ces.toList[i]? = some m' := by simpa using hm2
        rw [this] at q1; cases q1
        exact q2
    · rw [f8, map_born_set f2]; exact hp
    · rw [f8]
      intro y hy
      rcases List.mem_or_eq_of_mem_set hy with hy | rfl
      · exact hclk y hy
      · exact hclk (x', v', n) (List.mem_of_getElem? f2)

theorem snd_mdel {o : Oper} {t kt el : TypeId} {m k : Operand} {om ok' : Opd} {kd : Nat} {kv mv : AV} {c : Call} {ts : List TypeId} {h2 : Heap} (hop : o.op = .call c) (hcc : c.callee = .builtin .delete) (hca : c.args.toList = [m, k]) (hct : c.argTypes.toList = t :: ts) (hm : opd G A m = some om) (hk : opd G A k = some ok')
    (ht : P.underlying t = some (.map kt el)) (hkd : kindOf P kt = some kd) (he : ERel A S e a w) (hw : WRel G S h w) (hmv : val e om = some mv) (hkv : val e ok' = some kv) (hik : isKey kd kv = true)
    (hr : (mv = .nilm ∧ h2 = h) ∨ ∃ r es clk q, mv = .mp r ∧ h.get r = some (.map es clk) ∧ mfind kv es = some q ∧ h2 = h.set r (.map (mdrop kv es) clk)) : Out P G S w h2 (.tup []) (execOp a.eval o) := by
  have c1 := opd_rel hm he hw hmv
  have c2 := opd_rel hk he hw hkv
  obtain ⟨d, hd, hkd'⟩ := kindOf_desc hkd
  have e1 : c.args = #[m, k] := by rw [← Array.toList_inj]; exact hca
  have e2 : c.argTypes[0]? = some t := by
    have := congrArg (fun l => l[0]?) hct
    simpa using this
  have e3 : ∀ w', (Builtin.delete_ c.argTypes o.type #[a.eval m, a.eval k]).run P w = .ok (.tuple #[]) w' → (execOp a.eval o).run P w = .ok (.value (.tuple #[])) w' := fun w' hrun => by
    rw [run_builtin hop hcc]
    refine run_v ?_
    rw [e1]
    simpa using hrun
  rcases hr with ⟨rfl, rfl⟩ | ⟨r, es, clk, q, rfl, hg, hf, rfl⟩
  · simp only [VRel] at c1
    refine ⟨.tuple #[], w, S, .inl (e3 w ?_), .refl S w, hw, undef_rel⟩
    rw [c1]
    have e2' : (c.argTypes[0]? : Option TypeId) = some t := e2
    simp only [Builtin.delete_, e2']
    simp only [List.getElem?_toArray, List.getElem?_cons_zero, List.getElem?_cons_succ, Sem.run_bind, run_underlying ht, Result.andThen_ok, run_checkKey hd hkd', Sem.run_pure]
  · obtain ⟨b, base, lim, ces, hr, hc, hb, hE, hp, hclk⟩ := map_obj hw hg c1
    have hlen := hE.len
    have fin : ∀ (ces' : Array MapEntry), (Builtin.delete_ c.argTypes o.type #[a.eval m, a.eval k]).run P w = .ok (.tuple #[]) (World.putObj w b (.map ces' clk)) → EntRel S (mdrop kv es) ces'.toList → ((mdrop kv es).map (·.2.2)).Pairwise (· < ·) → (∀ x ∈ mdrop kv es, x.2.2 < clk) →
        Out P G S w (h.set r (.map (mdrop kv es) clk)) (.tup []) (execOp a.eval o) := fun ces' hrun h1 h2 h3 => by
      obtain ⟨x1, x2⟩ := upd_map hw hr hg hb h1 h2 h3
      exact ⟨.tuple #[], _, S, .inl (e3 _ hrun), x1, x2, undef_rel⟩
    rcases find_rel hkd' hik c2 0 hE hf with ⟨rfl, f2, _, f3⟩ | ⟨j, me, x', v', n, rfl, f2, f3, f4, f5, f6, f7, _, f8⟩
    · refine fin ces ?_ (by rw [f3]; exact hE) (by rw [f3]; exact hp) (by rw [f3]; exact hclk)
      rw [hc]
      simp only [Builtin.delete_, e2]
      simp only [List.getElem?_toArray, List.getElem?_cons_zero, List.getElem?_cons_succ, Sem.run_bind, run_underlying ht, Result.andThen_ok, run_getMap hb, run_checkKey hd hkd', run_findKey hd f2, run_setMap hb, Sem.run_pure]
    · refine fin (ces.eraseIdxIfInBounds j) ?_ ?_ ?_ ?_
      · rw [hc]
        simp only [Builtin.delete_, e2]
        simp only [List.getElem?_toArray, List.getElem?_cons_zero, List.getElem?_cons_succ, Sem.run_bind, run_underlying ht, Result.andThen_ok, run_getMap hb, run_checkKey hd hkd', run_findKey hd f7, Nat.zero_add, run_setMap hb, Sem.run_pure]
      · have hj := (List.getElem?_eq_some_iff.1 f2).1
        have hjc : j < ces.size := by rw [← Array.length_toList, hlen]; exact hj
        have hl : (ces.eraseIdxIfInBounds j).toList = ces.toList.eraseIdx j := by
          simp [Array.eraseIdxIfInBounds, hjc]
        rw [f8, hl]
        refine .of (by rw [List.length_eraseIdx, List.length_eraseIdx, hlen]) fun i y m' hy hm' => ?_
        rw [List.getElem?_eraseIdx] at hy hm'
        split at hy
        · rename_i hij
          rw [if_pos hij] at hm'
          obtain ⟨m'', q1, q2⟩ := hE.get i y hy
          rw [hm'] at q1; cases q1
          exact q2
        · rename_i hij
          rw [if_neg hij] at hm'
          obtain ⟨m'', q1, q2⟩ := hE.get (i + 1) y hy
          rw [hm'] at q1; cases q1
          exact q2
      · rw [f8]
        exact hp.sublist ((List.eraseIdx_sublist es j).map _)
      · rw [f8]
        intro y hy
        exact hclk y (List.mem_of_mem_eraseIdx hy)

theorem snd_mclear {o : Oper} {t kt el : TypeId} {m : Operand} {om : Opd} {mv : AV} {c : Call} {h2 : Heap} (hop : o.op = .call c) (hcc : c.callee = .builtin .clear) (hca : c.args.toList = [m]) (hct : c.argTypes.toList = [t]) (hm : opd G A m = some om)
    (ht : P.underlying t = some (.map kt el)) (he : ERel A S e a w) (hw : WRel G S h w) (hmv : val e om = some mv)
    (hr : (mv = .nilm ∧ h2 = h) ∨ ∃ r es clk, mv = .mp r ∧ h.get r = some (.map es clk) ∧ h2 = h.set r (.map [] clk)) : Out P G S w h2 (.tup []) (execOp a.eval o) := by
  have c1 := opd_rel hm he hw hmv
  have e1 : c.args = #[m] := by rw [← Array.toList_inj]; exact hca
  have e2 : c.argTypes = #[t] := by rw [← Array.toList_inj]; exact hct
  have e3 : ∀ w', (Builtin.clear_ #[t] o.type #[a.eval m]).run P w = .ok (.tuple #[]) w' → (execOp a.eval o).run P w = .ok (.value (.tuple #[])) w' := fun w' hrun => by
    rw [run_builtin hop hcc]
    refine run_v ?_
    rw [e1, e2]
    simpa using hrun
  rcases hr with ⟨rfl, rfl⟩ | ⟨r, es, clk, rfl, hg, rfl⟩
  · simp only [VRel] at c1
    refine ⟨.tuple #[], w, S, .inl (e3 w ?_), .refl S w, hw, undef_rel⟩
    rw [c1]
    simp [Builtin.clear_, run_underlying ht]
  · obtain ⟨b, base, lim, ces, hr, hc, hb, hE, hp, hclk⟩ := map_obj hw hg c1
    obtain ⟨x1, x2⟩ := upd_map hw hr hg hb (es' := []) (ces' := #[]) (clk' := clk) (by simp only [EntRel]) (by simp) (by simp)
    refine ⟨.tuple #[], _, S, .inl (e3 _ ?_), x1, x2, undef_rel⟩
    rw [hc]
    simp [Builtin.clear_, run_underlying ht, run_getMap hb, run_setMap hb]

end
end Go.AM

set_option linter.unusedVariables false
set_option linter.unusedSimpArgs false
namespace Go.AM
open Go
section
variable {P : Program} {G : GTab} {A : Ann} {S S' : Sim} {e : Env} {h h' : Heap} {a : Act} {w w' : World}

theorem new_it (hw : WRel G S h w) {ob : Obj} {x : AObj} (e : w'.heap = w.heap.push ob) (eo : w'.os = w.os) (et : w'.tape = w.tape) (eu : w'.output = w.output)
    (hx : ∀ S', S'.ρ h.next = .live w.heap.size 0 0 → (∀ m b x y, S.ρ m = .live b x y → S'.ρ m = .live b x y) → ObjRel S' w' h.next x) :
    ∃ S', Ext S w S' w' ∧ WRel G S' (h.new x) w' ∧ VRel S' (.ptr h.next 0) (.pointer (some ⟨w.heap.size, 0, none⟩)) := by
  obtain ⟨x1, x2⟩ := new_obj (lim := 0) hw e eo et eu (x := x) (fun S' _ hr hk => hx S' hr hk)
  exact ⟨_, x1, x2, by simp only [VRel, Sim.addR, if_pos]⟩

theorem snd_rngS {o : Oper} {t : TypeId} {x : Operand} {ox : Opd} {s : List UInt8} (hop : o.op = .range t x) (ht : P.underlying t = some .string) (hx : opd G A x = some ox) (he : ERel A S e a w) (hw : WRel G S h w) (hv : val e ox = some (.str s)) :
    Out P G S w (h.new (.sit s 0)) (.ptr h.next 0) (execOp a.eval o) := by
  have c1 := opd_rel hx he hw hv
  simp only [VRel] at c1
  obtain ⟨S', x1, x2, x3⟩ := new_it (w' := w.alloc (.stringIter ⟨s.toArray⟩ 0)) (x := .sit s 0) hw rfl rfl rfl rfl (fun S' hr _ => ⟨_, _, hr, cell_new rfl⟩)
  refine ⟨_, _, S', .inl ?_, x1, x2, x3⟩
  simp only [execOp, hop, c1]
  refine run_v ?_
  simp [Instr.range, run_underlying ht]

theorem snd_rngM {o : Oper} {t kt el : TypeId} {x : Operand} {ox : Opd} {v : AV} {ob : AObj} (hop : o.op = .range t x) (ht : P.underlying t = some (.map kt el)) (hx : opd G A x = some ox) (he : ERel A S e a w) (hw : WRel G S h w) (hv : val e ox = some v)
    (hr : (v = .nilm ∧ ob = .mit none [] 0 [] none) ∨ ∃ r es c, v = .mp r ∧ h.get r = some (.map es c) ∧ ob = .mit (some r) es c es none) :
    Out P G S w (h.new ob) (.ptr h.next 0) (execOp a.eval o) := by
  have c1 := opd_rel hx he hw hv
  rcases hr with ⟨rfl, rfl⟩ | ⟨r, es, c, rfl, hg, rfl⟩
  · simp only [VRel] at c1
    obtain ⟨S', x1, x2, x3⟩ := new_it (w' := w.alloc (.mapIter none 0 #[] 0)) (x := .mit none [] 0 [] none) hw rfl rfl rfl rfl (fun S' hr _ => ⟨_, _, hr, _, _, _, cell_new rfl⟩)
    refine ⟨_, _, S', .inl ?_, x1, x2, x3⟩
    simp only [execOp, hop, c1]
    refine run_v ?_
    simp [Instr.range, run_underlying ht]
  · obtain ⟨b, base, lim, ces, hr, hc, hb, hE, hp, hclk⟩ := map_obj hw hg c1
    obtain ⟨S', x1, x2, x3⟩ := new_it (w' := w.alloc (.mapIter (some b) c #[] c)) (x := .mit (some r) es c es none) hw rfl rfl rfl rfl (fun S' hr' hk => ⟨_, _, hr', b, .inr ⟨base, lim, hk r b base lim hr⟩, #[], cell_new rfl, (List.filter_eq_self.2 (by simp)).symm, by simp⟩)
    refine ⟨_, _, S', .inl ?_, x1, x2, x3⟩
    simp only [execOp, hop, hc]
    refine run_v ?_
    simp [Instr.range, run_underlying ht, run_getMap hb]

theorem run_getSit {b : Nat} {s : ByteArray} {p : Nat} (hb : w.heap[b]? = some (.stringIter s p)) : (getObj b).run P w = .ok (.stringIter s p) w := by
  simp only [getObj, Sem.run, hb]
theorem run_getMit {b : Nat} {m : Option Nat} {x y : Nat} {z : Array Nat} (hb : w.heap[b]? = some (.mapIter m x z y)) : (getObj b).run P w = .ok (.mapIter m x z y) w := by
  simp only [getObj, Sem.run, hb]
theorem run_setSit {b : Nat} {s : ByteArray} {p : Nat} {o' : Obj} (hb : w.heap[b]? = some (.stringIter s p)) : (setObj b o').run P w = .ok () (World.putObj w b o') := by
  simp only [setObj, Sem.run, hb, World.putObj]
theorem run_setMit {b : Nat} {m : Option Nat} {x y : Nat} {z : Array Nat} {o' : Obj} (hb : w.heap[b]? = some (.mapIter m x z y)) : (setObj b o').run P w = .ok () (World.putObj w b o') := by
  simp only [setObj, Sem.run, hb, World.putObj]

theorem snd_nextS {o : Oper} {it : Operand} {oi : Opd} {r p : Nat} {s : List UInt8} {v : AV} {h2 : Heap} (hop : o.op = .next it true) (hi : opd G A it = some oi) (he : ERel A S e a w) (hw : WRel G S h w) (hv : val e oi = some (.ptr r 0)) (hg : h.get r = some (.sit s p))
    (hr : (∃ b, s[p]? = some b ∧ b < 128 ∧ v = .tup [.bool true, .int .i64 p, .int .i32 b.toNat] ∧ h2 = h.set r (.sit s (p + 1))) ∨ (s[p]? = none ∧ v = .tup [.bool false] ∧ h2 = h)) : Out P G S w h2 v (execOp a.eval o) := by
  have c1 := opd_rel hi he hw hv
  obtain ⟨b, lim, hρ, hb⟩ := hw.obj r _ hg
  simp only [VRel, hρ, Nat.add_zero] at c1
  have e1 : execOp a.eval o = (do pure (Next.value (← Instr.next (a.eval it) true o.type)) : Sem Next) := by simp only [execOp, hop]
  have e2 : (ByteArray.mk s.toArray).size = s.length := by simp [ByteArray.size]
  rcases hr with ⟨c, hc, hlt, rfl, rfl⟩ | ⟨hc, rfl, rfl⟩
  · obtain ⟨hp, hcp⟩ := List.getElem?_eq_some_iff.1 hc
    have hd := Go.decode_ascii (ByteArray.mk s.toArray) p (by rw [e2]; exact hp) (by
      show (s[p]).toNat < 128
      rw [hcp]; exact hlt)
    obtain ⟨x1, x2⟩ := upd_obj (w' := World.putObj w b (.stringIter ⟨s.toArray⟩ (p + 1))) (x' := .sit s (p + 1)) hw hρ hg putObj_size (fun k hk => putObj_else hk) rfl rfl rfl ⟨b, lim, hρ, putObj_same hb⟩
    refine ⟨.tuple #[.bool true, .int .i64 p, .int .i32 c.toNat], _, S, .inl ?_, x1, x2, ?_⟩
    · rw [e1, c1]
      refine run_v ?_
      have hd2 : Utf8.decode ⟨s.toArray⟩ p = (c.toNat, 1) := by
        rw [hd]
        show ((s[p]).toNat, 1) = (c.toNat, 1)
        rw [hcp]
      simp only [Instr.next, Sem.run_bind, run_getSit hb, Result.andThen_ok, e2, hp, if_true, hd2, run_setSit hb, Sem.run_pure, goInt]
    · simp only [VRel]
      exact ⟨[_, _, _], rfl, ((VRelL.nil.cons (by simp only [VRel])).cons (by simp only [VRel])).cons (by simp only [VRel])⟩
  · refine ⟨.tuple #[.bool false], w, S, .inl ?_, .refl S w, hw, ?_⟩
    · rw [e1, c1]
      refine run_v ?_
      have : ¬ p < s.length := fun k => by rw [List.getElem?_eq_getElem k] at hc; cases hc
      simp only [Instr.next, Sem.run_bind, run_getSit hb, Result.andThen_ok, e2, this, if_false, Sem.run_pure]
    · simp only [VRel]
      exact ⟨[_], rfl, VRelL.nil.cons (by simp only [VRel])⟩

theorem pairwise_uniq {es : List (AV × AV × Nat)} (hp : (es.map (·.2.2)).Pairwise (· < ·)) {i j : Nat} {x y : AV × AV × Nat} (hi : es[i]? = some x) (hj : es[j]? = some y) (h : x.2.2 = y.2.2) : i = j := by
  rw [List.pairwise_iff_getElem] at hp
  obtain ⟨h1, h2⟩ := List.getElem?_eq_some_iff.1 hi
  obtain ⟨h3, h4⟩ := List.getElem?_eq_some_iff.1 hj
  rcases Nat.lt_trichotomy i j with k | k | k
  · have := hp i j (by simpa using h1) (by simpa using h3) k
    simp [h2, h4] at this; omega
  · exact k
  · have := hp j i (by simpa using h3) (by simpa using h1) k
    simp [h2, h4] at this; omega

theorem snd_entry {o : Oper} {it : Operand} {oi : Opd} {r m c : Nat} {es left : List (AV × AV × Nat)} {u : AV} (hop : o.op = .entry it) (hi : opd G A it = some oi) (he : ERel A S e a w) (hw : WRel G S h w) (hv : val e oi = some (.ptr r 0)) (hg : h.get r = some (.mit (some m) es c left (some u)))
    (hm : h.get m = some (.map es c)) : Pure P S w u (execOp a.eval o) := by
  have c1 := opd_rel hi he hw hv
  obtain ⟨b, lim, hρ, mb, hρm, seen, hb, hleft, hcur⟩ := hw.obj r _ hg
  obtain ⟨k, v, n, rfl, hmem, hback⟩ := hcur u rfl
  obtain ⟨b', base, lim', hρm', ces, hmb, hE, hp, hclk⟩ := hw.obj m _ hm
  have hmb' : b' = mb := by
    rcases hρm with k | ⟨x, y, k⟩ <;> rw [hρm'] at k <;> cases k <;> rfl
  subst hmb'
  simp only [VRel, hρ, Nat.add_zero] at c1
  obtain ⟨j, hj⟩ := List.mem_iff_getElem?.1 hmem
  obtain ⟨me, hme, q1, q2, q3⟩ := hE.get j _ hj
  have hfind : ces.find? (fun en => en.born == n) = some me := by
    rw [← Array.find?_toList]
    rw [List.find?_eq_some_iff_getElem]
    refine ⟨by simp [q3], j, (List.getElem?_eq_some_iff.1 hme).1, (List.getElem?_eq_some_iff.1 hme).2, fun i hij => ?_⟩
    have hlen := hE.len
    have hi2 : i < es.length := by have := (List.getElem?_eq_some_iff.1 hj).1; omega
    obtain ⟨mi, g1, g2, g3, g4⟩ := hE.get i es[i] (by simp [hi2])
    have g5 := (List.getElem?_eq_some_iff.1 g1).2
    simp only [g5, g4, Bool.not_eq_true, Bool.not_eq_eq_eq_not, Bool.not_true, beq_eq_false_iff_ne, ne_eq]
    intro heq
    have := pairwise_uniq hp (i := i) (j := j) (x := es[i]) (by simp [hi2]) hj heq
    omega
  refine ⟨.tuple #[me.key, me.val], ?_, ?_⟩
  · simp only [execOp, hop, c1]
    refine run_v ?_
    simp only [Instr.entry, Sem.run_bind, run_getMit hb, Result.andThen_ok, hback, run_getMap hmb, bne_self_eq_false, Bool.false_eq_true, if_false, hfind, Sem.run_pure]
  · simp only [VRel]
    exact ⟨[_, _], rfl, (VRelL.nil.cons q2).cons q1⟩

theorem snd_nextN {o : Oper} {it : Operand} {oi : Opd} {r c : Nat} {es left : List (AV × AV × Nat)} {cur : Option AV} (hop : o.op = .next it false) (hi : opd G A it = some oi) (he : ERel A S e a w) (hw : WRel G S h w) (hv : val e oi = some (.ptr r 0)) (hg : h.get r = some (.mit none es c left cur)) :
    Pure P S w (.tup [.bool false]) (execOp a.eval o) := by
  have c1 := opd_rel hi he hw hv
  obtain ⟨b, lim, hρ, x, y, z, hb⟩ := hw.obj r _ hg
  simp only [VRel, hρ, Nat.add_zero] at c1
  refine ⟨.tuple #[.bool false], ?_, ?_⟩
  · simp only [execOp, hop, c1]
    refine run_v ?_
    simp only [Instr.next, Sem.run_bind, run_getMit hb, Result.andThen_ok, Sem.run_pure]
  · simp only [VRel]
    exact ⟨[_], rfl, VRelL.nil.cons (by simp only [VRel])⟩

theorem filter_split {α : Type} {p : α → Bool} : ∀ {l a b : List α} {x : α}, l.filter p = a ++ x :: b → ∃ l1 l2, l = l1 ++ x :: l2 ∧ l1.filter p = a ∧ l2.filter p = b
  | [], a, b, x, h => by simp at h
  | y :: l, a, b, x, h => by
    rw [List.filter_cons] at h
    split at h
    · rename_i hy
      cases a with
      | nil =>
        simp only [List.nil_append, List.cons.injEq] at h
        obtain ⟨rfl, h⟩ := h
        exact ⟨[], l, rfl, rfl, h⟩
      | cons z a =>
        simp only [List.cons_append, List.cons.injEq] at h
        obtain ⟨rfl, h⟩ := h
        obtain ⟨l1, l2, rfl, h1, h2⟩ := filter_split h
        exact ⟨y :: l1, l2, rfl, by rw [List.filter_cons, if_pos hy, h1], h2⟩
    · rename_i hy
      obtain ⟨l1, l2, rfl, h1, h2⟩ := filter_split h
      exact ⟨y :: l1, l2, rfl, by rw [List.filter_cons, if_neg hy, h1], h2⟩

theorem choose_idx {n : Nat} (hn : 0 < n) : ∃ i, i < n ∧ ∃ w', (choose (.mapNext n)).run P w = .ok i w' ∧ w'.heap = w.heap ∧ w'.os = w.os ∧ w'.tape = w.tape ∧ w'.output = w.output := by
  by_cases hf : n ≤ 1
  · refine ⟨0, hn, w, ?_, rfl, rfl, rfl, rfl⟩
    have : (Question.mapNext n).forced = true := by simp [Question.forced, hf]
    simp only [choose, Sem.run, this, if_true]
  · refine ⟨w.tape w.drawn (.mapNext n) % n, Nat.mod_lt _ hn, { w with drawn := w.drawn + 1 }, ?_, rfl, rfl, rfl, rfl⟩
    have : (Question.mapNext n).forced = false := by simpa [Question.forced] using hf
    simp only [choose, Sem.run, this, Bool.false_eq_true, if_false]
    rfl

theorem Ext.drew (e1 : w'.heap = w.heap) (e2 : w'.os = w.os) (e3 : w'.tape = w.tape) (e4 : w'.output = w.output) : Ext S w S w' :=
  ⟨.refl S, by rw [e1]; exact Nat.le_refl _, fun b _ _ => by rw [e1], fun _ h => .inl h, fun _ _ h => .inl h, e2, e3, e4⟩

theorem snd_nextM {o : Oper} {it : Operand} {oi : Opd} {r m c : Nat} {es left : List (AV × AV × Nat)} {cur : Option AV} (hop : o.op = .next it false) (hi : opd G A it = some oi) (he : ERel A S e a w) (hw : WRel G S h w) (hv : val e oi = some (.ptr r 0)) (hg : h.get r = some (.mit (some m) es c left cur))
    (hm : h.get m = some (.map es c)) :
    (left = [] ∧ Out P G S w h (.tup [.bool false]) (execOp a.eval o)) ∨
    (∃ p q k v n, left = p ++ (k, v, n) :: q ∧ Out P G S w (h.set r (.mit (some m) es c (p ++ q) (some (.tup [k, v])))) (.tup [.bool true, k, v]) (execOp a.eval o)) := by
  have c1 := opd_rel hi he hw hv
  obtain ⟨b, lim, hρ, mb, hρm, seen, hb, hleft, hcur⟩ := hw.obj r _ hg
  obtain ⟨b', base, lim', hρm', ces, hmb, hE, hp, hclk⟩ := hw.obj m _ hm
  have hmb' : b' = mb := by
    rcases hρm with k | ⟨x, y, k⟩ <;> rw [hρm'] at k <;> cases k <;> rfl
  subst hmb'
  simp only [VRel, hρ, Nat.add_zero] at c1
  have hlen := hE.len
  have hborn : ∀ en ∈ ces, en.born < c := fun en hen => by
    obtain ⟨i, hi⟩ := List.mem_iff_getElem?.1 (Array.mem_toList_iff.2 hen)
    have hil := (List.getElem?_eq_some_iff.1 hi).1
    obtain ⟨m', g1, g2, g3, g4⟩ := hE.get i es[i] (by simp)
    rw [hi] at g1; cases g1
    rw [g4]
    exact hclk _ (List.getElem_mem _)
  have hno : (!seen.isEmpty && !ces.isEmpty && ces.all fun en => decide (en.born ≥ c)) = false := by
    by_cases h0 : ces.isEmpty = true
    · simp [h0]
    · have : ∃ en, en ∈ ces := by
        refine ⟨ces[0]'(by simp only [Array.isEmpty_iff] at h0; exact Array.size_pos_iff.2 h0), Array.getElem_mem _⟩
      obtain ⟨en, hen⟩ := this
      have hall : (ces.all fun en => decide (en.born ≥ c)) = false := by
        rw [Array.all_eq_false']
        exact ⟨en, hen, by have := hborn en hen; simp; omega⟩
      simp [hall]
  have hold : ((ces.filter fun en => !seen.contains en.born).filter fun en => decide (en.born < c)) = ces.filter fun en => !seen.contains en.born := by
    rw [Array.filter_eq_self]
    intro en hen
    simp only [Array.mem_filter] at hen
    simpa using hborn en hen.1
  have hnew : ((ces.filter fun en => !seen.contains en.born).filter fun en => decide (en.born ≥ c)) = #[] := by
    rw [Array.filter_eq_empty_iff]
    intro en hen
    simp only [Array.mem_filter] at hen
    have := hborn en hen.1
    simp; omega
  generalize hL : (ces.filter fun en => !seen.contains en.born) = L at *
  have hLr : EntRel S left L.toList := by
    rw [hleft, ← hL, Array.toList_filter]
    clear hold hnew hL hno hborn hlen hleft
    have : ∀ {es : List (AV × AV × Nat)} {l : List MapEntry}, EntRel S es l → EntRel S (es.filter fun x => !seen.contains x.2.2) (l.filter fun en => !seen.contains en.born) := by
      intro es
      induction es with
      | nil => intro l h; simp only [EntRel] at h; subst h; simp only [List.filter_nil, EntRel]
      | cons z es ih =>
        intro l h
        obtain ⟨k, v, n⟩ := z
        simp only [EntRel] at h
        obtain ⟨m, ms, rfl, h1, h2, h3, h4⟩ := h
        rw [List.filter_cons, List.filter_cons, h3]
        split
        · simp only [EntRel]
          exact ⟨m, _, rfl, h1, h2, h3, ih h4⟩
        · exact ih h4
    exact this hE
  have hLl := hLr.len
  have e1 : execOp a.eval o = (do pure (Next.value (← Instr.next (a.eval it) false o.type)) : Sem Next) := by simp only [execOp, hop]
  have hcand : 0 < ((if L.isEmpty then #[none] else #[]) ++ (L ++ #[]).map some : Array (Option MapEntry)).size := by
    by_cases h0 : L.isEmpty = true
    · simp [h0]; omega
    · simp only [Array.isEmpty_iff] at h0
      have := Array.size_pos_iff.2 h0
      simp; omega
  obtain ⟨idx, hidx, w1, hch, hh1, hh2, hh3, hh4⟩ := choose_idx (P := P) (w := w) hcand
  have hb1 : w1.heap[b]? = some (.mapIter (some b') c seen c) := by rw [hh1]; exact hb
  have hw1 := hw.heap hh1
  have x0 : Ext S w S w1 := Ext.drew hh1 hh2 hh3 hh4
  by_cases h0 : L = #[]
  · left
    have hl0 : left = [] := by
      rw [h0] at hLl
      simpa using hLl.symm
    refine ⟨hl0, .tuple #[.bool false], w1, S, .inl ?_, x0, hw1, ?_⟩
    · rw [e1, c1]
      refine run_v ?_
      have hc0 : ((if L.isEmpty then #[none] else #[]) ++ (L ++ #[]).map some : Array (Option MapEntry)) = #[none] := by rw [h0]; simp
      rw [hc0] at hch hidx
      have hidx2 : idx = 0 := by simpa using hidx
      subst hidx2
      simp only [Instr.next, Sem.run_bind, run_getMit hb, Result.andThen_ok, run_getMap hmb, hno, Bool.false_eq_true, if_false, Sem.run_pure, hL, hold, hnew, hc0, hch]
      rfl
    · simp only [VRel]
      exact ⟨[_], rfl, VRelL.nil.cons (by simp only [VRel])⟩
  · right
    have hie : L.isEmpty = false := by
      cases hq : L.isEmpty with
      | false => rfl
      | true => exact absurd (Array.isEmpty_iff.1 hq) h0
    simp only [hie, Bool.false_eq_true, if_false, Array.empty_append, Array.append_empty, Array.size_map] at hch hidx
    have hil : idx < left.length := by rw [← hLl]; simpa using hidx
    obtain ⟨me, g1, g2, g3, g4⟩ := hLr.get idx left[idx] (by simp [hil])
    have hme : L[idx]? = some me := by simpa using g1
    rcases hx : left[idx] with ⟨k, v, n⟩
    rw [hx] at g2 g3 g4
    simp only at g2 g3 g4
    have hsplit : left = left.take idx ++ (k, v, n) :: left.drop (idx + 1) := by
      rw [← hx]
      simp
    obtain ⟨l1, l2, hes, hf1, hf2⟩ := filter_split (hleft ▸ hsplit)
    have hmem : (k, v, n) ∈ es := by rw [hes]; simp
    have hns : seen.contains n = false := by
      have : (k, v, n) ∈ left := by rw [hsplit]; simp
      rw [hleft] at this
      have := (List.mem_filter.1 this).2
      simpa using this
    have hl2 : ∀ z ∈ l1 ++ l2, z.2.2 ≠ n := fun z hz => by
      rw [hes, List.map_append, List.map_cons, List.pairwise_append, List.pairwise_cons] at hp
      rcases List.mem_append.1 hz with hz | hz
      · have := hp.2.2 z.2.2 (List.mem_map_of_mem hz) n (by simp)
        omega
      · have := hp.2.1.1 z.2.2 (List.mem_map_of_mem hz)
        simp only at this
        omega
    have hnewleft : left.take idx ++ left.drop (idx + 1) = es.filter fun z => !(seen.push n).contains z.2.2 := by
      have hcong : ∀ {l : List (AV × AV × Nat)}, (∀ z ∈ l, z.2.2 ≠ n) → l.filter (fun z => !(seen.push n).contains z.2.2) = l.filter fun z => !seen.contains z.2.2 := fun {l} hl => by
        apply List.filter_congr
        intro z hz
        have := hl z hz
        simp [Array.contains_push, this]
      rw [hes, List.filter_append, List.filter_cons, hcong (fun z hz => hl2 z (by simp [hz])), hcong (fun z hz => hl2 z (by simp [hz])), hf1, hf2, ← hleft]
      simp [Array.contains_push]
    obtain ⟨x1, x2⟩ := upd_obj (w' := World.putObj w1 b (.mapIter (some b') c (seen.push n) c)) (x' := .mit (some m) es c (left.take idx ++ left.drop (idx + 1)) (some (.tup [k, v]))) hw1 hρ hg putObj_size (fun k hk => putObj_else hk) rfl rfl rfl
      ⟨b, lim, hρ, b', .inr ⟨_, _, hρm'⟩, seen.push n, putObj_same hb1, hnewleft, fun u hu => by cases hu; exact ⟨k, v, n, rfl, hmem, by simp⟩⟩
    refine ⟨_, _, k, v, n, hsplit, .tuple #[.bool true, me.key, me.val], _, S, .inl ?_, x0.trans x1, x2, ?_⟩
    · rw [e1, c1]
      refine run_v ?_
      have hcd : (L.map some)[idx]? = some (some me) := by rw [Array.getElem?_map, hme]; rfl
      simp only [Instr.next, Sem.run_bind, run_getMit hb, Result.andThen_ok, run_getMap hmb, hno, Bool.false_eq_true, if_false, Sem.run_pure, hL, hold, hnew, hie, Array.append_empty, Array.empty_append, Array.size_map, hch, hcd, run_setMit hb1, g4]
    · simp only [VRel]
      exact ⟨[_, _, _], rfl, ((VRelL.nil.cons g3).cons g2).cons (by simp only [VRel])⟩

end
end Go.AM
