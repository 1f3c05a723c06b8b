/- Own work. This text shows: slices.Insert of one cell, walked. -/
import Derived.Test.YtcipamnhmeplkaaGreatDoorProg
import Derived.WalkKit
import Derived.KernelRfl
import Derived.Shelf.Spec.SlicesInsert
import Derived.Lib.AppendZerosOnto
import Derived.Laws.NewBlocks
import Derived.Test.YtcipamnhmeplkaaGreatDoorAm6
set_option linter.unusedVariables false
set_option linter.unusedSimpArgs false
namespace Go.Proofs
open Go.Shelf Go.RowKit Go.Lib
variable {P : Program}

/-- copy, of elements of any number of cells -/
theorem run_copyK (w : World) (dT sT ty elem : TypeId) (k b o dLen dCap : Nat) (a : Addr) (sLen sCap : Nat) (cs : List Value)
    (hu : P.underlying dT = some (.slice elem)) (hs : (P.info? elem).map (·.size) = some k) (hn : cs.length = Nat.min sLen dLen * k)
    (hsrc : ∀ j v, cs[j]? = some v → w.cell? (a.add j) = some v) (hc : ∀ j, j < cs.length → (w.cell? ⟨b, o + j, none⟩).isSome = true) (hf : ∀ j, j < cs.length → w.frozen? ⟨b, o + j, none⟩ = false) (h1 : ∀ v ∈ cs, v.oneCell' = true) :
    (Builtin.copy_ #[dT, sT] ty #[.slice (some ⟨b, o, none⟩) dLen dCap, .slice (some a) sLen sCap]).run P w = .ok (goInt (Nat.min sLen dLen)) (w.setCells b o cs) := by
  have hl := run_loadCells_list (P := P) w a cs hsrc
  have hst := run_storeCells_cells (P := P) b o cs 0 w (by simpa using hc) (by simpa using hf) h1
  cases hq : P.info? elem with
  | none => simp [hq] at hs
  | some i =>
    have hi : i.size = k := by simpa [hq] using hs
    simp [Builtin.copy_, run_underlying hu, Builtin.lenOf, Builtin.firstCells, sizeOf, typeInfo, hq, hi, ← hn, hl, hst]

/-- two slices in different blocks, the second of which is no string's -/
theorem run_overlaps_ok (w : World) (tS tR e : TypeId) (ht : P.underlying tS = some (.slice e)) (size : Nat) (hz : ∀ w, (Go.sizeOf e).run P w = .ok size w)
    (a b : Addr) (la ca lb cb : Nat) (hne : a.block ≠ b.block) (tA tB : TypeId) (kA kB : Nat)
    (hsa : w.shape? a.block = some (tA, kA)) (hsb : w.shape? b.block = some (tB, kB)) (hkA : kA ≠ 0) (hkB : kB ≠ 0)
    (hfb : w.frozen? b = false) (hfe : w.frozen? { block := b.block, off := kB } = false) :
    (Extern.SlicesOverlaps.overlaps #[tS, tS] #[tR] #[.slice (some a) la ca, .slice (some b) lb cb]).run P w = .ok (.bool false) w := by
  have hnb : (a.block != b.block) = true := by simpa using hne
  have hnb' : (a.block == b.block) = false := by simpa using hne
  change Sem.run P (α := Value) (do
    let some t := (#[tS, tS] : Array TypeId)[0]? | stuck "slices.overlaps: no parameter types"
    let .slice elem ← underlying t | stuck "slices.overlaps: slice type expected"
    let size ← sizeOf elem
    match (some a : Option Addr), (some b : Option Addr) with
    | some a, some b =>
      if la = 0 ∨ lb = 0 ∨ size = 0 then pure (Value.bool false)
      else if a.block != b.block && (← frozen a) && (← frozen b) then unsupported .addressObserved
      else do
        if a.block != b.block then do
          noView a; noView b
          if ← mayBeOne a b then return Value.bool ((← choose (.extern "sameAddr.stringBytes" 2)) == 1)
        pure (Value.bool (a.block == b.block && a.off < b.off + lb * size && b.off < a.off + la * size))
    | _, _ => pure (Value.bool false)) w = _
  by_cases h0 : la = 0 ∨ lb = 0 ∨ size = 0
  · simp [run_underlying ht, hz, h0]
  · cases kB with
    | zero => exact absurd rfl hkB
    | succ kB =>
      cases kA with
      | zero => exact absurd rfl hkA
      | succ kA =>
        cases hfa : w.frozen? a with
        | true => simp [run_underlying ht, hz, h0, hnb, hnb', frozen, noView, viewAt, mayBeOne, stringish, shape, Sem.run, hsa, hsb, hfa, hfb, hfe]
        | false => simp [run_underlying ht, hz, h0, hnb, hnb', frozen, noView, viewAt, mayBeOne, stringish, shape, Sem.run, hsa, hsb, hfa, hfb, hfe]
end Go.Proofs

set_option linter.unusedVariables false
set_option linter.unusedSimpArgs false
namespace Go.Proofs
open Go.Shelf Go.RowKit Go.Lib

theorem cellSize : ∀ w, (Go.sizeOf 142).run Tryz.prog w = .ok 2 w := by intro w; kernel_rfl
theorem cellInfo : (Tryz.prog.info? 142).map (·.size) = some 2 := by kernel_rfl
theorem mixedT : Tryz.prog.follows .mixedOrders = true := by kernel_rfl

set_option maxHeartbeats 4000000 in
set_option maxRecDepth 100000 in
/-- slices.Insert of one cell: there is room, i < len(s): in place. -/
theorem ins_shift (b off n c i vb voff vc : Nat) (cs vs : List Value) (w : World) (hi : i < n) (hroom : n + 1 ≤ c) (hn63 : n + 1 ≤ 9223372036854775807) (hvb : vb ≠ b)
    (hcl : cs.length = n * 2) (hvl : vs.length = 2)
    (hcs : ∀ j v, cs[j]? = some v → w.cell? ⟨b, off + j, none⟩ = some v) (hsp : ∀ j, j < (n + 1) * 2 → (w.cell? ⟨b, off + j, none⟩).isSome = true) (hfz : ∀ j, j < (n + 1) * 2 → w.frozen? ⟨b, off + j, none⟩ = false)
    (hvs : ∀ j v, vs[j]? = some v → w.cell? ⟨vb, voff + j, none⟩ = some v) (h1c : ∀ v ∈ cs, v.oneCell' = true) (h1v : ∀ v ∈ vs, v.oneCell' = true)
    (tA tB : TypeId) (kA kB : Nat) (hsa : w.shape? vb = some (tA, kA)) (hsb : w.shape? b = some (tB, kB)) (hkA : kA ≠ 0) (hkB : kB ≠ 0) (hfe : w.frozen? ⟨b, kB, none⟩ = false) :
    Calls Tryz.prog 147 #[.slice (some ⟨b, off, none⟩) n c, .int .i64 i, .slice (some ⟨vb, voff, none⟩) 1 vc] w fun e w' =>
      e = .returned (.slice (some ⟨b, off, none⟩) (n + 1) c) ∧ w' = (w.drew.setCells b (off + (i + 1) * 2) (cs.drop (i * 2))).setCells b (off + i * 2) vs := by
  have hz2 : ¬ ((i : Int) = (n : Int)) := by omega
  have hov : ∀ lb cb, (callFunc 160 #[.slice (some ⟨vb, voff, none⟩) 1 vc, .slice (some ⟨b, off + (i + 1) * 2, none⟩) lb cb]).run Tryz.prog w = .ok (.value (.bool false)) w := fun lb cb => by
    rw [run_callFunc_extern Tryz.func160 (by kernel_rfl) (by kernel_rfl) (by kernel_rfl) (e := Extern.SlicesOverlaps.overlaps #[132, 132] #[4]) (by kernel_rfl),
      run_overlaps_ok w 132 4 142 Tryz.underlying132 2 cellSize ⟨vb, voff, none⟩ ⟨b, off + (i + 1) * 2, none⟩ 1 vc lb cb hvb tA tB kA kB hsa hsb hkA hkB (by rw [show off + (i + 1) * 2 = off + ((i + 1) * 2) from rfl]; exact hfz _ (by omega)) hfe]
    rfl
  have hdl : (cs.drop (i * 2)).length = (n - i) * 2 := by rw [List.length_drop, hcl]; omega
  have mixed : Tryz.prog.follows .mixedOrders = true := mixedT
  have hw1 : IntKind.i64.wrap ((i : Int) + 1) = (i : Int) + 1 := by rw [IntKind.wrap_i64]; omega
  have hb1 : (0 : Int) ≤ (i : Int) + 1 := by omega
  have hin : i ≤ n := by omega
  have htn : ((i : Int) + 1).toNat = i + 1 := by omega
  have hb2 : ¬ (c = i + 1) := by omega
  have hb3 : (i : Int) ≤ (n : Int) + 1 := by omega
  have hb4 : ¬ (c = i) := by omega
  have hcp1 : ∀ ty dc sc, (Builtin.copy_ #[132, 132] ty #[.slice (some ⟨b, off + (i + 1) * 2, none⟩) (n - i) dc, .slice (some ⟨b, off + i * 2, none⟩) (n + 1 - i) sc]).run Tryz.prog w.drew = .ok (goInt ((n - i : Nat) : Int)) (w.drew.setCells b (off + (i + 1) * 2) (cs.drop (i * 2))) := fun ty dc sc => by
    have hmin : Nat.min (n + 1 - i) (n - i) = n - i := by simp only [Nat.min_def]; split <;> omega
    have h := run_copyK w.drew 132 132 ty 142 2 b (off + (i + 1) * 2) (n - i) dc ⟨b, off + i * 2, none⟩ (n + 1 - i) sc (cs.drop (i * 2)) Tryz.underlying132 cellInfo (by rw [hdl, hmin])
      (fun j v hj => by rw [Addr.add_lit, Nat.add_assoc]; exact hcs (i * 2 + j) v (by rwa [List.getElem?_drop] at hj))
      (fun j hj => by rw [Nat.add_assoc]; exact hsp _ (by omega)) (fun j hj => by rw [Nat.add_assoc]; exact hfz _ (by omega)) (fun v hv => h1c v (List.mem_of_mem_drop hv))
    rw [hmin] at h
    exact h
  obtain ⟨W1, hW1⟩ : ∃ W1, W1 = w.drew.setCells b (off + (i + 1) * 2) (cs.drop (i * 2)) := ⟨_, rfl⟩
  have hsp1 : ∀ k, k < (n + 1) * 2 → (W1.cell? ⟨b, off + k, none⟩).isSome = true := fun k hk => by
    rw [hW1]
    exact isSome_setCells b _ _ _ (fun j hj => by rw [Nat.add_assoc]; exact hsp _ (by omega)) _ (hsp k hk)
  have hcp2 : ∀ (W : World), (∀ x, W.cell? x = W1.cell? x) → (∀ x, W.frozen? x = W1.frozen? x) → ∀ ty dc, (Builtin.copy_ #[132, 132] ty #[.slice (some ⟨b, off + i * 2, none⟩) (n + 1 - i) dc, .slice (some ⟨vb, voff, none⟩) 1 vc]).run Tryz.prog W = .ok (goInt 1) (W.setCells b (off + i * 2) vs) := fun W hWc hWf ty dc => by
    have hmin : Nat.min 1 (n + 1 - i) = 1 := by simp only [Nat.min_def]; split <;> omega
    have h := run_copyK W 132 132 ty 142 2 b (off + i * 2) (n + 1 - i) dc ⟨vb, voff, none⟩ 1 vc vs Tryz.underlying132 cellInfo (by rw [hvl, hmin])
      (fun j v hj => by
        rw [Addr.add_lit, hWc, hW1, World.cell?_setCells_out b _ _ _ _ (fun h _ => absurd h hvb)]
        exact hvs j v hj)
      (fun j hj => by rw [hWc, Nat.add_assoc]; exact hsp1 _ (by omega)) (fun j hj => by rw [hWf, hW1, World.frozen?_setCells, Nat.add_assoc]; exact hfz _ (by omega)) h1v
    rw [hmin] at h
    exact h
  rw [← hW1] at hcp1
  go_enter Tryz.func147, Tryz.ntmps147
  go_wp2_with (simp only [hov])
  go_region_law_o (refine step_copy_runI rfl _ _ 132 132 rfl _ _ (by simp [Act.eval, Act.put]) (by simp [Act.eval, Act.put]) (hcp1 _ _ _) ?_)
  go_wp2_with (at_builtin; refine wpList_copy_runI _ rfl _ _ 132 132 rfl _ _ rfl rfl (hcp2 _ (fun _ => rfl) (fun _ => rfl) _ _) ?_)
  go_ret
  first | exact ⟨rfl, rfl⟩ | exact ⟨rfl, by rw [hW1]⟩
end Go.Proofs

set_option linter.unusedVariables false
set_option linter.unusedSimpArgs false
namespace Go.Proofs
open Go.Shelf Go.RowKit Go.Lib

def cellZ : Value := .agg #[.string ⟨#[]⟩, .string ⟨#[]⟩]
theorem cellI : (Tryz.prog.info? 142).map (fun i => (i.size, i.bytes)) = some (2, 32) := by kernel_rfl
theorem cellI2 : (Tryz.prog.info? 142).bind (·.zero) = some cellZ := by kernel_rfl
theorem cellI0 : ∃ i0, Tryz.prog.info? 142 = some i0 ∧ i0.zero = some cellZ ∧ i0.size = 2 ∧ i0.bytes = 32 := by
  have h1 := cellI
  have h2 := cellI2
  cases h : Tryz.prog.info? 142 with
  | none => rw [h] at h1; cases h1
  | some i0 =>
    rw [h] at h1 h2
    simp at h1 h2
    exact ⟨i0, rfl, h2, h1.1, h1.2⟩
theorem zeroCells_size (n : Nat) : (Builtin.zeroCells cellZ.cells n).size = n * 2 := by
  simp [Builtin.zeroCells, cellZ, Value.cells]

set_option maxHeartbeats 4000000 in
set_option maxRecDepth 100000 in
/-- slices.Insert of one cell: i < len(s), no room: a new row. -/
theorem ins_grow (b off n c i vb voff vc : Nat) (cs vs : List Value) (w : World) (hi : i < n) (hnc : n ≤ c) (hroom : c < n + 1) (hbig : (n + 1) * 32 ≤ 140737488355328)
    (hcl : cs.length = n * 2) (hvl : vs.length = 2)
    (hcs : ∀ j v, cs[j]? = some v → w.cell? ⟨b, off + j, none⟩ = some v)
    (hvs : ∀ j v, vs[j]? = some v → w.cell? ⟨vb, voff + j, none⟩ = some v) (h1c : ∀ v ∈ cs, v.oneCell' = true) (h1v : ∀ v ∈ vs, v.oneCell' = true) :
    Calls Tryz.prog 147 #[.slice (some ⟨b, off, none⟩) n c, .int .i64 i, .slice (some ⟨vb, voff, none⟩) 1 vc] w fun e w' =>
      ∃ c' ROW, e = .returned (.slice (some ⟨w.heap.size, 0, none⟩) (n + 1) c') ∧ n + 1 ≤ c' ∧ (n + 1) * 2 ≤ ROW.size ∧ (∀ j, j < i * 2 → ROW[j]? = cs[j]?) ∧
      w' = (((w.alloc (.cells ROW 142)).drew.setCells w.heap.size (i * 2) vs).drew).setCells w.heap.size ((i + 1) * 2) (cs.drop (i * 2)) := by
  have mixed : Tryz.prog.follows .mixedOrders = true := mixedT
  obtain ⟨i0, hi0, hz0, hzs, hzb⟩ := cellI0
  have hz2 : ¬ ((i : Int) = (n : Int)) := by omega
  have hz3 : (c : Int) < (n : Int) + 1 := by omega
  have hbw : b < w.heap.size := block_lt_of_cell (hcs 0 _ (List.getElem?_eq_getElem (by omega)))
  have hvw : vb < w.heap.size := block_lt_of_cell (hvs 0 _ (List.getElem?_eq_getElem (by omega)))
  have hkk : (n : Int) + 1 - (i : Int) = ((n + 1 - i : Nat) : Int) := by omega
  have hik : i + (n + 1 - i) = n + 1 := by omega
  have hold : (Builtin.firstCells i0.size i (.slice (some ⟨b, off, none⟩) i c)).run Tryz.prog w.drew = .ok (cs.take (i * 2)).toArray w.drew := by
    rw [hzs]
    exact run_firstCells_some w.drew 2 i ⟨b, off, none⟩ i c (cs.take (i * 2)) (by rw [List.length_take]; omega) (fun j v hj => by
      rw [Addr.add_lit]
      rw [List.getElem?_take] at hj
      split at hj
      · exact hcs j v hj
      · cases hj)
  have hrz : ∀ ty, (Builtin.append_ #[132, 3] ty #[.slice (some ⟨b, off, none⟩) i c, .int .i64 ((n : Int) + 1 - (i : Int))]).run Tryz.prog w =
      .ok (.slice (some ⟨w.heap.size, 0, none⟩) (n + 1) (grownCap w (n + 1) c 142)) (w.drew.alloc (.cells ((cs.take (i * 2)).toArray ++ Builtin.zeroCells cellZ.cells (n + 1 - i) ++ Builtin.zeroCells cellZ.cells (grownCap w (n + 1) c 142 - (n + 1))) 142)) := fun ty => by
    have h := Lib.run_append_grow_zeros w 132 3 ty 142 i0 _ .i64 .i64 Tryz.underlying132 Tryz.underlying3 hi0 hz0 (some ⟨b, off, none⟩) i c (cs.take (i * 2)) hold (n + 1 - i) (by omega) (by omega) (by omega) (by omega) (by rw [hzb]; omega) (by rw [hzb, hik]; exact growslice_fits hroom hbig)
    rw [hik] at h
    rw [hkk]
    exact h
  obtain ⟨G, hG⟩ : ∃ G, G = grownCap w (n + 1) c 142 := ⟨_, rfl⟩
  obtain ⟨ROW, hROW⟩ : ∃ ROW : Array Value, ROW = (cs.take (i * 2)).toArray ++ Builtin.zeroCells cellZ.cells (n + 1 - i) ++ Builtin.zeroCells cellZ.cells (G - (n + 1)) := ⟨_, rfl⟩
  rw [← hG] at hrz
  rw [← hROW] at hrz
  have hRl : (n + 1) * 2 ≤ ROW.size := by
    rw [hROW]
    simp only [Array.size_append, zeroCells_size, List.size_toArray, List.length_take, hcl]
    omega
  have hRj : ∀ j, j < i * 2 → ROW[j]? = cs[j]? := fun j hj => by
    have hsz : j < (cs.take (i * 2)).toArray.size := by simp; omega
    rw [hROW, Array.getElem?_append_left (by rw [Array.size_append]; omega), Array.getElem?_append_left hsz]
    simp [List.getElem?_take, hj]
  obtain ⟨W1, hW1⟩ : ∃ W1, W1 = w.drew.alloc (.cells ROW 142) := ⟨_, rfl⟩
  rw [← hW1] at hrz
  have hN : ∀ j, j < (n + 1) * 2 → (W1.cell? ⟨w.heap.size, j, none⟩).isSome = true := fun j hj => by
    rw [hW1, World.cell?_alloc_at (w := w.drew) ROW _ w.heap.size j rfl, Array.getElem?_eq_getElem (by omega)]; rfl
  have hNf : ∀ j, W1.frozen? ⟨w.heap.size, j, none⟩ = false := fun j => by rw [hW1]; exact World.frozen?_alloc_at (w := w.drew) ROW _ w.heap.size j rfl
  have hOb : ∀ j v, w.cell? ⟨b, j, none⟩ = some v → W1.cell? ⟨b, j, none⟩ = some v := fun j v h => by rw [hW1, World.cell?_alloc_past (w := w.drew) _ b j hbw]; exact h
  have hOv : ∀ j v, w.cell? ⟨vb, j, none⟩ = some v → W1.cell? ⟨vb, j, none⟩ = some v := fun j v h => by rw [hW1, World.cell?_alloc_past (w := w.drew) _ vb j hvw]; exact h
  have hcpA : ∀ (W : World), (∀ x, W.cell? x = W1.cell? x) → (∀ x, W.frozen? x = W1.frozen? x) → ∀ ty dc, (Builtin.copy_ #[132, 132] ty #[.slice (some ⟨w.heap.size, i * 2, none⟩) (n + 1 - i) dc, .slice (some ⟨vb, voff, none⟩) 1 vc]).run Tryz.prog W = .ok (goInt 1) (W.setCells w.heap.size (i * 2) vs) := fun W hWc hWf ty dc => by
    have hmin : Nat.min 1 (n + 1 - i) = 1 := by simp only [Nat.min_def]; split <;> omega
    have h := run_copyK W 132 132 ty 142 2 w.heap.size (i * 2) (n + 1 - i) dc ⟨vb, voff, none⟩ 1 vc vs Tryz.underlying132 cellInfo (by rw [hvl, hmin])
      (fun j v hj => by rw [Addr.add_lit, hWc]; exact hOv _ v (hvs j v hj))
      (fun j hj => by rw [hWc]; exact hN _ (by omega)) (fun j hj => by rw [hWf]; exact hNf _) h1v
    rw [hmin] at h
    exact h
  have hGn : n + 1 ≤ G := by rw [hG]; exact grownCap_ge w _ _ _
  have hG63 : G ≤ 9223372036854775807 := by
    have := grownCap_le_maxLen w (n + 1) c 142 (by unfold maxLen; omega)
    rw [← hG] at this
    unfold maxLen at this
    omega
  have hGi : ¬ (G = i) := by omega
  have hGim : ¬ (G = i + 1) := by omega
  have hci : ¬ (c = i) := by omega
  have hbN : b ≠ w.heap.size := by omega
  have hdl : (cs.drop (i * 2)).length = (n - i) * 2 := by rw [List.length_drop, hcl]; omega
  have hcpB : ∀ (W : World), (∀ x, W.cell? x = (W1.setCells w.heap.size (i * 2) vs).cell? x) → (∀ x, W.frozen? x = (W1.setCells w.heap.size (i * 2) vs).frozen? x) → ∀ ty dc sc, (Builtin.copy_ #[132, 132] ty #[.slice (some ⟨w.heap.size, (i + 1) * 2, none⟩) (n - i) dc, .slice (some ⟨b, off + i * 2, none⟩) (n - i) sc]).run Tryz.prog W = .ok (goInt ((n - i : Nat) : Int)) (W.setCells w.heap.size ((i + 1) * 2) (cs.drop (i * 2))) := fun W hWc hWf ty dc sc => by
    have hmin : Nat.min (n - i) (n - i) = n - i := Nat.min_self _
    have h := run_copyK W 132 132 ty 142 2 w.heap.size ((i + 1) * 2) (n - i) dc ⟨b, off + i * 2, none⟩ (n - i) sc (cs.drop (i * 2)) Tryz.underlying132 cellInfo (by rw [hdl, hmin])
      (fun j v hj => by
        rw [Addr.add_lit, hWc, World.cell?_setCells_out _ _ _ _ _ (fun h _ => absurd h hbN), Nat.add_assoc]
        exact hOb _ v (hcs (i * 2 + j) v (by rwa [List.getElem?_drop] at hj)))
      (fun j hj => by rw [hWc]; exact isSome_setCells _ _ _ _ (fun t ht => hN _ (by omega)) _ (hN _ (by omega)))
      (fun j hj => by rw [hWf, World.frozen?_setCells]; exact hNf _) (fun v hv => h1c v (List.mem_of_mem_drop hv))
    rw [hmin] at h
    exact h
  subst hW1
  have hE1 : ∀ x, ((w.alloc (.cells ROW 142)).drew).cell? x = (w.drew.alloc (.cells ROW 142)).cell? x := fun x => rfl
  have hE2 : ∀ x, ((w.alloc (.cells ROW 142)).drew).frozen? x = (w.drew.alloc (.cells ROW 142)).frozen? x := fun x => rfl
  have hF1 : ∀ x, (((w.alloc (.cells ROW 142)).drew.setCells w.heap.size (i * 2) vs).drew).cell? x = ((w.drew.alloc (.cells ROW 142)).setCells w.heap.size (i * 2) vs).cell? x := fun x => rfl
  have hF2 : ∀ x, (((w.alloc (.cells ROW 142)).drew.setCells w.heap.size (i * 2) vs).drew).frozen? x = ((w.drew.alloc (.cells ROW 142)).setCells w.heap.size (i * 2) vs).frozen? x := fun x => rfl
  have hw1 : IntKind.i64.wrap ((i : Int) + 1) = (i : Int) + 1 := by rw [IntKind.wrap_i64]; omega
  have hb1 : (0 : Int) ≤ (i : Int) + 1 := by omega
  have hin : i ≤ n := by omega
  have htn : ((i : Int) + 1).toNat = i + 1 := by omega
  have hb3 : (i : Int) ≤ (n : Int) := by omega
  have HG : Hid (n + 1 ≤ G) := hGn
  have HR : Hid ((n + 1) * 2 ≤ ROW.size) := hRl
  have HJ : Hid (∀ j, j < i * 2 → ROW[j]? = cs[j]?) := hRj
  clear hkk hik hold hROW hG hRl hRj
  go_enter Tryz.func147, Tryz.ntmps147
  go_wp2_with (first
    | (at_builtin; refine Lib.wpList_append_run _ rfl _ _ _ _ rfl _ _ rfl rfl _ _ (hrz _) ?_)
    | (at_builtin; refine wpList_copy_runI _ rfl _ _ 132 132 rfl _ _ rfl rfl (hcpA _ hE1 hE2 _ _) ?_)
    | (at_builtin; refine wpList_copy_runI _ rfl _ _ 132 132 rfl _ _ rfl rfl (hcpB _ (fun _ => rfl) (fun _ => rfl) _ _ _) ?_))
  go_region_law_o (refine step_copy_runI rfl _ _ 132 132 rfl (.slice (some ⟨w.heap.size, (i + 1) * 2, none⟩) (n - i) (G - (i + 1))) (.slice (some ⟨b, off + i * 2, none⟩) (n - i) (c - i)) (by simp [Act.eval, Act.put]) (by simp [Act.eval, Act.put]) (hcpB _ hF1 hF2 3 (G - (i + 1)) (c - i)) ?_)
  go_wp2
  go_ret
  exact ⟨G, ROW, rfl, HG.out, HR.out, HJ.out, rfl⟩
end Go.Proofs

set_option linter.unusedVariables false
set_option linter.unusedSimpArgs false
namespace Go.Proofs
open Go.Shelf Go.RowKit Go.Lib

set_option maxHeartbeats 4000000 in
set_option maxRecDepth 100000 in
/-- slices.Insert of one cell into nothing: a new row. -/
theorem ins_new (base : Option Addr) (vb voff vc : Nat) (vs : List Value) (w : World) (hvl : vs.length = 2) (hvs : Go.AM.Row w vb voff vs) :
    Calls Tryz.prog 147 #[.slice base 0 0, .int .i64 0, .slice (some ⟨vb, voff, none⟩) 1 vc] w fun e w' =>
      ∃ cap c, e = .returned (.slice (some ⟨w.heap.size, 0, none⟩) 1 cap) ∧ 1 ≤ cap ∧ w'.heap = w.heap.push (.cells c 142) ∧ w'.os = w.os ∧ w'.tape = w.tape ∧ w'.output = w.output ∧ c.size = cap * 2 ∧ ∀ (j : Nat) v, vs[j]? = some v → c[j]? = some v := by
  have mixed : Tryz.prog.follows .mixedOrders = true := mixedT
  obtain ⟨i0, hi0, hz0, hzs, hzb⟩ := cellI0
  have hc2 : Tryz.prog.cellsOf 142 = 2 := by kernel_rfl
  obtain ⟨cap, c, w', hrun, k1, k2, k3, k4, k5, k6, k7⟩ := Go.AM.run_append_new (P := Tryz.prog) (w := w) (ts := #[132, 132]) (ty := 132) (base := base) (sLen := 0) (sCap := 0) (n := 1) (x := .slice (some ⟨vb, voff, none⟩) 1 vc) (olds := []) (news := vs)
    rfl rfl Tryz.underlying132 Tryz.underlying132 (fun k e => by cases e) hi0 hz0 (by rw [hzs]; rfl) (Go.AM.reads_slice (by simp) (.inl rfl)) (by simp) (Go.AM.reads_slice (by rw [hvl, hc2]) (.inr ⟨vb, voff, rfl, hvs⟩)) (by rw [hvl, hzs]) (by omega) (by rw [hzb]; omega) (by omega)
  rw [hzs] at k6
  have H : Hid (∃ cap' c', (Ending.returned (.slice (some ⟨w.heap.size, 0, none⟩) (0 + 1) cap) = Ending.returned (.slice (some ⟨w.heap.size, 0, none⟩) 1 cap')) ∧ 1 ≤ cap' ∧ w'.heap = w.heap.push (.cells c' 142) ∧ w'.os = w.os ∧ w'.tape = w.tape ∧ w'.output = w.output ∧ c'.size = cap' * 2 ∧ ∀ (j : Nat) v, vs[j]? = some v → c'[j]? = some v) :=
    ⟨cap, c, rfl, by omega, k2, k3, k4, k5, k6, fun j v hj => k7 j v (by simpa using hj)⟩
  clear k1 k2 k3 k4 k5 k6 k7
  cases base with
  | none =>
    go_enter Tryz.func147, Tryz.ntmps147
    go_wp2_with (at_builtin; refine Lib.wpList_append_run _ rfl _ _ _ _ rfl _ _ rfl rfl _ _ hrun ?_)
    go_ret
    exact H.out
  | some a =>
    obtain ⟨ab, ao, asp⟩ := a
    go_enter Tryz.func147, Tryz.ntmps147
    go_wp2_with (at_builtin; refine Lib.wpList_append_run _ rfl _ _ _ _ rfl _ _ rfl rfl _ _ hrun ?_)
    all_goals (go_ret; exact H.out)
end Go.Proofs
