/- Own work. This text shows: append, copy, and what is sealed. -/
import Derived.Test.YtcipamnhmeplkaaGreatDoorAm3
import Derived.Laws.Append
set_option linter.unusedVariables false
set_option linter.unusedSimpArgs false
namespace Go.AM
open Go
section
variable {P : Program} {G : GTab} {A : Ann} {S S' : Sim} {e : Env} {h h' : Heap} {a : Act} {w w' : World}

/-! ### What is given up -/

def Sim.kill (S : Sim) (r : Nat) : Sim := { S with ρ := fun x => if x = r then .dead else S.ρ x }
/-- cells of a block that nobody writes any more -/
def Sim.shut0 (S : Sim) (b lo : Nat) (l : List Value) : Sim := { S with F := fun x o => if x = b ∧ lo ≤ o then l[o - lo]? else S.F x o }

theorem kill_le {r b base lim : Nat} (hr : S.ρ r = .live b base lim) : SimLe S (S.kill r) :=
  ⟨fun x => by
    simp only [Sim.kill]
    split
    · rename_i k; subst k; exact .inr (.inr ⟨rfl, b, base, lim, hr⟩)
    · exact .inl rfl, fun t z hz => ⟨z, hz, Nat.le_refl _, fun _ => rfl⟩, fun _ _ _ k => k⟩

theorem kill_live {r x b base lim : Nat} (k : (S.kill r).ρ x = .live b base lim) : x ≠ r ∧ S.ρ x = .live b base lim := by
  simp only [Sim.kill] at k
  split at k
  · cases k
  · exact ⟨‹_›, k⟩

theorem kill_obj (hw : WRel G S h w) {r b base lim : Nat} (hr : S.ρ r = .live b base lim) : Ext S w (S.kill r) w ∧ WRel G (S.kill r) (h.rem r) w := by
  have le := kill_le hr
  have owns : ∀ c, Owns (S.kill r) c → Owns S c := fun c k => by
    rcases k with ⟨x, y, z, k⟩ | k
    · exact .inl ⟨x, y, z, (kill_live k).2⟩
    · exact .inr k
  refine ⟨⟨le, Nat.le_refl _, fun _ _ _ => rfl, fun c k => .inl (owns c k), fun c o k => .inl k, rfl, rfl, rfl⟩, ?_⟩
  refine ⟨fun q y hy => ?_, fun q q' c x y x' y' k k' => hw.inj q q' c x y x' y' (kill_live k).2 (kill_live k').2, hw.tinj, fun q c x y t z k hz => hw.rt q c x y t z (kill_live k).2 hz, fun c k => hw.ob c (owns c k), hw.Fc,
    fun c o v q x y k hq => hw.Fr c o v q x y k (kill_live hq).2, hw.Ft, fun q k => ?_, hw.nt, fun q k => ?_, fun g l k => (hw.gl g l k).mono le _ _ _⟩
  · simp only [Heap.get, Heap.rem] at hy
    rw [Tr.get_del] at hy
    split at hy
    · cases hy
    · rename_i hne
      exact (hw.obj q y hy).keep le (fun c x y k => ⟨by simp only [Sim.kill]; rw [if_neg (fun e => hne e.symm)]; exact k, rfl⟩) (fun z k => ⟨k, rfl⟩)
  · simp only [Sim.kill]
    rw [if_neg (by have := ρ_next hw hr; simp only [Heap.rem] at k; omega)]
    exact hw.nr q k
  · simp only [Heap.get, Heap.rem]
    rw [Tr.get_del]
    split
    · rfl
    · exact hw.no q k

/-- an object's block goes over to a new object -/
theorem move_obj (hw : WRel G S h w) {r b base lim base' lim' : Nat} {x' : AObj} (hr : S.ρ r = .live b base lim)
    (hs : w'.heap.size = w.heap.size) (hb : ∀ k, k ≠ b → w'.heap[k]? = w.heap[k]?) (eo : w'.os = w.os) (et : w'.tape = w.tape) (eu : w'.output = w.output)
    (ho : ∀ S', SimLe S S' → S'.ρ h.next = .live b base' lim' → ObjRel S' w' h.next x') :
    Ext S w ((S.kill r).addR h.next b base' lim') w' ∧ WRel G ((S.kill r).addR h.next b base' lim') ((h.rem r).new x') w' := by
  have own : Owns S b := .inl ⟨r, _, _, hr⟩
  have hrn := ρ_next hw hr
  have hn : S.ρ h.next = .none := hw.nr _ (Nat.le_refl _)
  have le : SimLe S ((S.kill r).addR h.next b base' lim') := (kill_le hr).trans ⟨fun x => by
    simp only [Sim.addR]
    split
    · rename_i k; subst k
      right; left
      simp only [Sim.kill]
      rw [if_neg (by omega)]; exact hn
    · exact .inl rfl, fun t z hz => ⟨z, hz, Nat.le_refl _, fun _ => rfl⟩, fun _ _ _ k => k⟩
  have live : ∀ {x c y z : Nat}, ((S.kill r).addR h.next b base' lim').ρ x = .live c y z → (x = h.next ∧ c = b ∧ y = base' ∧ z = lim') ∨ (x ≠ h.next ∧ x ≠ r ∧ S.ρ x = .live c y z) := fun {x c y z} k => by
    simp only [Sim.addR] at k
    split at k
    · cases k; exact .inl ⟨‹_›, rfl, rfl, rfl⟩
    · exact .inr ⟨‹_›, kill_live k⟩
  have owns : ∀ c, Owns ((S.kill r).addR h.next b base' lim') c → Owns S c := fun c k => by
    rcases k with ⟨x, y, z, k⟩ | k
    · rcases live k with ⟨_, rfl, _⟩ | ⟨_, _, k⟩
      · exact own
      · exact .inl ⟨x, y, z, k⟩
    · exact .inr k
  refine ⟨⟨le, by omega, fun k _ hk => hb k (fun e => hk (e ▸ own)), fun c k => .inl (owns c k), fun c o k => .inl k, eo, et, eu⟩, ?_⟩
  refine ⟨fun q y hy => ?_, fun q q' c x y x' y' k k' => ?_, hw.tinj, fun q c x y t z k hz => ?_, fun c k => by rw [hs]; exact hw.ob c (owns c k), fun c o v k => ?_, fun c o v q x y k hq => ?_, hw.Ft, fun q k => ?_, fun t k => hw.nt t (by simp only [Heap.new, Heap.rem] at k; omega), fun q k => ?_, fun g l k => (hw.gl g l k).mono le _ _ _⟩
  · simp only [Heap.get, Heap.new, Heap.rem] at hy
    rw [Tr.get_put] at hy
    split at hy
    · rename_i k
      cases hy
      subst k
      exact ho _ le (by simp [Sim.addR])
    · rename_i hne
      rw [Tr.get_del] at hy
      split at hy
      · cases hy
      · rename_i hne2
        refine (hw.obj q y hy).keep le (fun c x y k => ⟨?_, hb c (fun e => hne2 (hw.inj r q b _ _ _ _ hr (e ▸ k)))⟩) (fun z k => ⟨k, hb z.b (fun e => hw.rt r b _ _ q z hr k e)⟩)
        simp only [Sim.addR, Sim.kill]
        rw [if_neg (fun e => hne e.symm), if_neg (fun e => hne2 e.symm)]
        exact k
  · rcases live k with ⟨rfl, rfl, _, _⟩ | ⟨_, h1, k⟩ <;> rcases live k' with ⟨rfl, h2, _, _⟩ | ⟨_, h2, k'⟩
    · rfl
    · exact absurd (hw.inj q' r _ _ _ _ _ k' hr) h2
    · exact absurd (hw.inj q r _ _ _ _ _ (h2 ▸ k) hr) h1
    · exact hw.inj q q' c _ _ _ _ k k'
  · rcases live k with ⟨_, rfl, _, _⟩ | ⟨_, h1, k⟩
    · exact hw.rt r _ _ _ t z hr hz
    · exact hw.rt q c _ _ t z k hz
  · have hc := hw.Fc c o v k
    have hne : c ≠ b := fun e => hw.Fr c o v r base lim k (e ▸ hr)
    unfold World.cell? at *
    simp only at *
    rw [hb c hne]
    exact hc
  · rcases live hq with ⟨_, rfl, _, _⟩ | ⟨_, h1, hq⟩
    · exact hw.Fr _ o v r base lim k hr
    · exact hw.Fr c o v q x y k hq
  · simp only [Heap.new, Heap.rem] at k
    simp only [Sim.addR, Sim.kill]
    rw [if_neg (by omega), if_neg (by omega)]
    exact hw.nr q (by omega)
  · simp only [Heap.get, Heap.new, Heap.rem] at *
    rw [Tr.get_put, if_neg (by omega), Tr.get_del]
    split
    · rfl
    · exact hw.no q (by omega)

/-- an object's block is written no more -/
theorem seal_obj (hw : WRel G S h w) {r b base lim lo : Nat} {l : List Value} (hr : S.ρ r = .live b base lim) (hl : Row w b lo l) :
    Ext S w ((S.kill r).shut0 b lo l) w ∧ WRel G ((S.kill r).shut0 b lo l) (h.rem r) w := by
  obtain ⟨x1, x2⟩ := kill_obj hw hr
  have hF0 : ∀ o, S.F b o = none := fun o => by
    cases k : S.F b o with
    | none => rfl
    | some v => exact absurd hr (hw.Fr b o v r base lim k)
  have le2 : SimLe (S.kill r) ((S.kill r).shut0 b lo l) := ⟨fun x => .inl rfl, fun t z hz => ⟨z, hz, Nat.le_refl _, fun _ => rfl⟩, fun c o v k => by
    simp only [Sim.shut0]
    split
    · rename_i h1
      have : S.F b o = some v := by rw [← h1.1]; exact k
      rw [hF0] at this; cases this
    · exact k⟩
  have own : Owns S b := .inl ⟨r, _, _, hr⟩
  refine ⟨⟨x1.le.trans le2, Nat.le_refl _, fun _ _ _ => rfl, fun c k => x1.owns c k, fun c o k => ?_, rfl, rfl, rfl⟩, ?_⟩
  · simp only [Sim.shut0] at k
    split at k
    · rename_i h1; rw [h1.1]; exact .inr (.inl own)
    · exact .inl k
  · refine ⟨fun q y hy => (x2.obj q y hy).keep le2 (fun c x y k => ⟨k, rfl⟩) (fun z k => ⟨k, rfl⟩), x2.inj, x2.tinj, x2.rt, x2.ob, fun c o v k => ?_, fun c o v q x y k hq => ?_, fun c o v t z k hz hb => ?_, x2.nr, x2.nt, x2.no, fun g l k => (x2.gl g l k).mono le2 _ _ _⟩
    · simp only [Sim.shut0] at k
      split at k
      · rename_i h1
        obtain ⟨rfl, h1⟩ := h1
        have := hl _ v k
        rwa [show lo + (o - lo) = o by omega] at this
      · exact x2.Fc c o v k
    · simp only [Sim.shut0] at k
      split at k
      · rename_i h1
        obtain ⟨rfl, h1⟩ := h1
        have hq' := kill_live (S := S) (r := r) hq
        exact hq'.1 (hw.inj q r _ _ _ _ _ hq'.2 hr)
      · exact x2.Fr c o v q x y k hq
    · simp only [Sim.shut0] at k
      split at k
      · rename_i h1
        obtain ⟨rfl, h1⟩ := h1
        exact absurd hb (hw.rt r _ _ _ t z hr hz)
      · exact x2.Ft c o v t z k hz hb

end
end Go.AM

set_option linter.unusedVariables false
set_option linter.unusedSimpArgs false
namespace Go.AM
open Go
section
variable {P : Program} {G : GTab} {A : Ann} {S S' : Sim} {e : Env} {h h' : Heap} {a : Act} {w w' : World}

/-! ### append -/

structure Reads (P : Program) (w : World) (el : TypeId) (x : Value) (n : Nat) (news : List Value) : Prop where
  len : ∀ w', (Builtin.lenOf x).run P w' = .ok n w'
  cells : ∀ w', w'.heap = w.heap → (Builtin.firstCells (P.cellsOf el) n x).run P w' = .ok news.toArray w'

theorem Row.heap {b o : Nat} {l : List Value} (hr : Row w b o l) (e : w'.heap = w.heap) : Row w' b o l := fun i v hv => by
  have := hr i v hv
  unfold World.cell? at *
  rw [e]; exact this

theorem reads_slice {el : TypeId} {base : Option Addr} {n cap : Nat} {news : List Value} (hl : news.length = n * P.cellsOf el) (h : n = 0 ∨ ∃ b o, base = some ⟨b, o, none⟩ ∧ Row w b o news) : Reads P w el (.slice base n cap) n news := by
  refine ⟨fun w' => rfl, fun w' hw' => ?_⟩
  rcases h with rfl | ⟨b, o, rfl, hr⟩
  · have : news = [] := by simpa using hl
    subst this
    cases base with
    | none => exact run_firstCells_none _ _ _ _ _
    | some ad => exact run_firstCells_some (P := P) w' _ 0 ad 0 cap [] (by simp) (fun j v hj => by simp at hj)
  · exact run_firstCells_some (P := P) w' _ n _ n cap news hl (row_add (hr.heap hw'))

theorem reads_string {el : TypeId} {s : List UInt8} : Reads P w el (.string ⟨s.toArray⟩) s.length (s.map fun b => .int .u8 b.toNat) := by
  have e1 : (ByteArray.mk s.toArray).size = s.length := by simp [ByteArray.size]
  refine ⟨fun w' => by simp [Builtin.lenOf, e1], fun w' _ => ?_⟩
  simp only [Builtin.firstCells, extract_list, Sem.run_pure]
  congr 1
  simp

theorem run_append_room {t u el : TypeId} {du : TypeDesc} {ts : Array TypeId} {ty : TypeId} {base : Option Addr} {sLen sCap n : Nat} {x : Value} {news : List Value} (h0 : ts[0]? = some t) (h1 : ts[1]? = some u) (ht : P.underlying t = some (.slice el)) (hu : P.underlying u = some du)
    (hd : ∀ k, du ≠ .int k) (hi : (P.info? el).isSome = true) (hx : Reads P w el x n news) (hroom : sLen + n ≤ sCap) (hst : match base with | some ad => (storeCells (ad.add (sLen * P.cellsOf el)) news).run P w = .ok () w' | none => w' = w) :
    (Builtin.append_ ts ty #[.slice base sLen sCap, x]).run P w = .ok (.slice base (sLen + n) sCap) w' := by
  have hz : (match du with | .int _ => true | _ => false) = false := by cases du <;> first | rfl | exact absurd rfl (hd _)
  simp only [Builtin.append_, h0, h1]
  simp only [List.getElem?_toArray, List.getElem?_cons_zero, List.getElem?_cons_succ, Sem.run_bind, run_underlying ht, run_underlying hu, Result.andThen_ok, run_sz hi, Sem.run_pure]
  simp only [Bool.false_eq_true, if_false, Sem.run_bind, hx.len, Result.andThen_ok, if_pos hroom, Bool.not_false, if_true, hx.cells _ rfl]
  cases base with
  | none => simp only at hst; subst hst; rfl
  | some ad => simp only at hst; simp only [Sem.run_bind, hst, Result.andThen_ok, Sem.run_pure]

theorem run_append_new {t u el : TypeId} {du : TypeDesc} {ts : Array TypeId} {ty : TypeId} {base : Option Addr} {sLen sCap n : Nat} {x : Value} {olds news : List Value} (h0 : ts[0]? = some t) (h1 : ts[1]? = some u) (ht : P.underlying t = some (.slice el)) (hu : P.underlying u = some du)
    (hd : ∀ k, du ≠ .int k) {i : TypeInfo} {z : Value} (hi : P.info? el = some i) (hz : i.zero = some z) (hzs : z.cells.size = i.size) (ho : Reads P w el (.slice base sLen sCap) sLen olds) (hlo : olds.length = sLen * i.size) (hx : Reads P w el x n news) (hln : news.length = n * i.size)
    (hgrow : sCap < sLen + n) (hfit : (sLen + n) * i.bytes ≤ 140737488355328) (h63 : sLen + n ≤ 9223372036854775807) :
    ∃ cap c w', (Builtin.append_ ts ty #[.slice base sLen sCap, x]).run P w = .ok (.slice (some ⟨w.heap.size, 0, none⟩) (sLen + n) cap) w' ∧ sLen + n ≤ cap ∧ w'.heap = w.heap.push (.cells c el) ∧ w'.os = w.os ∧ w'.tape = w.tape ∧ w'.output = w.output ∧
      c.size = cap * i.size ∧ ∀ (j : Nat) v, (olds ++ news)[j]? = some v → c[j]? = some v := by
  have hi' : (P.info? el).isSome = true := by rw [hi]; rfl
  have hsz : P.cellsOf el = i.size := by simp [Program.cellsOf, hi]
  have hnr : ¬ (sLen + n ≤ sCap) := by omega
  have h63' : ¬ (((sLen + n : Nat) : Int) > IntKind.i64.max ∧ (False ∨ i.bytes = 0)) := fun k => by
    have := k.1
    have e : IntKind.i64.max = 9223372036854775807 := rfl
    rw [e] at this
    omega
  have hf := growslice_fits (bytes := i.bytes) hgrow hfit
  have h48 : ¬ (Builtin.nextslicecap (sLen + n) sCap * i.bytes > 2 ^ 48) := by omega
  generalize hcap : grownCap w (sLen + n) sCap el = cap
  have hge : sLen + n ≤ cap := by rw [← hcap]; simp [grownCap, Question.cut]
  have hty : ∀ w' : World, (typeInfo el).run P w' = .ok i w' := fun w' => by simp [typeInfo, hi]
  have hch : (choose (.appendCap (sLen + n) sCap el)).run P w = .ok cap { w with drawn := w.drawn + 1 } := by
    rw [← hcap]; rfl
  let c : Array Value := olds.toArray ++ news.toArray ++ Builtin.zeroCells z.cells (cap - (sLen + n))
  refine ⟨cap, c, { w with heap := w.heap.push (.cells c el), drawn := w.drawn + 1 }, ?_, hge, rfl, rfl, rfl, rfl, ?_, fun j v hv => ?_⟩
  · simp only [Builtin.append_, h0, h1]
    simp only [List.getElem?_toArray, List.getElem?_cons_zero, List.getElem?_cons_succ, Sem.run_bind, run_underlying ht, run_underlying hu, Result.andThen_ok, run_sz hi', Sem.run_pure]
    simp only [Bool.false_eq_true, if_false, Sem.run_bind, hx.len, Result.andThen_ok, if_neg hnr, hty, if_neg h63', if_neg h48, hch, Go.run_askRoom, ho.cells { w with drawn := w.drawn + 1 } rfl, Bool.not_false, if_true, hx.cells { w with drawn := w.drawn + 1 } rfl, run_zero hi hz, newRow, newObj, Sem.run, Sem.run_pure]
    rfl
  · simp only [c, Array.size_append, List.size_toArray, Builtin.zeroCells, Array.size_map, Array.size_range, hzs, hlo, hln, ← Nat.add_mul]
    congr 1
    omega
  · have hj := (List.getElem?_eq_some_iff.1 hv).1
    have e1 : olds.toArray ++ news.toArray = (olds ++ news).toArray := by simp
    show (olds.toArray ++ news.toArray ++ Builtin.zeroCells z.cells (cap - (sLen + n)))[j]? = some v
    rw [e1, Array.getElem?_append_left (by simpa using hj)]
    simpa using hv

end
end Go.AM

set_option linter.unusedVariables false
set_option linter.unusedSimpArgs false
namespace Go.AM
open Go
section
variable {P : Program} {G : GTab} {A : Ann} {S S' : Sim} {e : Env} {h h' : Heap} {a : Act} {w w' : World}

/-- a token's array is grown elsewhere -/
theorem regrow_tok (hw : WRel G S h w) {c : Array Value} {el : TypeId} {fr : Nat × Nat} (e : w'.heap = w.heap.push (.cells c el fr)) (eo : w'.os = w.os) (et : w'.tape = w.tape) (eu : w'.output = w.output)
    {t : Nat} {z : Tok} (hz : S.tk t = some z) (hg : h.get t = some (.tip z.e z.sz)) {cs : List Value} {n cap : Nat} (hn : 0 < n) (hc : ∀ (i : Nat) (v : Value), cs[i]? = some v → c[i]? = some v) (hl : cs.length ≤ cap * z.sz) (hcap : cap * z.sz ≤ c.size) (hfr : Thaw fr cs.length (cap * z.sz)) :
    Ext S w ((S.addF w.heap.size cs).addT t ⟨z.e + n, w.heap.size, cs.length, cap * z.sz, z.sz⟩) w' ∧
    WRel G ((S.addF w.heap.size cs).addT t ⟨z.e + n, w.heap.size, cs.length, cap * z.sz, z.sz⟩) (h.set t (.tip (z.e + n) z.sz)) w' := by
  obtain ⟨x1, x2⟩ := new_imm hw e eo et eu hc
  have htn := tk_next hw hz
  have hzo : z.b < w.heap.size := hw.ob z.b (.inr ⟨t, z, hz, rfl⟩)
  generalize hS1 : S.addF w.heap.size cs = S1 at *
  have hT : S.tk = S1.tk := by rw [← hS1]; rfl
  have hR : S.ρ = S1.ρ := by rw [← hS1]; rfl
  have hz1 : S1.tk t = some z := by rw [← hT]; exact hz
  generalize hz' : (⟨z.e + n, w.heap.size, cs.length, cap * z.sz, z.sz⟩ : Tok) = z'
  have hze : z'.e = z.e + n := by rw [← hz']
  have le : SimLe S1 (S1.addT t z') := ⟨fun r => .inl rfl, fun q y hy => by
    by_cases hq : q = t
    · subst hq
      rw [hz1] at hy; cases hy
      exact ⟨z', by simp [Sim.addT], by omega, fun e => by omega⟩
    · exact ⟨y, by simp only [Sim.addT]; rw [if_neg hq]; exact hy, Nat.le_refl _, fun _ => rfl⟩, fun b o v k => k⟩
  have hsz : w'.heap.size = w.heap.size + 1 := by rw [e]; simp
  have hzb : z'.b = w.heap.size := by rw [← hz']
  have old : ∀ b, Owns S1 b → b < w.heap.size := fun b k => by
    refine hw.ob b ?_
    rcases k with ⟨r, x, y, k⟩ | ⟨t, y, k, k2⟩
    · exact .inl ⟨r, x, y, by rw [hR]; exact k⟩
    · exact .inr ⟨t, y, by rw [hT]; exact k, k2⟩
  have owns : ∀ b, Owns (S1.addT t z') b → Owns S1 b ∨ b = w.heap.size := fun b k => by
    rcases k with ⟨r, x, y, k⟩ | ⟨q, y, k, hb⟩
    · exact .inl (.inl ⟨r, x, y, k⟩)
    · simp only [Sim.addT] at k
      split at k
      · cases k; exact .inr (hb ▸ hzb)
      · exact .inl (.inr ⟨q, y, k, hb⟩)
  have ext2 : Ext S w (S1.addT t z') w' := by
    refine ⟨x1.le.trans le, x1.size, x1.same, fun b k => ?_, fun b o k => x1.F b o k, x1.os, x1.tape, x1.output⟩
    rcases owns b k with k | k
    · exact x1.owns b k
    · exact .inr (by omega)
  refine ⟨ext2, fun r x hx => ?_, x2.inj, fun t t' y y' k k' hyy => ?_, fun r b x y q u k hq => ?_, fun b k => ?_, x2.Fc, x2.Fr, fun b o v q y k hy hb => ?_, fun r k => x2.nr r k, fun q k => ?_, fun r k => ?_, fun g l k => (x2.gl g l k).mono le _ _ _⟩
  · simp only [Heap.get, Heap.set] at hx
    rw [Tr.get_put] at hx
    split at hx
    · rename_i k
      subst k
      cases hx
      refine ⟨z', by simp [Sim.addT], by rw [← hz'], by rw [← hz'], c, el, fr, by rw [hzb]; exact cell_new e, by rw [← hz']; exact hl, by rw [← hz']; exact hcap, by rw [← hz']; exact hfr⟩
    · rename_i hne
      exact (x2.obj r x hx).keep le (fun b base lim k => ⟨k, rfl⟩) (fun q k => ⟨by simp only [Sim.addT]; rw [if_neg (fun e => hne e.symm)]; exact k, rfl⟩)
  · simp only [Sim.addT] at k k'
    split at k <;> split at k'
    · simp_all
    · cases k
      have := old y'.b (.inr ⟨t', y', k', rfl⟩)
      omega
    · cases k'
      have := old y.b (.inr ⟨t, y, k, rfl⟩)
      omega
    · exact x2.tinj t t' y y' k k' hyy
  · simp only [Sim.addT] at k hq
    split at hq
    · cases hq
      have := old b (.inl ⟨r, x, y, k⟩)
      omega
    · exact x2.rt r b x y q u k hq
  · rcases owns b k with k | k
    · have := old b k; omega
    · omega
  · simp only [Sim.addT] at hy k
    split at hy
    · cases hy
      subst hb
      rw [hzb] at k
      rw [← hS1] at k
      simp only [Sim.addF, if_true] at k
      have := (List.getElem?_eq_some_iff.1 k).1
      rw [← hz']; exact this
    · exact x2.Ft b o v q y k hy hb
  · simp only [Heap.set] at k
    simp only [Sim.addT]
    rw [if_neg (by omega)]
    exact x2.nt q k
  · simp only [Heap.set, Heap.get] at *
    rw [Tr.get_put, if_neg (by omega)]
    exact x2.no r k

theorem er_cells (v : AV) : v.er.cells = v.cells.map AV.er1 := by
  cases v <;> simp [AV.er, AV.er1, AV.cells]
theorem er_flat : ∀ (ys : List AV), (ys.map AV.er).flatMap AV.cells = (ys.flatMap AV.cells).map AV.er1
  | [] => rfl
  | y :: ys => by simp [er_cells, er_flat ys]

/-- what is appended -/
theorem src_rel {el : TypeId} {st : Bool} {v : AV} {ys : List AV} {c : Value} (hw : WRel G S h w) (hv : VRel S v c) (hs : srcElems h (P.cellsOf el) (aggT P el) st v = some ys) (hst : st = true → P.cellsOf el = 1) (hsc : allScal ys = true) :
    ∃ news, Reads P w el c ys.length news ∧ news.length = ys.length * P.cellsOf el ∧ VRelL S ((ys.map AV.er).flatMap AV.cells) news ∧ (∀ y ∈ ys.map AV.er, y.cells.length = P.cellsOf el) ∧ ∀ u ∈ news, u.oneCell' = true := by
  have one : ∀ {news : List Value}, VRelL S (ys.flatMap AV.cells) news → ∀ u ∈ news, u.oneCell' = true := fun {news} hr u hu => by
    obtain ⟨i, hi⟩ := List.mem_iff_getElem?.1 hu
    have hl := hr.len
    have hil : i < (ys.flatMap AV.cells).length := by have := (List.getElem?_eq_some_iff.1 hi).1; omega
    obtain ⟨c', e1, e2⟩ := hr.get i (ys.flatMap AV.cells)[i] (by simp [hil])
    rw [e1] at hi; cases hi
    refine oneCell_of e2 ?_
    have hm := List.getElem_mem hil
    obtain ⟨y, hy, hyc⟩ := List.mem_flatMap.1 hm
    simp only [allScal, List.all_eq_true] at hsc
    exact hsc y hy _ hyc
  have fin : ∀ {news : List Value}, Reads P w el c ys.length news → VRelL S (ys.flatMap AV.cells) news → (∀ y ∈ ys, y.cells.length = P.cellsOf el) →
      ∃ news, Reads P w el c ys.length news ∧ news.length = ys.length * P.cellsOf el ∧ VRelL S ((ys.map AV.er).flatMap AV.cells) news ∧ (∀ y ∈ ys.map AV.er, y.cells.length = P.cellsOf el) ∧ ∀ u ∈ news, u.oneCell' = true := fun {news} h1 h2 h3 => by
    refine ⟨news, h1, by rw [h2.len, flat_len h3], by rw [er_flat]; exact h2.er1, fun y hy => ?_, one h2⟩
    simp only [List.mem_map] at hy
    obtain ⟨y', hy', rfl⟩ := hy
    rw [er_cells_scal]
    exact h3 y' hy'
  unfold srcElems at hs
  split at hs
  · rename_i hst'
    split at hs
    · rename_i s
      cases hs
      simp only [VRel] at hv
      subst hv
      refine fin (by rw [List.length_map]; exact reads_string) ?_ (fun y hy => ?_)
      · clear fin one hsc
        induction s with
        | nil => simp only [List.map_nil, List.flatMap_nil]; exact .nil
        | cons b bs ih =>
          simp only [List.map_cons, List.flatMap_cons, AV.cells, List.singleton_append]
          exact ih.cons (by simp only [VRel])
      · simp only [List.mem_map] at hy
        obtain ⟨b, _, rfl⟩ := hy
        rw [hst hst']; rfl
    · cases hs
  · obtain ⟨q1, base, cap, rfl, hl, hq⟩ := elems_rel hw hv hs
    rcases hq with rfl | ⟨b, o, l, rfl, g1, g2⟩
    · exact fin (reads_slice (news := []) (by simp) (.inl rfl)) (by simp only [List.flatMap_nil]; exact .nil) q1
    · exact fin (reads_slice (by rw [g2.len, flat_len q1]) (.inr ⟨b, o, rfl, g1⟩)) g2 q1

end
end Go.AM

set_option linter.unusedVariables false
set_option linter.unusedSimpArgs false
namespace Go.AM
open Go
section
variable {P : Program} {G : GTab} {A : Ann} {S S' : Sim} {e : Env} {h h' : Heap} {a : Act} {w w' : World}

/-- the answer of an operation that gives a value -/
def OutV (P : Program) (G : GTab) (S : Sim) (w : World) (h' : Heap) (v : AV) (s : Sem Value) : Prop :=
  ∃ c w' S', s.run P w = .ok c w' ∧ Ext S w S' w' ∧ WRel G S' h' w' ∧ VRel S' v c

/-- what an append is about -/
structure AppCtx (P : Program) (S : Sim) (w : World) (t u el : TypeId) (du : TypeDesc) (ts : Array TypeId) (i : TypeInfo) (z : Value) (x : Value) (ys : List AV) (news : List Value) (m : Nat) : Prop where
  h0 : ts[0]? = some t
  h1 : ts[1]? = some u
  ht : P.underlying t = some (.slice el)
  hu : P.underlying u = some du
  hd : ∀ k, du ≠ .int k
  hi : P.info? el = some i
  hz : i.zero = some z
  hzs : z.cells.size = i.size
  sz1 : 1 ≤ i.size
  by1 : i.bytes ≤ 65536
  rd : Reads P w el x ys.length news
  nl : news.length = ys.length * i.size
  nr : VRelL S (ys.flatMap AV.cells) news
  ysz : ∀ y ∈ ys, y.cells.length = i.size
  one : ∀ u ∈ news, u.oneCell' = true
  ok : ys.length + m < 2 ^ 30

variable {t u el : TypeId} {du : TypeDesc} {ts : Array TypeId} {ty : TypeId} {i : TypeInfo} {z x : Value} {ys : List AV} {news : List Value}

theorem AppCtx.cs {m : Nat} (hx : AppCtx P S w t u el du ts i z x ys news m) : P.cellsOf el = i.size := by simp [Program.cellsOf, hx.hi]

theorem AppCtx.grow {sLen sCap : Nat} {base : Option Addr} {olds : List Value} (hx : AppCtx P S w t u el du ts i z x ys news sLen) (ho : Reads P w el (.slice base sLen sCap) sLen olds) (hlo : olds.length = sLen * i.size) (hg : sCap < sLen + ys.length) :
    ∃ cap c w', (Builtin.append_ ts ty #[.slice base sLen sCap, x]).run P w = .ok (.slice (some ⟨w.heap.size, 0, none⟩) (sLen + ys.length) cap) w' ∧ sLen + ys.length ≤ cap ∧ w'.heap = w.heap.push (.cells c el) ∧ w'.os = w.os ∧ w'.tape = w.tape ∧ w'.output = w.output ∧
      c.size = cap * i.size ∧ ∀ (j : Nat) v, (olds ++ news)[j]? = some v → c[j]? = some v := by
  have hok := hx.ok
  have hm : (sLen + ys.length) * i.bytes ≤ 2 ^ 30 * 65536 := Nat.mul_le_mul (by omega) hx.by1
  exact run_append_new (P := P) (w := w) hx.h0 hx.h1 hx.ht hx.hu hx.hd hx.hi hx.hz hx.hzs ho hlo hx.rd hx.nl hg (by omega) (by omega)

/-- nothing is appended -/
theorem app_none {sLen sCap : Nat} {base : Option Addr} {v : AV} (hx : AppCtx P S w t u el du ts i z x ys news sLen) (hw : WRel G S h w) (h0 : ys.length = 0) (hl : sLen ≤ sCap) (hv : VRel S v (.slice base sLen sCap)) :
    OutV P G S w h v (Builtin.append_ ts ty #[.slice base sLen sCap, x]) := by
  have hn : news = [] := by
    have := hx.nl
    rw [h0, Nat.zero_mul] at this
    exact List.length_eq_zero_iff.1 this
  have hrd := hx.rd
  rw [h0, hn] at hrd
  refine ⟨_, w, S, ?_, .refl S w, hw, hv⟩
  have := run_append_room (P := P) (w := w) (w' := w) (ty := ty) (base := base) (sLen := sLen) (sCap := sCap) hx.h0 hx.h1 hx.ht hx.hu hx.hd (by rw [hx.hi]; rfl) hrd (by omega) (by cases base <;> simp [storeCells])
  rw [this, Nat.add_zero]

/-- a new array that is written on -/
theorem app_newH {sLen sCap : Nat} {base : Option Addr} {olds : List Value} {xs : List AV} (hx : AppCtx P S w t u el du ts i z x ys news sLen) (hw : WRel G S h w) (ho : Reads P w el (.slice base sLen sCap) sLen olds) (hr : VRelL S xs olds) (hlo : olds.length = sLen * i.size)
    (hg : sCap < sLen + ys.length) {S0 : Sim} {h0 : Heap} (hk : Ext S w S0 w) (hw0 : WRel G S0 h0 w) (hn : h0.next = h.next) :
    OutV P G S w (h0.new (.cells (xs ++ ys.flatMap AV.cells))) (.hs h.next 0 (sLen + ys.length) i.size) (Builtin.append_ ts ty #[.slice base sLen sCap, x]) := by
  obtain ⟨cap, c, w', r1, r2, r3, r4, r5, r6, r7, r8⟩ := hx.grow (ty := ty) ho hlo hg
  have hrel : VRelL S (xs ++ ys.flatMap AV.cells) (olds ++ news) := hr.app hx.nr
  have hlen := hrel.len
  rw [show (olds ++ news).length = olds.length + news.length from List.length_append, hlo, hx.nl, ← Nat.add_mul] at hlen
  obtain ⟨x1, x2⟩ := new_cells hw0 r3 r4 r5 r6 (cs := xs ++ ys.flatMap AV.cells) (by rw [← hlen, r7]; exact Nat.mul_le_mul_right _ r2) (fun j v hv => by
    obtain ⟨cv, e1, e2⟩ := hrel.get j v hv
    exact ⟨cv, r8 j cv e1, e2.mono hk.le⟩) (thaw0 _ _)
  refine ⟨_, w', _, r1, hk.trans x1, x2, ?_⟩
  simp only [VRel, Sim.addR, hn, if_true]
  exact ⟨_, _, rfl, r2, fun _ => ⟨rfl, by rw [r7]; simp⟩⟩

/-- a new array that only grows -/
theorem app_newT {sLen sCap : Nat} {base : Option Addr} {olds : List Value} {xs : List AV} (hx : AppCtx P S w t u el du ts i z x ys news sLen) (hw : WRel G S h w) (ho : Reads P w el (.slice base sLen sCap) sLen olds) (hr : VRelL S (xs.flatMap AV.cells) olds) (hxs : ∀ x ∈ xs, x.cells.length = i.size) (hxl : xs.length = sLen) (hlo : olds.length = sLen * i.size)
    (hg : sCap < sLen + ys.length) :
    OutV P G S w (h.new (.tip (sLen + ys.length) i.size)) (.vs (.tok h.next (sLen + ys.length)) (xs ++ ys)) (Builtin.append_ ts ty #[.slice base sLen sCap, x]) := by
  obtain ⟨cap, c, w', r1, r2, r3, r4, r5, r6, r7, r8⟩ := hx.grow (ty := ty) ho hlo hg
  have hrel : VRelL S ((xs ++ ys).flatMap AV.cells) (olds ++ news) := by rw [List.flatMap_append]; exact hr.app hx.nr
  have hsz : ∀ y ∈ xs ++ ys, y.cells.length = i.size := fun y hy => by
    rcases List.mem_append.1 hy with hy | hy
    · exact hxs y hy
    · exact hx.ysz y hy
  have hl : (olds ++ news).length = (sLen + ys.length) * i.size := by rw [List.length_append, hlo, hx.nl, Nat.add_mul]
  obtain ⟨x1, x2⟩ := new_tok hw r3 r4 r5 r6 (cs := olds ++ news) (n := sLen + ys.length) (sz := i.size) (cap := cap) r8 (by rw [hl]; exact Nat.mul_le_mul_right _ r2) (by rw [r7]; exact Nat.le_refl _) (thaw0 _ _)
  refine ⟨_, w', _, r1, x1, x2, ?_⟩
  simp only [VRel]
  refine ⟨some ⟨w.heap.size, 0, none⟩, cap, by rw [List.length_append, hxl], by rw [List.length_append, hxl]; exact r2, ⟨⟨sLen + ys.length, w.heap.size, (olds ++ news).length, cap * i.size, i.size⟩, by simp [Sim.addT], Nat.le_refl _, fun _ _ => ⟨0, rfl, ?_, ?_⟩⟩, .inr ⟨_, _, i.size, rfl, hx.sz1, ?_⟩⟩
  · rw [hl, List.length_append, hxl, Nat.zero_add]
  · rw [Nat.zero_add]; exact Nat.le_refl _
  · refine imm_els hsz (hrel.mono x1.le) fun j v hv => ?_
    simp only [Sim.addT, Sim.addF, if_true]
    exact hv

/-- an array with room is written on -/
theorem app_roomH {sLen sCap r off b base lim : Nat} {ad : Addr} {cs : List AV} (hx : AppCtx P S w t u el du ts i z x ys news sLen) (hw : WRel G S h w) (hρ : S.ρ r = .live b base lim) (hg : h.get r = some (.cells cs)) (hfull : off + sLen * i.size = cs.length)
    (had : ad = ⟨b, base + off, none⟩) (hlim : base + off + sCap * i.size ≤ lim) (hroom : sLen + ys.length ≤ sCap) :
    OutV P G S w ((h.rem r).new (.cells (cs.drop off ++ ys.flatMap AV.cells))) (.hs h.next 0 (sLen + ys.length) i.size) (Builtin.append_ ts ty #[.slice (some ad) sLen sCap, x]) := by
  obtain ⟨b', base', lim', hr', c, ell, fr, hb, k1, k2, k3, k4⟩ := hw.obj r _ hg
  rw [hρ] at hr'; cases hr'
  have hmul : (sLen + ys.length) * i.size ≤ sCap * i.size := Nat.mul_le_mul_right _ hroom
  rw [Nat.add_mul] at hmul
  have hnl := hx.nl
  obtain ⟨w', c', r1, r2, r3, r4⟩ := run_storeCells_own (P := P) news 0 (base + off + sLen * i.size) c w hb (by omega) hx.one (fun j j1 j2 => k3 j (by omega) (by omega))
  have hrun := run_append_room (P := P) (w := w) (w' := w') (ty := ty) (base := some ad) (sLen := sLen) (sCap := sCap) hx.h0 hx.h1 hx.ht hx.hu hx.hd (by rw [hx.hi]; rfl) hx.rd hroom (by
    simp only [had, add_none, hx.cs]
    exact r1)
  obtain ⟨x1, x2⟩ := move_obj (h := h) (x' := .cells (cs.drop off ++ ys.flatMap AV.cells)) (base' := base + off) (lim' := lim) hw hρ r2.size r2.else_ r2.os r2.tape r2.output (fun S' le hr' => by
    refine ⟨b, base + off, lim, hr', c', ell, fr, r2.now, ?_, by rw [r2.csize]; exact k2, fun o h1 h2 => k3 o (by omega) h2, fun j v hv => ?_⟩
    · rw [List.length_append, flat_len hx.ysz, List.length_drop]; omega
    · by_cases hj : j < cs.length - off
      · rw [List.getElem?_append_left (by simpa using hj), List.getElem?_drop] at hv
        obtain ⟨cv, e1, e2⟩ := k4 _ v hv
        exact ⟨cv, by rw [r4 _ (by omega), ← e1]; congr 1; omega, e2.mono le⟩
      · rw [List.getElem?_append_right (by simp; omega), List.length_drop] at hv
        obtain ⟨cv, e1, e2⟩ := hx.nr.get _ v hv
        refine ⟨cv, ?_, e2.mono le⟩
        have := r3 _ cv e1
        rw [← this]; congr 1; omega)
  refine ⟨_, w', _, hrun, x1, x2, ?_⟩
  simp only [VRel, Sim.addR, if_true]
  exact ⟨_, _, rfl, hroom, fun _ => ⟨by rw [had]; rfl, by rw [Nat.add_zero]; exact hlim⟩⟩

theorem els_sz {sz : Nat} {xs : List AV} {b o sz' : Nat} (hE : VEls S xs b o sz') (hd : hdSz sz xs = true) (hne : xs ≠ []) : sz' = sz := by
  cases xs with
  | nil => exact absurd rfl hne
  | cons x xs =>
    rw [VEls.cons] at hE
    simp only [hdSz, beq_iff_eq] at hd
    rw [← hE.1, hd]

/-- the cells of a slice that nobody writes -/
theorem vs_reads {c : Cap} {xs : List AV} {base : Option Addr} {cap sz : Nat} (hw : WRel G S h w) (hE : xs = [] ∨ ∃ b o sz, base = some ⟨b, o, none⟩ ∧ 1 ≤ sz ∧ VEls S xs b o sz) (hd : hdSz sz xs = true) (hsz : P.cellsOf el = sz) :
    ∃ olds, Reads P w el (.slice base xs.length cap) xs.length olds ∧ VRelL S (xs.flatMap AV.cells) olds ∧ olds.length = xs.length * sz ∧ ∀ x ∈ xs, x.cells.length = sz := by
  by_cases hne : xs = []
  · subst hne
    exact ⟨[], reads_slice (by simp) (.inl rfl), by simp only [List.flatMap_nil]; exact .nil, by simp, by simp⟩
  · rcases hE with rfl | ⟨b, o, sz', rfl, _, hE⟩
    · exact absurd rfl hne
    · have := els_sz hE hd hne
      subst this
      rw [VEls.flat] at hE
      obtain ⟨l, g1, g2⟩ := mem_row hw hE.2
      have hl : l.length = xs.length * sz' := by rw [g1.len, flat_len hE.1]
      exact ⟨l, reads_slice (by rw [hl, hsz]) (.inr ⟨b, o, rfl, g2⟩), g1, hl, hE.1⟩

/-- an array that only grows, in its place or elsewhere -/
theorem app_tok {sCap tk e0 : Nat} {base : Option Addr} {xs : List AV} (hx : AppCtx P S w t u el du ts i z x ys news xs.length) (hw : WRel G S h w) (hg : h.get tk = some (.tip e0 i.size)) (hd : hdSz i.size xs = true) (hn : 0 < ys.length)
    (hv : VRel S (.vs (.tok tk e0) xs) (.slice base xs.length sCap)) :
    OutV P G S w (h.set tk (.tip (e0 + ys.length) i.size)) (.vs (.tok tk (e0 + ys.length)) (xs ++ ys)) (Builtin.append_ ts ty #[.slice base xs.length sCap, x]) := by
  simp only [VRel] at hv
  obtain ⟨base', cap', hc, hl, ⟨zt, hzt, hle, hcap⟩, hE⟩ := hv
  cases hc
  obtain ⟨zt', hzt', he, hsz, c, ell, fr, hb, k1, k2, k3⟩ := hw.obj tk _ hg
  rw [hzt] at hzt'; cases hzt'
  obtain ⟨olds, o1, o2, o3, o4⟩ := vs_reads (P := P) (c := .unk) (cap := sCap) hw hE hd hx.cs
  have hmul : ∀ n, n + 0 = n := fun n => rfl
  by_cases hroom : xs.length + ys.length ≤ sCap
  · obtain ⟨o, hbase, f1, f2⟩ := hcap he.symm (by omega)
    subst hbase
    rw [hsz] at f1 f2
    have hmul : (xs.length + ys.length) * i.size ≤ sCap * i.size := Nat.mul_le_mul_right _ hroom
    rw [Nat.add_mul] at hmul
    have hnl := hx.nl
    obtain ⟨w', c', r1, r2, r3, r4⟩ := run_storeCells_own (P := P) news 0 (o + xs.length * i.size) c w hb (by omega) hx.one (fun j j1 j2 => k3 j (by omega) (by omega))
    have hrun := run_append_room (P := P) (w := w) (w' := w') (ty := ty) (base := some ⟨zt.b, o, none⟩) (sLen := xs.length) (sCap := sCap) hx.h0 hx.h1 hx.ht hx.hu hx.hd (by rw [hx.hi]; rfl) hx.rd hroom (by
      simp only [add_none, hx.cs]
      exact r1)
    have hg' : h.get tk = some (.tip zt.e zt.sz) := by rw [he, hsz]; exact hg
    obtain ⟨x1, x2⟩ := upd_tok (n := ys.length) (cs := news) hw hzt hg' (by omega) hb r2.now r2.size r2.else_ r2.os r2.tape r2.output r2.csize (fun j hj => r4 j (by omega)) (fun j v hv => by
      have := r3 j v hv
      rw [← this]; congr 1; omega) k2 k3 hn _ rfl
    rw [he, hsz] at x2
    refine ⟨_, w', _, hrun, x1, x2, ?_⟩
    simp only [VRel]
    refine ⟨_, sCap, by rw [List.length_append], by rw [List.length_append]; exact hroom, ⟨⟨zt.e + ys.length, zt.b, zt.fin + news.length, zt.lim, zt.sz⟩, by simp [Sim.growT], by simp only; omega, fun _ _ => ⟨o, rfl, ?_, ?_⟩⟩, .inr ⟨_, o, i.size, rfl, hx.sz1, ?_⟩⟩
    · simp only [List.length_append, hsz, Nat.add_mul]; omega
    · simp only [hsz]; omega
    · rw [VEls.app]
      constructor
      · by_cases hne : xs = []
        · subst hne; exact .nil
        · rcases hE with rfl | ⟨b, o', sz', hbb, _, hE⟩
          · exact absurd rfl hne
          · cases hbb
            have := els_sz hE hd hne
            subst this
            exact VEls.mono x1.le _ _ _ _ hE
      · rw [f1, VEls.flat]
        refine ⟨hx.ysz, .of fun j v hv => ?_⟩
        obtain ⟨cv, e1, e2⟩ := hx.nr.get j v hv
        refine ⟨cv, ?_, e2.mono x1.le⟩
        simp only [Sim.growT]
        rw [if_pos (by simp)]
        simpa using e1
  · obtain ⟨cap, c2, w', r1, r2, r3, r4, r5, r6, r7, r8⟩ := hx.grow (ty := ty) o1 o3 (by omega)
    have hrel : VRelL S ((xs ++ ys).flatMap AV.cells) (olds ++ news) := by rw [List.flatMap_append]; exact o2.app hx.nr
    have hsz' : ∀ y ∈ xs ++ ys, y.cells.length = i.size := fun y hy => by
      rcases List.mem_append.1 hy with hy | hy
      · exact o4 y hy
      · exact hx.ysz y hy
    have hl : (olds ++ news).length = (xs.length + ys.length) * i.size := by rw [List.length_append, o3, hx.nl, Nat.add_mul]
    have hg' : h.get tk = some (.tip zt.e zt.sz) := by rw [he, hsz]; exact hg
    obtain ⟨x1, x2⟩ := regrow_tok hw r3 r4 r5 r6 hzt hg' (cs := olds ++ news) (n := ys.length) (cap := cap) hn r8 (by rw [hl, hsz]; exact Nat.mul_le_mul_right _ r2) (by rw [r7, hsz]; exact Nat.le_refl _) (thaw0 _ _)
    rw [he, hsz] at x1 x2
    refine ⟨_, w', _, r1, x1, x2, ?_⟩
    simp only [VRel]
    refine ⟨some ⟨w.heap.size, 0, none⟩, cap, by rw [List.length_append], by rw [List.length_append]; exact r2, ⟨⟨e0 + ys.length, w.heap.size, (olds ++ news).length, cap * i.size, i.size⟩, by simp [Sim.addT], Nat.le_refl _, fun _ _ => ⟨0, rfl, ?_, ?_⟩⟩, .inr ⟨_, _, i.size, rfl, hx.sz1, ?_⟩⟩
    · rw [hl, List.length_append, Nat.zero_add]
    · rw [Nat.zero_add]; exact Nat.le_refl _
    · refine imm_els hsz' (hrel.mono x1.le) fun j v hv => ?_
      simp only [Sim.addT, Sim.addF, if_true]
      exact hv

end
end Go.AM

set_option linter.unusedVariables false
set_option linter.unusedSimpArgs false
namespace Go.AM
open Go
section
variable {P : Program} {G : GTab} {A : Ann} {S S' : Sim} {e : Env} {h h' : Heap} {a : Act} {w w' : World}

theorem OutV.out {o : Oper} {s : Sem Value} {v : AV} (ho : OutV P G S w h' v s) (he : (execOp a.eval o).run P w = (do pure (Next.value (← s)) : Sem Next).run P w) : Out P G S w h' v (execOp a.eval o) := by
  obtain ⟨c, w', S', h1, h2, h3, h4⟩ := ho
  exact ⟨c, w', S', .inl (by rw [he]; exact run_v h1), h2, h3, h4⟩

theorem app_any {t u el : TypeId} {du : TypeDesc} {ts : Array TypeId} {ty : TypeId} {i : TypeInfo} {z x cv : Value} {ys : List AV} {news : List Value} {hp ag : Bool} {av v : AV} {h2 : Heap} (hx : AppCtx P S w t u el du ts i z x ys news ((slen av).getD 0)) (hw : WRel G S h w) (hv : VRel S av cv)
    (hap : appendV h i.size ag hp av ys = some (v, h2)) : OutV P G S w h2 v (Builtin.append_ ts ty #[cv, x]) := by
  have nilR : Reads P w el (.slice none 0 0) 0 [] := reads_slice (by simp) (.inl rfl)
  unfold appendV at hap
  simp only at hap
  split at hap
  · rename_i hhp
    cases av <;> try simp only [reduceCtorEq] at hap
    · -- nil
      simp only [VRel] at hv
      subst hv
      split at hap
      · rename_i h0
        cases hap
        exact app_none hx hw h0 (Nat.le_refl _) (by simp only [VRel])
      · rename_i h0
        cases hap
        have := app_newH (ty := ty) (xs := []) hx hw nilR .nil (by simp [slen]) (show 0 < 0 + ys.length by omega) (.refl S w) hw rfl
        simpa [slen] using this
    · -- a value
      rename_i c xs
      cases c <;> try simp only [reduceCtorEq] at hap
      split at hap
      · rename_i h0
        cases hap
        have hv' := hv
        simp only [VRel] at hv
        obtain ⟨base, cap, rfl, hl, _, _⟩ := hv
        exact app_none hx hw h0 hl hv'
      · rename_i h0
        split at hap
        · rename_i hd
          cases hap
          have hv' := hv
          simp only [VRel] at hv
          obtain ⟨base, cap, rfl, hl, hcap, hE⟩ := hv
          simp only [CapOk] at hcap
          subst hcap
          obtain ⟨olds, o1, o2, o3, o4⟩ := vs_reads (P := P) (c := .unk) (cap := xs.length) hw hE hd hx.cs
          have := app_newH (ty := ty) (xs := xs.flatMap AV.cells) hx hw o1 o2 o3 (show xs.length < xs.length + ys.length by omega) (.refl S w) hw rfl
          rw [List.flatMap_append]
          exact this
        · cases hap
    · -- an array that is written
      rename_i r off m sz'
      split at hap
      · rename_i cs hg
        obtain ⟨b, base, lim, l, hρ, g1, g2⟩ := obj_row hw hg
        have hv' := hv
        simp only [VRel, hρ] at hv
        obtain ⟨ad, cap, rfl, hl, hk⟩ := hv
        split at hap
        · rename_i h0
          cases hap
          exact app_none hx hw h0 hl hv'
        · rename_i h0
          split at hap
          · rename_i hc
            obtain ⟨rfl, hc⟩ := hc
            cases hap
            by_cases hroom : m + ys.length ≤ cap
            · obtain ⟨had, hlim⟩ := hk (by omega)
              exact app_roomH hx hw hρ hg hc had hlim hroom
            · have hlo : (l.drop off).length = m * i.size := by rw [List.length_drop, g1.len]; omega
              have o1 : Reads P w el (.slice (some ad) m cap) m (l.drop off) := by
                refine reads_slice (by rw [hlo, hx.cs]) ?_
                by_cases hm : m = 0
                · exact .inl hm
                · right
                  obtain ⟨rfl, hlim⟩ := hk (by omega)
                  exact ⟨b, base + off, rfl, fun j u hu => by
                    rw [List.getElem?_drop] at hu
                    rw [Nat.add_assoc]
                    exact g2 _ u hu⟩
              obtain ⟨y1, y2⟩ := kill_obj hw hρ
              exact app_newH (ty := ty) (xs := cs.drop off) hx hw o1 (g1.drop off) hlo (show cap < m + ys.length by omega) y1 y2 rfl
          · cases hap
      · cases hap
  · split at hap
    · rename_i h0
      have : v = av ∧ h2 = h ∧ (av = .nils ∨ (∃ c xs, av = .vs c xs) ∨ ∃ r o n s, av = .hs r o n s) := by
        cases av <;> simp only [reduceCtorEq, Option.some.injEq, Prod.mk.injEq] at hap
        · exact ⟨hap.1.symm, hap.2.symm, .inl rfl⟩
        · exact ⟨hap.1.symm, hap.2.symm, .inr (.inl ⟨_, _, rfl⟩)⟩
        · exact ⟨hap.1.symm, hap.2.symm, .inr (.inr ⟨_, _, _, _, rfl⟩)⟩
      obtain ⟨rfl, rfl, hc⟩ := this
      have hsl : ∃ base n cap, cv = .slice base n cap ∧ n ≤ cap ∧ (slen v).getD 0 = n := by
        rcases hc with rfl | ⟨c, xs, rfl⟩ | ⟨r, off, n, sz, rfl⟩
        · simp only [VRel] at hv; exact ⟨_, _, _, hv, Nat.le_refl _, rfl⟩
        · simp only [VRel] at hv; obtain ⟨base, cap, h1, h2, _⟩ := hv; exact ⟨_, _, _, h1, h2, rfl⟩
        · simp only [VRel] at hv
          split at hv
          · obtain ⟨ad, cap, h1, h2, _⟩ := hv; exact ⟨_, _, _, h1, h2, rfl⟩
          · obtain ⟨ad, cap, h1, h2, _⟩ := hv; exact ⟨_, _, _, h1, h2, rfl⟩
          · exact hv.elim
      obtain ⟨base, n, cap, rfl, hl, hn⟩ := hsl
      rw [hn] at hx
      exact app_none hx hw h0 hl hv
    · rename_i h0
      cases av <;> try simp only [reduceCtorEq] at hap
      · simp only [VRel] at hv
        subst hv
        cases hap
        have := app_newT (ty := ty) (xs := []) hx hw nilR (by simp only [List.flatMap_nil]; exact .nil) (by simp) rfl (by simp [slen]) (show 0 < 0 + ys.length by omega)
        simpa [slen] using this
      · rename_i c xs
        cases c <;> try simp only [reduceCtorEq] at hap
        · split at hap
          · rename_i hd
            cases hap
            simp only [VRel] at hv
            obtain ⟨base, cap, rfl, hl, hcap, hE⟩ := hv
            simp only [CapOk] at hcap
            subst hcap
            obtain ⟨olds, o1, o2, o3, o4⟩ := vs_reads (P := P) (c := .unk) (cap := xs.length) hw hE hd hx.cs
            exact app_newT (ty := ty) (xs := xs) hx hw o1 o2 o4 rfl o3 (show xs.length < xs.length + ys.length by omega)
          · cases hap
        · rename_i tk e0
          split at hap
          · rename_i e' sz' hg
            split at hap
            · rename_i hc
              obtain ⟨rfl, rfl, hd⟩ := hc
              cases hap
              have hv' := hv
              simp only [VRel] at hv'
              obtain ⟨base, cap, rfl, hl, _, _⟩ := hv'
              exact app_tok hx hw hg hd (by omega) hv
            · cases hap
          · cases hap

theorem snd_append {o : Oper} {x y : Operand} {ox oy : Opd} {av bv v : AV} {ys : List AV} {t u el : TypeId} {ts : List TypeId} {c : Call} {hp st : Bool} {h2 : Heap} (hop : o.op = .call c) (hcc : c.callee = .builtin .append) (hca : c.args.toList = [x, y]) (hct : c.argTypes.toList = t :: u :: ts)
    (ht : P.underlying t = some (.slice el)) (hu : (st = false ∧ ∃ e', P.underlying u = some (.slice e')) ∨ (st = true ∧ P.underlying u = some .string ∧ P.underlying el = some (.int .u8))) (hsm : smallElem P el = true)
    (ho : opd G A x = some ox) (hq : opd G A y = some oy) (he : ERel A S e a w) (hw : WRel G S h w) (hav : val e ox = some av) (hbv : val e oy = some bv) (hys : srcElems h (P.cellsOf el) (aggT P el) st bv = some ys) (hsc : allScal ys = true) (hok : lenOk (ys.length + (slen av).getD 0) = true)
    (hap : appendV h (P.cellsOf el) (aggT P el) hp av (ys.map AV.er) = some (v, h2)) : Out P G S w h2 v (execOp a.eval o) := by
  have c1 := opd_rel ho he hw hav
  have c2 := opd_rel hq he hw hbv
  obtain ⟨b1, b2, b3, b4⟩ := small_facts hsm
  obtain ⟨zv, hz, hzl⟩ := small_zero hsm
  obtain ⟨i, z, hi, hz1, hzr⟩ := zero_rel hz
  have hcs : P.cellsOf el = i.size := by simp [Program.cellsOf, hi]
  have hby : P.bytesOf el = i.bytes := by simp [Program.bytesOf, hi]
  have hst : st = true → P.cellsOf el = 1 := fun k => by
    rcases hu with ⟨k', _⟩ | ⟨_, _, hel⟩
    · rw [k] at k'; cases k'
    · simp only [cell1, aggT, hel, Bool.false_or, beq_iff_eq, Bool.and_eq_true] at b4
      exact b4.2
  obtain ⟨news, n1, n2, n3, n4, n5⟩ := src_rel hw c2 hys hst hsc
  have e1 : c.args = #[x, y] := by rw [← Array.toList_inj]; exact hca
  have e2 : c.argTypes[0]? = some t := by
    have := congrArg (fun l => l[0]?) hct
    simpa using this
  have e3 : c.argTypes[1]? = some u := by
    have := congrArg (fun l => l[1]?) hct
    simpa using this
  obtain ⟨du, hdu, hdn⟩ : ∃ du, P.underlying u = some du ∧ ∀ k, du ≠ .int k := by
    rcases hu with ⟨_, e', hu⟩ | ⟨_, hu, _⟩
    · exact ⟨_, hu, fun k => by simp⟩
    · exact ⟨_, hu, fun k => by simp⟩
  have hzs : z.cells.size = i.size := by
    obtain ⟨l, k1, k2⟩ := (hzr S).cells
    rw [k1, List.size_toArray, k2.len, hzl, hcs]
  simp only [lenOk, decide_eq_true_eq] at hok
  have hctx : AppCtx P S w t u el du c.argTypes i z (a.eval y) (ys.map AV.er) news ((slen av).getD 0) :=
    ⟨e2, e3, ht, hdu, hdn, hi, hz1, hzs, by omega, by omega, by rw [List.length_map]; exact n1, by rw [List.length_map, n2, hcs], n3, fun y hy => by rw [n4 y hy, hcs], n5, by rw [List.length_map]; exact hok⟩
  rw [hcs] at hap
  refine (app_any (ty := o.type) hctx hw c1 hap).out ?_
  rw [run_builtin hop hcc, e1]
  simp only [List.map_toArray, List.map_cons, List.map_nil]
  rfl

/-! ### copy -/

theorem snd_copy {o : Oper} {x y : Operand} {ox oy : Opd} {av bv v : AV} {t el : TypeId} {ts : List TypeId} {c : Call} {h2 : Heap} (hop : o.op = .call c) (hcc : c.callee = .builtin .copy) (hca : c.args.toList = [x, y]) (hct : c.argTypes.toList = t :: ts)
    (ht : P.underlying t = some (.slice el)) (hi : (P.info? el).isSome = true)
    (ho : opd G A x = some ox) (hq : opd G A y = some oy) (he : ERel A S e a w) (hw : WRel G S h w) (hav : val e ox = some av) (hbv : val e oy = some bv)
    (hr : (∃ r off n ys cs cs', av = .hs r off n (P.cellsOf el) ∧ elems h (P.cellsOf el) (aggT P el) bv = some ys ∧ h.get r = some (.cells cs) ∧ ((ys.take (min ys.length n)).flatMap AV.cells).all AV.scal = true ∧ splice cs off ((ys.take (min ys.length n)).flatMap AV.cells) = some cs' ∧ v = .int .i64 (min ys.length n : Nat) ∧ h2 = h.set r (.cells cs')) ∨
      (av = .nils ∧ (∃ n, slen bv = some n) ∧ v = .int .i64 0 ∧ h2 = h)) : Out P G S w h2 v (execOp a.eval o) := by
  have c1 := opd_rel ho he hw hav
  have c2 := opd_rel hq he hw hbv
  have e1 : c.args = #[x, y] := by rw [← Array.toList_inj]; exact hca
  have e2 : c.argTypes[0]? = some t := by
    have := congrArg (fun l => l[0]?) hct
    simpa using this
  have e3 : ∀ w' cv, (Builtin.copy_ c.argTypes o.type #[a.eval x, a.eval y]).run P w = .ok cv w' → (execOp a.eval o).run P w = .ok (.value cv) w' := fun w' cv hrun => by
    rw [run_builtin hop hcc]
    refine run_v ?_
    rw [e1]
    simpa using hrun
  rcases hr with ⟨r, off, n, ys, cs, cs', rfl, hys, hg, hsc, hsp, rfl, rfl⟩ | ⟨rfl, ⟨n, hn⟩, rfl, rfl⟩
  · obtain ⟨q1, base, cap, hc2, hl, hq2⟩ := elems_rel hw c2 hys
    obtain ⟨b, bs, lim, l, hρ, g1, g2⟩ := obj_row hw hg
    simp only [VRel, hρ] at c1
    obtain ⟨ad, cap', hc1, hl1, hk⟩ := c1
    have hmin : Nat.min ys.length n ≤ ys.length := Nat.min_le_left _ _
    have hq3 : ∀ y ∈ ys.take (min ys.length n), y.cells.length = P.cellsOf el := fun y hy => q1 y (List.mem_of_mem_take hy)
    have hflat : (ys.take (min ys.length n)).flatMap AV.cells = (ys.flatMap AV.cells).take (min ys.length n * P.cellsOf el) := by
      have h1 := flat_len hq3
      have h2 : ys.flatMap AV.cells = (ys.take (min ys.length n)).flatMap AV.cells ++ (ys.drop (min ys.length n)).flatMap AV.cells := by
        rw [← List.flatMap_append, List.take_append_drop]
      rw [h2, List.take_left' (by rw [h1, List.length_take]; congr 1; omega)]
    have hrd : ∃ news, (Builtin.firstCells (P.cellsOf el) (min ys.length n) (a.eval y)).run P w = .ok (List.toArray news) w ∧ VRelL S ((ys.take (min ys.length n)).flatMap AV.cells) news := by
      rw [hc2]
      rcases hq2 with rfl | ⟨b', o', l', rfl, g3, g4⟩
      · refine ⟨[], ?_, by simp; exact .nil⟩
        exact (reads_slice (P := P) (w := w) (el := el) (base := base) (n := 0) (cap := cap) (news := []) (by simp) (.inl rfl)).cells w rfl
      · refine ⟨l'.take (min ys.length n * P.cellsOf el), ?_, by rw [hflat]; exact g4.take _⟩
        have hln : (l'.take (min ys.length n * P.cellsOf el)).length = min ys.length n * P.cellsOf el := by
          rw [List.length_take, g4.len, flat_len q1, Nat.min_eq_left (Nat.mul_le_mul_right _ (by omega))]
        exact run_firstCells_some (P := P) w _ _ _ _ _ _ hln (fun j v hv => by
          rw [List.getElem?_take] at hv
          split at hv
          · exact row_add g3 j v hv
          · cases hv)
    obtain ⟨news, hrun1, hrel⟩ := hrd
    obtain ⟨w', r1, x1, x2⟩ := store_obj (P := P) hw hρ hg hsp hrel (fun v hv => List.all_eq_true.1 hsc v hv)
    have hst : (storeCells ad news).run P w = .ok () w' := by
      by_cases h0 : cap' = 0
      · have hm0 : min ys.length n = 0 := by omega
        have : news = [] := by
          have := hrel.len
          rw [hm0] at this
          simpa using this
        rw [this] at r1 ⊢
        simpa [storeCells] using r1
      · obtain ⟨rfl, _⟩ := hk (by omega)
        exact r1
    refine ⟨.int .i64 (min ys.length n : Nat), w', S, .inl (e3 _ _ ?_), x1, x2, by simp only [VRel]⟩
    have hlen : (Builtin.lenOf (a.eval y)).run P w = .ok ys.length w := by rw [hc2]; rfl
    rw [hc1]
    simp only [Builtin.copy_, e2]
    simp only [List.getElem?_toArray, List.getElem?_cons_zero, List.getElem?_cons_succ, Sem.run_bind, run_underlying ht, Result.andThen_ok, hlen, run_sz hi]
    rw [show Nat.min ys.length n = min ys.length n from rfl, hrun1]
    simp only [Result.andThen_ok, Sem.run_bind, hst, Sem.run_pure, goInt]
  · simp only [VRel] at c1
    have hlen : ∃ base cap, a.eval y = .slice base n cap := by
      cases bv <;> simp only [slen, Option.some.injEq, reduceCtorEq] at hn
      · subst hn; simp only [VRel] at c2; exact ⟨_, _, c2⟩
      · subst hn; simp only [VRel] at c2; obtain ⟨base, cap, h1, _⟩ := c2; exact ⟨_, _, h1⟩
      · subst hn
        simp only [VRel] at c2
        split at c2
        · obtain ⟨_, _, h1, _⟩ := c2; exact ⟨_, _, h1⟩
        · obtain ⟨_, _, h1, _⟩ := c2; exact ⟨_, _, h1⟩
        · exact c2.elim
    obtain ⟨base, cap, hc2⟩ := hlen
    have hrun1 := (reads_slice (P := P) (w := w) (el := el) (base := base) (n := 0) (cap := cap) (news := []) (by simp) (.inl rfl)).cells w rfl
    have hrun2 : (Builtin.firstCells (P.cellsOf el) 0 (.slice base n cap)).run P w = .ok (List.toArray []) w := by
      cases base with
      | none => exact run_firstCells_none _ _ _ _ _
      | some ad => exact run_firstCells_some (P := P) w _ 0 ad n cap [] (by simp) (fun j v hj => by simp at hj)
    refine ⟨.int .i64 0, w, S, .inl (e3 _ _ ?_), .refl S w, hw, by simp only [VRel]⟩
    rw [c1, hc2]
    simp only [Builtin.copy_, e2]
    simp only [List.getElem?_toArray, List.getElem?_cons_zero, List.getElem?_cons_succ, Sem.run_bind, run_underlying ht, Result.andThen_ok, Builtin.lenOf, Sem.run_pure, run_sz hi]
    rw [show Nat.min n 0 = 0 from Nat.min_zero n, hrun2]
    rfl

end
end Go.AM

set_option linter.unusedVariables false
set_option linter.unusedSimpArgs false
namespace Go.AM
open Go
section
variable {P : Program} {G : GTab} {A : Ann} {S S' S0 : Sim} {e e' : Env} {h h' : Heap} {a a' : Act} {w w' w0 : World}

/-- the state of a function that began in (S0, w0) -/
structure FRel (A : Ann) (G : GTab) (S0 : Sim) (w0 : World) (S : Sim) (h : Heap) (e : Env) (a : Act) (w : World) : Prop where
  ext : Ext S0 w0 S w
  wr : WRel G S h w
  er : ERel A S e a w
  low : ∀ i v b o, A.prom.contains i = true → e.get i = some v → tm a i = .pointer (some ⟨b, o, none⟩) → w0.heap.size ≤ b

theorem low_put {d : Nat} {c : Value} {v : AV} {n : Nat} (hd : d < a.tmps.size) (hp : A.prom.contains d = false) (h : ∀ i v b o, A.prom.contains i = true → e.get i = some v → tm a i = .pointer (some ⟨b, o, none⟩) → n ≤ b) :
    ∀ i v' b o, A.prom.contains i = true → (e.put d v).get i = some v' → tm (a.put (some d) c) i = .pointer (some ⟨b, o, none⟩) → n ≤ b := fun i v' b o hi he ht => by
  have ne : d ≠ i := fun k => by subst k; rw [hp] at hi; cases hi
  rw [Tr.get_put, if_neg ne] at he
  rw [tm_put hd, if_neg ne] at ht
  exact h i v' b o hi he ht

/-- a block of this function's that is neither an object's nor a local variable's -/
def Junk (A : Ann) (S : Sim) (e : Env) (a : Act) (w : World) (b : Nat) : Prop :=
  Priv S w b ∧ ∀ t u o, A.prom.contains t = true → e.get t = some u → tm a t ≠ .pointer (some ⟨b, o, none⟩)
def Frm (A : Ann) (S : Sim) (e : Env) (a : Act) (w : World) (S' : Sim) (e' : Env) (a' : Act) (w' : World) : Prop :=
  ∀ b, Junk A S e a w b → Junk A S' e' a' w' b ∧ w'.heap[b]? = w.heap[b]?

theorem Frm.ext (k : Ext S w S' w') (h : ∀ t, A.prom.contains t = true → e'.get t = e.get t ∧ tm a' t = tm a t) : Frm A S e a w S' e' a' w' := fun b hb =>
  ⟨⟨hb.1.ext k, fun t u o hp hu => by
    obtain ⟨h1, h2⟩ := h t hp
    rw [h2]
    exact hb.2 t u o hp (by rw [← h1]; exact hu)⟩, k.same b hb.1.1 hb.1.2.1⟩

theorem plain_locals {d : Option Nat} {v : AV} {c : Value} (hd : ∀ k, d = some k → k < a.tmps.size ∧ A.prom.contains k = false) : ∀ t, A.prom.contains t = true → (putD e d v).get t = e.get t ∧ tm (a.put d c) t = tm a t := fun t ht => by
  cases d with
  | none => exact ⟨rfl, rfl⟩
  | some d =>
    obtain ⟨h1, h2⟩ := hd d rfl
    have ne : d ≠ t := fun k => by subst k; rw [h2] at ht; cases ht
    refine ⟨?_, ?_⟩
    · show (e.put d v).get t = e.get t
      rw [Tr.get_put, if_neg ne]
    · rw [tm_put h1, if_neg ne]

/-- an operation was carried out -/
theorem FRel.out (hf : FRel A G S0 w0 S h e a w) {v : AV} {s : Sem Next} (ho : Out P G S w h' v s) {d : Option Nat} (hd : ∀ k, d = some k → k < A.ntmps ∧ A.prom.contains k = false ∧ A.adrs.contains k = false) :
    ∃ c w' S', (s.run P w = .ok (.value c) w' ∨ (s.run P w = .ok .skip w' ∧ c = undef)) ∧ FRel A G S0 w0 S' h' (putD e d v) (a.put d c) w' ∧ Frm A S e a w S' (putD e d v) (a.put d c) w' := by
  obtain ⟨c, w', S', h1, h2, h3, h4⟩ := ho
  refine ⟨c, w', S', h1, ⟨hf.ext.trans h2, h3, ?_, ?_⟩, .ext h2 (plain_locals fun k hk => ⟨Nat.lt_of_lt_of_le (hd k hk).1 hf.er.size, (hd k hk).2.1⟩)⟩
  · cases d with
    | none => exact hf.er.ext h2
    | some d =>
      obtain ⟨k1, k2, k3⟩ := hd d rfl
      exact (hf.er.ext h2).put k1 k2 k3 h4
  · cases d with
    | none => exact hf.low
    | some d =>
      obtain ⟨k1, k2, k3⟩ := hd d rfl
      exact low_put (Nat.lt_of_lt_of_le k1 hf.er.size) k2 hf.low

theorem put_same {d : Nat} (hd : d < a.tmps.size) : a.put (some d) (tm a d) = a := by
  show { a with tmps := a.tmps.setIfInBounds d (a.tmps.getD d undef) } = a
  have : a.tmps.setIfInBounds d (a.tmps.getD d undef) = a.tmps := by
    apply Array.ext_getElem?
    intro i
    by_cases h : d = i
    · subst h; simp [hd]
    · rw [Array.getElem?_setIfInBounds_ne h]
  rw [this]

theorem seal_vs {r off n sz : Nat} {ag : Bool} {ys : List AV} {c : Value} (hw : WRel G S h w) (h1 : 1 ≤ sz) (hv : VRel S (.hs r off n sz) c) (hel : elems h sz ag (.hs r off n sz) = some ys) :
    ∃ S', Ext S w S' w ∧ WRel G S' (h.rem r) w ∧ VRel S' (.vs .unk ys) c := by
  obtain ⟨q1, base, cap, rfl, hl, hq⟩ := elems_rel hw hv hel
  simp only [elems] at hel
  split at hel
  · rename_i cs hg
    obtain ⟨b, bs, lim, l, hρ, g1, g2⟩ := obj_row hw hg
    rcases hq with rfl | ⟨b', o, l', rfl, g3, g4⟩
    · obtain ⟨x1, x2⟩ := kill_obj hw hρ
      refine ⟨_, x1, x2, ?_⟩
      simp only [VRel]
      exact ⟨_, _, rfl, hl, trivial, .inl trivial⟩
    · simp only [VRel, hρ] at hv
      obtain ⟨ad, cap', hc, hl', hk⟩ := hv
      cases hc
      by_cases h0 : ys = []
      · obtain ⟨x1, x2⟩ := kill_obj hw hρ
        refine ⟨_, x1, x2, ?_⟩
        simp only [VRel]
        exact ⟨_, _, rfl, hl, trivial, .inl h0⟩
      · obtain ⟨hb, _⟩ := hk (by have := List.length_pos_iff.2 h0; omega)
        cases hb
        obtain ⟨x1, x2⟩ := seal_obj hw hρ g3
        refine ⟨_, x1, x2, ?_⟩
        simp only [VRel]
        refine ⟨_, _, rfl, hl, trivial, .inr ⟨_, _, sz, rfl, h1, ?_⟩⟩
        rw [VEls.flat]
        refine ⟨q1, .of fun j u hu => ?_⟩
        obtain ⟨cv, e1, e2⟩ := g4.get j u hu
        refine ⟨cv, ?_, e2.mono x1.le⟩
        simp only [Sim.shut0]
        rw [if_pos ⟨trivial, by omega⟩, Nat.add_sub_cancel_left]
        exact e1
  · cases hel

/-- a slot is given a value that says the same -/
theorem FRel.re (hf : FRel A G S0 w0 S h e a w) (hx : Ext S w S' w) (hw : WRel G S' h' w) {d : Nat} {v : AV} (hd : d < A.ntmps) (hp : A.prom.contains d = false) (hs : A.adrs.contains d = false) (hv : VRel S' v (tm a d)) : FRel A G S0 w0 S' h' (e.put d v) a w := by
  have hd' : d < a.tmps.size := Nat.lt_of_lt_of_le hd hf.er.size
  have h1 := (hf.er.ext hx).put hd hp hs hv
  have h2 := low_put (c := tm a d) (v := v) hd' hp hf.low
  rw [put_same hd'] at h1 h2
  exact ⟨hf.ext.trans hx, hw, h1, h2⟩

theorem FRel.slot (hf : FRel A G S0 w0 S h e a w) {d : Nat} {v : AV} (hp : A.prom.contains d = false) (hs : A.adrs.contains d = false) (hv : e.get d = some v) : VRel S v (tm a d) := by
  have := hf.er.slot d v hv
  unfold SlotRel at this
  rw [if_neg (by rw [hp]; simp), if_neg (by rw [hs]; simp)] at this
  exact this

theorem snd_freeze (hf : FRel A G S0 w0 S h e a w) {d sz : Nat} {ag : Bool} {at_ : Option Nat} {v' : AV} {e2 : Env} (hd : d < A.ntmps) (hp : A.prom.contains d = false) (hs : A.adrs.contains d = false) (hsz : 1 ≤ sz)
    (hev : evalOp e h (.freeze sz ag at_ (.t d)) = some (v', e2, h')) : e2 = e ∧ ∃ S', Ext S w S' w ∧ FRel A G S0 w0 S' h' (e.put d v') a w := by
  simp only [evalOp, val] at hev
  split at hev
  · rename_i v hv
    have hv' := hf.slot hp hs hv
    have same : e2 = e → v' = v → h' = h → e2 = e ∧ ∃ S', Ext S w S' w ∧ FRel A G S0 w0 S' h' (e.put d v') a w := fun k1 k2 k3 => by
      subst k1 k2 k3
      exact ⟨rfl, S, .refl S w, hf.re (.refl S w) hf.wr hd hp hs hv'⟩
    split at hev
    · rename_i r off n sz'
      split at hev
      · rename_i ys hys
        cases hev
        have hsz' : sz' = sz := by
          simp only [elems] at hys
          split at hys
          · split at hys
            · rename_i k; exact k.1
            · cases hys
          · cases hys
        subst hsz'
        obtain ⟨S', x1, x2, x3⟩ := seal_vs hf.wr hsz hv' hys
        exact ⟨rfl, S', x1, hf.re x1 x2 hd hp hs x3⟩
      · cases hev
    · cases hev; exact same rfl rfl rfl
    · rename_i i cs
      split at hev
      · rename_i r off n sz' hi
        split at hev
        · rename_i ys hys
          cases hev
          have hsz' : sz' = sz := by
            simp only [elems] at hys
            split at hys
            · split at hys
              · rename_i k; exact k.1
              · cases hys
            · cases hys
          subst hsz'
          simp only [VRel] at hv'
          obtain ⟨l, hl, hr⟩ := hv'
          obtain ⟨c, e1, e2⟩ := hr.get i _ hi
          obtain ⟨S', x1, x2, x3⟩ := seal_vs hf.wr hsz e2 hys
          refine ⟨rfl, S', x1, hf.re x1 x2 hd hp hs ?_⟩
          simp only [VRel]
          refine ⟨l, hl, ?_⟩
          have := (hr.mono x1.le).set i x3
          have e3 : l.set i c = l := by
            apply List.ext_getElem?
            intro j
            rw [List.getElem?_set]
            by_cases hij : i = j
            · subst hij
              rw [if_pos rfl, e1, if_pos (List.getElem?_eq_some_iff.1 e1).1]
            · rw [if_neg hij]
          rwa [e3] at this
        · cases hev
      · cases hev; exact same rfl rfl rfl
      · cases hev
    · cases hev
  · cases hev

end
end Go.AM

set_option linter.unusedVariables false
set_option linter.unusedSimpArgs false
namespace Go.AM
open Go
section
variable {P : Program} {G : GTab} {A : Ann} {S S' S0 : Sim} {e e' : Env} {h h' : Heap} {a a' : Act} {w w' w0 : World}

/-! ### Local variables -/

theorem ofVal_adr {n : Nat} {v : Value} {t off : Nat} (h : ofVal n v = some (.adr t off)) : False := by
  have := ofVal_rel (S := ⟨fun _ => .none, fun _ => none, fun _ _ => none⟩) n v _ h
  simp only [VRel] at this

/-- an operand that may be an address of a local variable -/
theorem opdA_cases {x : Operand} {ox : Opd} {v : AV} (ho : opdA G A x = some ox) (he : ERel A S e a w) (hw : WRel G S h w) (hv : val e ox = some v) :
    (isAdr ox = false ∧ VRel S v (a.eval x)) ∨ (isAdr ox = true ∧ v = .tup []) ∨
    (isAdr ox = true ∧ ∃ t off b, v = .adr t off ∧ A.prom.contains t = true ∧ (∃ u, e.get t = some u) ∧ tm a t = .pointer (some ⟨b, 0, none⟩) ∧ a.eval x = .pointer (some ⟨b, off, none⟩)) := by
  unfold opdA at ho
  split at ho
  · rename_i t
    split at ho
    · rename_i hp
      cases ho
      simp only [val] at hv
      split at hv
      · rename_i u hu
        cases hv
        have hs := he.slot t u hu
        unfold SlotRel at hs
        rw [if_pos hp] at hs
        obtain ⟨b, hb, _⟩ := hs
        exact .inr (.inr ⟨rfl, t, 0, b, rfl, hp, ⟨u, hu⟩, hb, hb⟩)
      · cases hv
    · rename_i hp
      split at ho
      · rename_i hs'
        cases ho
        simp only [val] at hv
        split at hv
        · rename_i t1 off hu
          split at hv
          · rename_i hb
            split at hv
            · rename_i u hbu
              cases hv
              have hs := he.slot t _ hu
              unfold SlotRel at hs
              rw [if_neg hp, if_pos hs'] at hs
              rcases hs with ⟨k, _⟩ | ⟨t', off', b, k, h1, h2, h3, h4⟩
              · cases k
              · cases k
                rw [← hb]
                exact .inr (.inr ⟨rfl, _, _, b, rfl, h1, h2, h3, h4⟩)
            · cases hv
          · cases hv
        · cases hv
      · rename_i hs'
        cases ho
        simp only [val] at hv
        have hs := he.slot t v hv
        unfold SlotRel at hs
        rw [if_neg hp, if_neg hs'] at hs
        exact .inl ⟨rfl, hs⟩
  · refine .inl ⟨?_, opd_rel ho he hw hv⟩
    unfold opd at ho
    split at ho
    · rename_i t hx
      exact (hx t rfl).elim
    · split at ho <;> cases ho <;> rfl
    · split at ho <;> cases ho <;> rfl
    · cases ho; rfl

theorem loc_row (he : ERel A S e a w) {t b : Nat} {u : AV} (hp : A.prom.contains t = true) (hu : e.get t = some u) (hb : tm a t = .pointer (some ⟨b, 0, none⟩)) :
    Priv S w b ∧ ∃ l el fr, w.heap[b]? = some (.cells (List.toArray l) el fr) ∧ VRelL S u.cells l ∧ (∀ o, ¬(fr.1 ≤ o ∧ o < fr.2)) ∧ Row w b 0 l := by
  have hs := he.slot t u hu
  unfold SlotRel at hs
  rw [if_pos hp] at hs
  obtain ⟨b', h1, h2, l, el, fr, h3, h4, h5⟩ := hs
  rw [hb] at h1
  cases h1
  refine ⟨h2, l, el, fr, h3, h4, h5, fun i v hv => ?_⟩
  unfold World.cell?
  simp only [h3, Option.isSome_none, Bool.false_eq_true, if_false, Nat.zero_add]
  simpa using hv

theorem FRel.loc (hf : FRel A G S0 w0 S h e a w) {d : Nat} {v : AV} {cv : Value} {el : TypeId} (hd : d < A.ntmps) (hp : A.prom.contains d = true) (hv : VRel S v cv) (hfree : ∀ i off, e.get i ≠ some (.adr d off)) :
    ∃ S', FRel A G S0 w0 S' h (e.put d v) (a.put (some d) (.pointer (some ⟨w.heap.size, 0, none⟩))) (w.alloc (.cells cv.cells el)) ∧
      Frm A S e a w S' (e.put d v) (a.put (some d) (.pointer (some ⟨w.heap.size, 0, none⟩))) (w.alloc (.cells cv.cells el)) := by
  obtain ⟨l, h1, h2⟩ := hv.cells
  obtain ⟨x1, x2⟩ := new_imm (w' := w.alloc (.cells cv.cells el)) (fr := (0, 0)) hf.wr rfl rfl rfl rfl (cs := []) (fun i v hv => by simp at hv)
  have hd' : d < a.tmps.size := Nat.lt_of_lt_of_le hd hf.er.size
  have he := hf.er.ext x1
  have hpriv : Priv (S.addF w.heap.size []) (w.alloc (.cells cv.cells el)) w.heap.size := by
    refine ⟨by show w.heap.size < (w.heap.push _).size; simp, fun k => ?_, fun o => by simp [Sim.addF]⟩
    have : Owns S w.heap.size := k
    have := hf.wr.ob _ this
    omega
  refine ⟨_, ⟨hf.ext.trans x1, x2, ⟨fun i u hu => ?_, fun i j b o p hi hj hie hje h3 h4 => ?_, by rw [put_size]; exact he.size, by rw [put_defers]; exact he.defers⟩, fun i u b o hi hu hb => ?_⟩, fun b hb => ⟨⟨hb.1.ext x1, fun t u o ht hu hq => ?_⟩, x1.same b hb.1.1 hb.1.2.1⟩⟩
  · rw [Tr.get_put] at hu
    by_cases hdi : d = i
    · subst hdi
      rw [if_pos rfl] at hu
      cases hu
      unfold SlotRel
      rw [if_pos hp]
      refine ⟨w.heap.size, by rw [tm_put hd', if_pos rfl], hpriv, l, el, (0, 0), ?_, h2.mono x1.le, fun o k => by simp at k⟩
      rw [← h1]
      exact cell_new rfl
    · rw [if_neg hdi] at hu
      have hs := he.slot i u hu
      unfold SlotRel at *
      split
      · rename_i hq
        rw [if_pos hq] at hs
        rw [tm_put hd', if_neg hdi]
        exact hs
      · rename_i hq
        rw [if_neg hq] at hs
        split
        · rename_i hr
          rw [if_pos hr] at hs
          rcases hs with ⟨k1, k2⟩ | ⟨t, off, b, k1, k2, ⟨y, hy⟩, k4, k5⟩
          · exact .inl ⟨k1, by rw [tm_put hd', if_neg hdi]; exact k2⟩
          · have hne : d ≠ t := fun k => by subst k; exact hfree i off (by rw [hu, k1])
            exact .inr ⟨t, off, b, k1, k2, ⟨y, by rw [Tr.get_put, if_neg hne]; exact hy⟩, by rw [tm_put hd', if_neg hne]; exact k4, by rw [tm_put hd', if_neg hdi]; exact k5⟩
        · rename_i hr
          rw [if_neg hr] at hs
          rw [tm_put hd', if_neg hdi]
          exact hs
  · rw [Tr.get_put] at hie hje
    rw [tm_put hd'] at h3 h4
    have key : ∀ k q, A.prom.contains k = true → (∃ u, e.get k = some u) → tm a k = .pointer (some ⟨w.heap.size, q, none⟩) → False := fun k q hk ⟨u, hu⟩ hq => by
      have hs := hf.er.slot k u hu
      unfold SlotRel at hs
      rw [if_pos hk] at hs
      obtain ⟨b', g1, g2, _⟩ := hs
      rw [hq] at g1
      cases g1
      have := g2.1
      omega
    by_cases hdi : d = i
    · by_cases hdj : d = j
      · rw [← hdi, ← hdj]
      · rw [if_pos hdi] at h3
        rw [if_neg hdj] at h4 hje
        cases h3
        exact (key j p hj hje h4).elim
    · by_cases hdj : d = j
      · rw [if_neg hdi] at h3 hie
        rw [if_pos hdj] at h4
        cases h4
        exact (key i o hi hie h3).elim
      · rw [if_neg hdi] at h3 hie
        rw [if_neg hdj] at h4 hje
        exact he.apart i j b o p hi hj hie hje h3 h4
  · rw [Tr.get_put] at hu
    rw [tm_put hd'] at hb
    by_cases hdi : d = i
    · rw [if_pos hdi] at hb
      cases hb
      exact hf.ext.size
    · rw [if_neg hdi] at hu hb
      exact hf.low i u b o hi hu hb
  · rw [Tr.get_put] at hu
    rw [tm_put hd'] at hq
    by_cases hdi : d = t
    · rw [if_pos hdi] at hq
      cases hq
      have := hb.1.1
      omega
    · rw [if_neg hdi] at hu hq
      exact hb.2 t u o ht hu hq

/-- a private block is written -/
theorem priv_wrote (hw : WRel G S h w) {b : Nat} (hb : Priv S w b) (hs : w'.heap.size = w.heap.size) (hne : ∀ k, k ≠ b → w'.heap[k]? = w.heap[k]?) : WRel G S h w' := by
  have own : ∀ k, Owns S k → k ≠ b := fun k hk e => hb.2.1 (e ▸ hk)
  refine ⟨fun r x hx => (hw.obj r x hx).keep (.refl S) (fun c x y k => ⟨k, hne c (own c (.inl ⟨r, x, y, k⟩))⟩) (fun z k => ⟨k, hne z.b (own z.b (.inr ⟨r, z, k, rfl⟩))⟩), hw.inj, hw.tinj, hw.rt, fun k hk => by rw [hs]; exact hw.ob k hk, fun k o v hk => ?_, hw.Fr, hw.Ft, hw.nr, hw.nt, hw.no, hw.gl⟩
  have hc := hw.Fc k o v hk
  have hk' : k ≠ b := fun e => by subst e; rw [hb.2.2 o] at hk; cases hk
  unfold World.cell? at *
  simp only at *
  rw [hne k hk']
  exact hc

theorem FRel.sto (hf : FRel A G S0 w0 S h e a w) {t b off : Nat} {u v : AV} {new cs' : List AV} {l : List Value} (hp : A.prom.contains t = true) (hu : e.get t = some u) (hb : tm a t = .pointer (some ⟨b, 0, none⟩)) (hl : VRelL S new l) (h1 : ∀ v ∈ new, v.scal = true)
    (hs : splice u.cells off new = some cs') (hv : v.cells = cs') : ∃ w', (storeCells ⟨b, off, none⟩ l).run P w = .ok () w' ∧ FRel A G S0 w0 S h (e.put t v) a w' ∧ Frm A S e a w S (e.put t v) a w' := by
  obtain ⟨hpriv, l0, el, fr, hbl, hr0, hfr, _⟩ := loc_row hf.er hp hu hb
  obtain ⟨s1, s2, s3, s4⟩ := splice_get hs
  have hlen := hl.len
  have hlen0 := hr0.len
  have hone : ∀ v ∈ l, v.oneCell' = true := fun v hv => by
    obtain ⟨i, hi⟩ := List.mem_iff_getElem?.1 hv
    have hilt : i < new.length := by have := (List.getElem?_eq_some_iff.1 hi).1; omega
    obtain ⟨c', e1, e2⟩ := hl.get i new[i] (by simp [hilt])
    rw [e1] at hi; cases hi
    exact oneCell_of e2 (h1 _ (List.getElem_mem hilt))
  obtain ⟨w', c', r1, r2, r3, r4⟩ := run_storeCells_own (P := P) l 0 off l0.toArray w hbl (by simp; omega) hone (fun j _ _ => hfr j)
  refine ⟨w', r1, ?_⟩
  have hlow := hf.low t u b 0 hp hu hb
  have hext : Ext S0 w0 S w' := by
    refine ⟨hf.ext.le, by rw [r2.size]; exact hf.ext.size, fun k hk ho => ?_, fun k ho => hf.ext.owns k ho, fun k o hk => hf.ext.F k o hk, r2.os.trans hf.ext.os, r2.tape.trans hf.ext.tape, r2.output.trans hf.ext.output⟩
    rw [r2.else_ k (by omega)]
    exact hf.ext.same k hk ho
  have hpr : ∀ k, Priv S w k → Priv S w' k := fun k hk => ⟨by rw [r2.size]; exact hk.1, hk.2⟩
  refine ⟨⟨hext, priv_wrote hf.wr hpriv r2.size r2.else_, ⟨fun i y hy => ?_, fun i j c o p hi hj hie hje h3 h4 => ?_, hf.er.size, hf.er.defers⟩, fun i y c o hi hy hc => ?_⟩, fun k hk => ⟨⟨hpr k hk.1, fun t' y o' ht' hy hq => ?_⟩, r2.else_ k (fun e1 => hk.2 t u 0 hp hu (by rw [e1]; exact hb))⟩⟩
  · rw [Tr.get_put] at hy
    by_cases hti : t = i
    · subst hti
      rw [if_pos rfl] at hy
      cases hy
      unfold SlotRel
      rw [if_pos hp]
      refine ⟨b, hb, hpr b hpriv, c'.toList, el, fr, by rw [Array.toArray_toList]; exact r2.now, ?_, hfr⟩
      rw [hv]
      have hcs := r2.csize
      simp only [List.size_toArray] at hcs
      refine .of (by rw [Array.length_toList, hcs, s2]; exact hlen0) fun i y cy hy hcy => ?_
      have hcy' : c'[i]? = some cy := by simpa using hcy
      by_cases hi : i < off ∨ off + new.length ≤ i
      · rw [s3 i hi] at hy
        rw [r4 i (by omega)] at hcy'
        obtain ⟨cv, e1, e2⟩ := hr0.get i y hy
        simp at hcy'
        rw [e1] at hcy'; cases hcy'
        exact e2
      · have := s4 (i - off) (by omega)
        rw [show off + (i - off) = i by omega, hy] at this
        obtain ⟨cv, e1, e2⟩ := hl.get (i - off) y this.symm
        have := r3 (i - off) cv e1
        rw [show off + 0 + (i - off) = i by omega, hcy'] at this
        cases this
        exact e2
    · rw [if_neg hti] at hy
      have hsl := hf.er.slot i y hy
      unfold SlotRel at *
      split
      · rename_i hq
        rw [if_pos hq] at hsl
        obtain ⟨b', g1, g2, l', el', fr', g3, g4, g5⟩ := hsl
        have hne : b' ≠ b := fun k => by
          subst k
          exact hti (hf.er.apart t i b' 0 0 hp hq ⟨u, hu⟩ ⟨y, hy⟩ hb g1)
        exact ⟨b', g1, hpr b' g2, l', el', fr', by rw [r2.else_ b' hne]; exact g3, g4, g5⟩
      · rename_i hq
        rw [if_neg hq] at hsl
        split
        · rename_i hr
          rw [if_pos hr] at hsl
          rcases hsl with k | ⟨t', off', b', k1, k2, ⟨z, hz⟩, k4, k5⟩
          · exact .inl k
          · refine .inr ⟨t', off', b', k1, k2, ?_, k4, k5⟩
            rw [Tr.get_put]
            split
            · exact ⟨_, rfl⟩
            · exact ⟨z, hz⟩
        · rename_i hr
          rw [if_neg hr] at hsl
          exact hsl
  · have key : ∀ k, (∃ v', (e.put t v).get k = some v') → ∃ v', e.get k = some v' := fun k ⟨v', hk⟩ => by
      rw [Tr.get_put] at hk
      split at hk
      · rename_i e1; subst e1; exact ⟨u, hu⟩
      · exact ⟨v', hk⟩
    exact hf.er.apart i j c o p hi hj (key i hie) (key j hje) h3 h4
  · rw [Tr.get_put] at hy
    split at hy
    · rename_i e1; subst e1; exact hf.low t u c o hi hu hc
    · exact hf.low i y c o hi hy hc
  · rw [Tr.get_put] at hy
    split at hy
    · rename_i e1; subst e1; exact hk.2 t u o' ht' hu hq
    · exact hk.2 t' y o' ht' hy hq

end
end Go.AM
