/- Own work. This text shows: regions of every order, code, functions: the machine is sound. -/
import Derived.Test.YtcipamnhmeplkaaGreatDoorAm5
set_option linter.unusedVariables false
set_option linter.unusedSimpArgs false
namespace Go.AM
open Go
section
variable {P : Program} {G : GTab} {A : Ann} {S S' S0 : Sim} {e e' em env : Env} {h h' h2 : Heap} {a a' : Act} {w w' w0 : World} {o : Oper} {v : AV} {reg i : Nat} {ops : Array Oper} {up : Array Nat} {its : List (List Item)} {K : List Nat}

/-- an operation that waits, or came too early -/
def Wait (L : Nat → Prop) (ran : List Nat) (j : Nat) : Prop := (j ∈ ran ∧ ¬ L j) ∨ (L j ∧ j ∉ ran)

structure Early (A : Ann) (w0 : World) (ops : Array Oper) (its : List (List Item)) (S : Sim) (em : Env) (a : Act) (w : World) (j : Nat) : Prop where
  ex : ∃ d cs b l el, itAt its j = [.op (some d) none (.halloc cs)] ∧ dstAt ops j = some d ∧ A.prom.contains d = false ∧ A.adrs.contains d = false ∧ d < A.ntmps ∧ tm a d = .pointer (some ⟨b, 0, none⟩) ∧ Junk A S em a w b ∧ w0.heap.size ≤ b ∧
    w.heap[b]? = some (.cells (List.toArray l) el) ∧ ∀ S, VRelL S cs l

structure Inv (P : Program) (G : GTab) (A : Ann) (S0 : Sim) (w0 : World) (ops : Array Oper) (up : Array Nat) (its : List (List Item)) (K : List Nat) (L : Nat → Prop) (ran : List Nat) (Rem : List Item) (Q : Env → Heap → Prop) (env em : Env) (h : Heap) (S : Sim) (a : Act) (w : World) : Prop where
  lt : ∀ i, L i → i < ops.size
  ranlt : ∀ i ∈ ran, i < ops.size
  lcl : Closed ops L
  rcl : Closed ops (· ∈ ran)
  pure : ∀ i ∈ ran, ¬ L i → pureAt ops up its i = true
  early : ∀ i, L i → i ∉ ran → lateAt ops up its i = true
  wi : wItems (ACall P G) Rem Q env h
  pend : ∀ j ∈ ran, ¬ L j → Pend env h (itAt its j)
  fr : FRel A G S0 w0 S h em a w
  emN : ∀ j s, Wait L ran j → dstAt ops j = some s → em.get s = none
  emE : ∀ s, (∀ j, Wait L ran j → dstAt ops j ≠ some s) → em.get s = env.get s
  jk : ∀ j, L j → j ∉ ran → Early A w0 ops its S em a w j
  jd : ∀ j j' d d' b, L j → j ∉ ran → L j' → j' ∉ ran → dstAt ops j = some d → dstAt ops j' = some d' → tm a d = .pointer (some ⟨b, 0, none⟩) → tm a d' = .pointer (some ⟨b, 0, none⟩) → j = j'
  ad : AdrIn K em

theorem war_of {i k : Nat} {d : Nat} (hi : i < ops.size) (hne : i ≠ k) (hd : dstAt ops k = some d) (hu : inUp up k i = true) (hor : dstAt ops i = some d ∨ d ∈ slotsAt its i) : warAt ops up its k = true := by
  unfold warAt
  rw [hd]
  simp only [Bool.or_eq_true, List.any_eq_true]
  right
  refine ⟨i, mem_rng hi, ?_⟩
  simp only [Bool.and_eq_true, bne_iff_ne, ne_eq, hu, and_true, Bool.or_eq_true, beq_iff_eq]
  refine ⟨hne, hor.imp id fun h => by simpa using h⟩
theorem pure_war {k : Nat} (h : pureAt ops up its k = true) : warAt ops up its k = false ∧ pureM (itAt its k) = true := by
  simp only [pureAt, Bool.and_eq_true, Bool.not_eq_true'] at h
  exact ⟨h.2, h.1⟩
theorem late_war {k : Nat} (h : lateAt ops up its k = true) : warAt ops up its k = false ∧ lateM (itAt its k) = true := by
  simp only [lateAt, Bool.and_eq_true, Bool.not_eq_true'] at h
  exact ⟨h.2, h.1⟩
theorem own_slot {k d : Nat} (h : warAt ops up its k = false) (hd : dstAt ops k = some d) : d ∉ slotsAt its k := fun hk => by
  unfold warAt at h
  rw [hd] at h
  simp only [Bool.or_eq_false_iff] at h
  have := h.1
  rw [← Bool.not_eq_true] at this
  exact this (by simpa using hk)

variable {L : Nat → Prop} {ran : List Nat} {Rem : List Item} {Q : Env → Heap → Prop}

/-- nobody waits for a slot that a ready operation has to do with -/
theorem Inv.free (st : Stat P G A reg ops up its) (hi : Inv P G A S0 w0 ops up its K L ran Rem Q env em h S a w) {i : Nat} (hin : i < ops.size) (hL : ¬ L i) (hpr : ∀ k, Pr ops i k → L k) (hpr2 : ∀ k, Pr ops i k → k ∈ ran)
    {s : Nat} (hs : dstAt ops i = some s ∨ s ∈ slotsAt its i) : ∀ j, Wait L ran j → j ≠ i → dstAt ops j ≠ some s := fun j hj hne hd => by
  have hjn : j < ops.size := by rcases hj with hj | hj; exact hi.ranlt j hj.1; exact hi.lt j hj.1
  rcases st.sl j s i hjn hin hd (fun k => hne k.symm) hs with hu | hu
  · have hLj := st.closed_up hi.lcl (i + 1) i j (by omega) hin hjn hpr hu
    have hrj : j ∈ ran := st.closed_up hi.rcl (i + 1) i j (by omega) hin hjn hpr2 hu
    rcases hj with hj | hj
    · exact hj.2 hLj
    · exact hj.2 hrj
  · rcases hj with hj | hj
    · have hwar := war_of (its := its) hin (fun k => hne k.symm) hd hu hs
      rw [(pure_war (hi.pure j hj.1 hj.2)).1] at hwar
      cases hwar
    · have := st.closed_up hi.lcl (j + 1) j i (by omega) hjn hin (fun k hk => hi.lcl j k hj.1 hk) hu
      exact hL this

end
end Go.AM

set_option linter.unusedVariables false
set_option linter.unusedSimpArgs false
namespace Go.AM
open Go
section
variable {P : Program} {G : GTab} {A : Ann} {S S' S0 : Sim} {e e' em env : Env} {h h' h2 : Heap} {a a' : Act} {w w' w0 : World} {o : Oper} {v : AV} {reg i : Nat} {ops : Array Oper} {up : Array Nat} {its : List (List Item)} {K : List Nat}
variable {L : Nat → Prop} {ran : List Nat} {Rem : List Item} {Q : Env → Heap → Prop} {Qc : Go.Exit → Act → World → Prop} {Kc : Act → World → Prop}

theorem item_dst {d : Option Nat} {g : Guard} {p : IOp} {r : List Item} (hc : compItem P G A reg ops i o = some (.op d g p :: r)) : o.dst = d ∧ guardOf A ops o.guard = some g ∧ compOp P G A reg i o.dst o.op = some p ∧ (∀ k, o.dst = some k → k < A.ntmps) ∧ ∀ k, o.dst = some k → A.prom.contains k = true → o.guard = none := by
  unfold compItem at hc
  split at hc
  · cases hc
  · rename_i hdc
    split at hc
    · cases hc
    · rename_i g' hg
      split at hc
      · rename_i m hm
        split at hc
        case isFalse => cases hc
        simp only [Option.some.injEq, List.cons.injEq] at hc
        obtain ⟨rfl, rfl⟩ := hc
        unfold compMain at hm
        split at hm
        · split at hm
          · cases hm
          · split at hm
            · split at hm
              · cases hm
              · split at hm <;> cases hm
            · cases hm
        · split at hm
          · cases hm
          · split at hm <;> cases hm
        · split at hm
          · rename_i p' hp
            cases hm
            refine ⟨rfl, hg, hp, fun k hk => ?_, fun k hk hpk => ?_⟩
            · simp only [dstOk, hk, Bool.not_eq_true, Bool.not_eq_false', Bool.and_eq_true, decide_eq_true_eq] at hdc
              exact hdc.1
            · simp only [dstOk, hk, Bool.not_eq_true, Bool.not_eq_false', Bool.and_eq_true, decide_eq_true_eq, hpk, Bool.not_true, Bool.false_or, Option.isNone_iff_eq_none] at hdc
              exact hdc.2
          · cases hm
      · cases hc

theorem Early.keep {S' : Sim} {em' : Env} {a' : Act} {w' : World} {j : Nat} (he : Early A w0 ops its S em a w j) (hf : Frm A S em a w S' em' a' w') (ht : ∀ d, dstAt ops j = some d → tm a' d = tm a d) : Early A w0 ops its S' em' a' w' j := by
  obtain ⟨d, cs, b, l, el, h1, h2, h3, h4, h5, h6, h7, h10, h8, h9⟩ := he.ex
  obtain ⟨k1, k2⟩ := hf b h7
  exact ⟨d, cs, b, l, el, h1, h2, h3, h4, h5, by rw [ht d h2]; exact h6, k1, h10, by rw [k2]; exact h8, h9⟩

/-- an operation that waits is carried out -/
theorem Inv.step_pend (st : Stat P G A reg ops up its) (hi : Inv P G A S0 w0 ops up its K L ran Rem Q env em h S a w) (ha : annOk A = true) (hdst : ∀ o ∈ ops.toList, ∀ d, o.dst = some d → A.adrs.contains d = true → d ∈ K)
    (ho : ops[i]? = some o) (hr : i ∈ ran) (hL : ¬ L i) (hpr : ∀ k, Pr ops i k → L k)
    (hK : ∀ em' S' a' w', Inv P G A S0 w0 ops up its K (fun j => L j ∨ j = i) ran Rem Q env em' h S' a' w' → Kc a' w') :
    if Region.wanted o (yielded ops a.tmps) then o.wp P a w Kc Qc else Kc (a.put o.dst undef) w := by
  have hin := hi.ranlt i hr
  have hpu := hi.pure i hr hL
  obtain ⟨hwar, _⟩ := pure_war hpu
  obtain ⟨d, g, p, b, hx, hp, hwt, htrue, hfalse⟩ := hi.pend i hr hL
  have hc := st.it i o ho
  rw [hx] at hc
  obtain ⟨hdo, hgo, hco, hdn, _⟩ := item_dst hc
  have hda : dstAt ops i = d := by unfold dstAt; rw [ho]; exact hdo
  have hsl : slotsAt its i = slG g ++ slotsI p := by unfold slotsAt; rw [hx]; simp [slotsM]
  have hfree := fun s hs => hi.free st (s := s) hin hL hpr (fun k hk => hi.rcl i k hr hk) hs
  have hag : ∀ s ∈ slotsAt its i, em.get s = env.get s := fun s hs => hi.emE s fun j hj hd => by
    by_cases hji : j = i
    · subst hji
      exact own_slot hwar hd hs
    · exact hfree s (.inr hs) j hj hji hd
  have hdN : ∀ s, d = some s → em.get s = none := fun s hs => hi.emN i s (.inl ⟨hr, hL⟩) (by rw [hda]; exact hs)
  rw [hsl] at hag
  have hwt' : wanted em g = some b := by rw [wanted_agree fun s hs => hag s (List.mem_append_left _ hs)]; exact hwt
  -- the value
  obtain ⟨u, hu1, hu2, hW⟩ : ∃ u, (∀ s, d = some s → env.get s = some u) ∧ True ∧ wItems (ACall P G) ([.op d g p] ++ []) (fun e1 h1 => h1 = h ∧ e1 = putD em d u) em h := by
    cases b with
    | true =>
      obtain ⟨u, hev, hu⟩ := htrue rfl
      obtain ⟨e2, hev2, _⟩ := eval_agree2 (e2 := em) (fun s hs => hag s (List.mem_append_right _ hs)) hev
      have := (pure_env hp hev2).1
      subst this
      refine ⟨u, hu, trivial, ?_⟩
      simp only [List.append_nil, wItems, hwt', hev2]
      refine ⟨?_, trivial, trivial⟩
      cases p <;> first | rfl | skip
      all_goals
        cases d with
        | none => rfl
        | some s => simp [fresh, hdN s rfl]
    | false =>
      refine ⟨.tup [], hfalse rfl, trivial, ?_⟩
      simp only [List.append_nil, wItems, hwt']
      exact ⟨trivial, trivial⟩
  have hwr : ([Item.op d g p]).flatMap wrM = [] := by simp [wrM, pure_wr hp]
  refine run_item hc hi.fr hW (fun _ _ => rfl) (fun _ _ => rfl) fun a' w' S' e1 em' h1 hn => ?_
  obtain ⟨rfl, rfl⟩ := hn.wi
  rw [hwr] at hn
  have hem : ∀ s, em'.get s = (putD em d u).get s := fun s => by
    by_cases hs : o.dst = some s
    · exact hn.chg.2 s (.inl hs)
    · rw [(hn.chg.1 s hs (by simp)).2, (hn.chg.1 s hs (by simp)).1]
  have hemd : ∀ s, d ≠ some s → em'.get s = em.get s := fun s hs => (hn.chg.1 s (by rw [hdo]; exact hs) (by simp)).2
  have hemd2 : ∀ s, d = some s → em'.get s = some u := fun s hs => by
    rw [hem]; subst hs
    show (em.put s u).get s = some u
    rw [Tr.get_put, if_pos rfl]
  have hWait : ∀ j, Wait (fun j => L j ∨ j = i) ran j → Wait L ran j ∧ j ≠ i := fun j hj => by
    rcases hj with ⟨h1, h2⟩ | ⟨h1, h2⟩
    · exact ⟨.inl ⟨h1, fun k => h2 (.inl k)⟩, fun k => h2 (.inr k)⟩
    · rcases h1 with h1 | h1
      · exact ⟨.inr ⟨h1, h2⟩, fun k => h2 (k ▸ hr)⟩
      · exact absurd (h1 ▸ hr) h2
  have hdj : ∀ j s, Wait L ran j → j ≠ i → dstAt ops j = some s → d ≠ some s := fun j s hj hne hs hd => hfree s (.inl (by rw [hda]; exact hd)) j hj hne hs
  refine hK em' S' a' w' ⟨fun j hj => by rcases hj with hj | rfl; exact hi.lt j hj; exact hin, hi.ranlt, fun j k hj hk => ?_, hi.rcl, fun j hj hn => hi.pure j hj fun k => hn (.inl k), fun j hj hn => ?_, hi.wi, fun j hj hn => hi.pend j hj fun k => hn (.inl k), hn.fr, fun j s hj hs => ?_, fun s hs => ?_, fun j hj hjn => ?_, fun j j' d1 d2 b hj hjn hj' hjn' h1 h2 h3 h4 => ?_, ?_⟩
  · rcases hj with hj | rfl
    · exact .inl (hi.lcl j k hj hk)
    · exact .inl (hpr k hk)
  · rcases hj with hj | rfl
    · exact hi.early j hj hn
    · exact absurd hr hn
  · obtain ⟨h1, h2⟩ := hWait j hj
    rw [hemd s (hdj j s h1 h2 hs)]
    exact hi.emN j s h1 hs
  · by_cases hd : d = some s
    · rw [hemd2 s hd, hu1 s hd]
    · rw [hemd s hd]
      refine hi.emE s fun j hj hjs => ?_
      by_cases hji : j = i
      · subst hji; rw [hda] at hjs; exact hd hjs
      · refine hs j ?_ hjs
        rcases hj with ⟨h1, h2⟩ | ⟨h1, h2⟩
        · exact .inl ⟨h1, fun k => k.elim h2 hji⟩
        · exact .inr ⟨.inl h1, h2⟩
  · have hjL : L j := hj.resolve_right fun k => hjn (k ▸ hr)
    refine (hi.jk j hjL hjn).keep hn.frm fun s hs => hn.tmk s fun k => ?_
    rw [hdo] at k
    exact hdj j s (.inr ⟨hjL, hjn⟩) (fun k => hjn (k ▸ hr)) hs k
  · have hjL : L j := hj.resolve_right fun k => hjn (k ▸ hr)
    have hjL' : L j' := hj'.resolve_right fun k => hjn' (k ▸ hr)
    rw [hn.tmk d1 (by rw [hdo]; exact hdj j d1 (.inr ⟨hjL, hjn⟩) (fun k => hjn (k ▸ hr)) h1)] at h3
    rw [hn.tmk d2 (by rw [hdo]; exact hdj j' d2 (.inr ⟨hjL', hjn'⟩) (fun k => hjn' (k ▸ hr)) h2)] at h4
    exact hi.jd j j' d1 d2 b hjL hjn hjL' hjn' h1 h2 h3 h4
  · exact adrIn_next hn hi.ad (by simp) fun d hd hda => hdst o (List.mem_of_getElem? (l := ops.toList) (i := i) (by simpa using ho)) d hd hda

end
end Go.AM

set_option linter.unusedVariables false
set_option linter.unusedSimpArgs false
namespace Go.AM
open Go
section
variable {P : Program} {G : GTab} {A : Ann} {S S' S0 : Sim} {e e' em env : Env} {h h' h2 : Heap} {a a' : Act} {w w' w0 : World} {o : Oper} {v : AV} {reg i : Nat} {ops : Array Oper} {up : Array Nat} {its : List (List Item)} {K : List Nat}
variable {L : Nat → Prop} {ran : List Nat} {Rem : List Item} {Q : Env → Heap → Prop} {Qc : Go.Exit → Act → World → Prop} {Kc : Act → World → Prop}

theorem compOp_halloc {d : Option Nat} {op : Op} {cs : List AV} (hc : compOp P G A reg i d op = some (.halloc cs)) : ∃ t z, op = .alloc t ∧ zeroOf P t = some z ∧ cs = z.cells ∧ isPd A d = false ∧ isSd A d = false := by
  cases op
  case alloc t =>
    simp only [compOp] at hc
    split at hc
    · cases hc
    · rename_i hs
      split at hc
      · rename_i z hz
        split at hc
        · split at hc
          · cases hc
          · rename_i hp
            cases hc
            exact ⟨t, z, rfl, hz, rfl, by simpa using hp, by simpa using hs⟩
        · cases hc
      · cases hc
  all_goals (simp only [compOp, plainD] at hc; (repeat' (split at hc)) <;> first | contradiction | (simp at hc; done))

/-- a slot without a value may hold anything -/
theorem FRel.junk (hf : FRel A G S0 w0 S h em a w) {d : Nat} {c : Value} (hd : d < A.ntmps) (hp : A.prom.contains d = false) : FRel A G S0 w0 S h (em.del d) (a.put (some d) c) w := by
  have hd' : d < a.tmps.size := Nat.lt_of_lt_of_le hd hf.er.size
  have ne : ∀ i, A.prom.contains i = true → d ≠ i := fun i hi e => by subst e; rw [hp] at hi; cases hi
  refine ⟨hf.ext, hf.wr, ⟨fun i u hu => ?_, fun i j b o p hi hj hie hje => ?_, by rw [put_size]; exact hf.er.size, by rw [put_defers]; exact hf.er.defers⟩, fun i v b o hi hv hb => ?_⟩
  · rw [Tr.get_del] at hu
    by_cases hdi : d = i
    · rw [if_pos hdi] at hu; cases hu
    · rw [if_neg hdi] at hu
      have hu' := hf.er.slot i u hu
      unfold SlotRel at *
      split
      · rename_i hq
        rw [if_pos hq] at hu'
        rw [tm_put hd', if_neg hdi]
        exact hu'
      · rename_i hq
        rw [if_neg hq] at hu'
        split
        · rename_i hr
          rw [if_pos hr] at hu'
          rcases hu' with ⟨h1, h2⟩ | ⟨t, off, b, h1, h2, ⟨x, hx⟩, h4, h5⟩
          · exact .inl ⟨h1, by rw [tm_put hd', if_neg hdi]; exact h2⟩
          · exact .inr ⟨t, off, b, h1, h2, ⟨x, by rw [Tr.get_del, if_neg (ne t h2)]; exact hx⟩, by rw [tm_put hd', if_neg (ne t h2)]; exact h4, by rw [tm_put hd', if_neg hdi]; exact h5⟩
        · rename_i hr
          rw [if_neg hr] at hu'
          rw [tm_put hd', if_neg hdi]
          exact hu'
  · rw [Tr.get_del, if_neg (ne i hi)] at hie
    rw [Tr.get_del, if_neg (ne j hj)] at hje
    rw [tm_put hd', tm_put hd', if_neg (ne i hi), if_neg (ne j hj)]
    exact hf.er.apart i j b o p hi hj hie hje
  · rw [Tr.get_del, if_neg (ne i hi)] at hv
    rw [tm_put hd', if_neg (ne i hi)] at hb
    exact hf.low i v b o hi hv hb

/-- a block that nobody knows yet -/
theorem FRel.block (hf : FRel A G S0 w0 S h em a w) {l : List Value} {el : TypeId} : ∃ S', FRel A G S0 w0 S' h em a (w.alloc (.cells (List.toArray l) el)) ∧ Ext S w S' (w.alloc (.cells (List.toArray l) el)) ∧ Junk A S' em a (w.alloc (.cells (List.toArray l) el)) w.heap.size := by
  obtain ⟨x1, x2⟩ := new_imm (w' := w.alloc (.cells (List.toArray l) el)) (fr := (0, 0)) hf.wr rfl rfl rfl rfl (cs := []) (fun i v hv => by simp at hv)
  refine ⟨_, ⟨hf.ext.trans x1, x2, hf.er.ext x1, hf.low⟩, x1, ⟨?_, fun k => ?_, fun o => by simp [Sim.addF]⟩, fun t u o ht hu hq => ?_⟩
  · show w.heap.size < (w.heap.push _).size; simp
  · have : Owns S w.heap.size := k
    have := hf.wr.ob _ this
    omega
  · have hs := hf.er.slot t u hu
    unfold SlotRel at hs
    rw [if_pos ht] at hs
    obtain ⟨b', g1, g2, _⟩ := hs
    rw [hq] at g1
    cases g1
    have := g2.1
    omega

/-- an object is made before its turn -/
theorem Inv.step_late (st : Stat P G A reg ops up its) (hi : Inv P G A S0 w0 ops up its K L ran Rem Q env em h S a w) 
    (ho : ops[i]? = some o) (hr : i ∉ ran) (hL : ¬ L i) (hpr : ∀ k, Pr ops i k → L k) (hlate : lateAt ops up its i = true)
    (hK : ∀ em' S' a' w', Inv P G A S0 w0 ops up its K (fun j => L j ∨ j = i) ran Rem Q env em' h S' a' w' → Kc a' w') :
    if Region.wanted o (yielded ops a.tmps) then o.wp P a w Kc Qc else Kc (a.put o.dst undef) w := by
  have hin : i < ops.size := (Array.getElem?_eq_some_iff.1 ho).1
  obtain ⟨hwar, hlm⟩ := late_war hlate
  have hc := st.it i o ho
  obtain ⟨d, cs, hx⟩ : ∃ d cs, itAt its i = [.op (some d) none (.halloc cs)] := by
    unfold lateM at hlm
    split at hlm
    · exact ⟨_, _, ‹_›⟩
    · cases hlm
  rw [hx] at hc
  obtain ⟨hdo, hgo, hco, hdn, _⟩ := item_dst hc
  obtain ⟨t, z, hop, hz, rfl, hpd, hsd⟩ := compOp_halloc hco
  rw [hdo] at hpd hsd
  have hpd : A.prom.contains d = false := hpd
  have hsd : A.adrs.contains d = false := hsd
  have hda : dstAt ops i = some d := by unfold dstAt; rw [ho]; exact hdo
  have hg : o.guard = none := by
    unfold guardOf at hgo
    split at hgo
    · assumption
    · split at hgo
      · split at hgo <;> cases hgo
      · cases hgo
  obtain ⟨ti, zv, h1, h2, h3⟩ := zero_rel hz
  obtain ⟨l, hl1, _⟩ := (h3 S).cells
  have hl2 : ∀ S, VRelL S z.cells l := fun S => by
    obtain ⟨l', e1, e2⟩ := (h3 S).cells
    rw [hl1] at e1
    have : l = l' := by simpa using e1
    rw [this]; exact e2
  rw [if_pos (by simp [Region.wanted, hg])]
  have hrun : (execOp a.eval o).run P w = .ok (.value (.pointer (some ⟨w.heap.size, 0, none⟩))) (w.alloc (.cells (List.toArray l) t)) := by
    simp only [execOp, hop]
    refine run_v ?_
    simp [Instr.alloc, zeroValue, typeInfo, h1, h2, newVar, newRow, hl1]
  obtain ⟨S', hf', hx', hj'⟩ := hi.fr.block (l := l) (el := t)
  have hd' : d < a.tmps.size := Nat.lt_of_lt_of_le (hdn d hdo) hi.fr.er.size
  unfold Oper.wp
  rw [hrun, Oper.upon_value, hdo]
  have hfree : ∀ j, Wait L ran j → dstAt ops j ≠ some d := fun j hj hd => by
    have hjn : j < ops.size := by rcases hj with hj | hj; exact hi.ranlt j hj.1; exact hi.lt j hj.1
    have hne : j ≠ i := fun k => by
      subst k
      rcases hj with hj | hj
      · exact hr hj.1
      · exact hL hj.1
    rcases st.sl j d i hjn hin hd (fun k => hne k.symm) (.inl hda) with hu | hu
    · have hLj := st.closed_up hi.lcl (i + 1) i j (by omega) hin hjn hpr hu
      have hwar2 := war_of (its := its) hjn hne hda hu (.inl hd)
      rw [hwar] at hwar2; cases hwar2
    · rcases hj with hj | hj
      · exact hr (st.closed_up hi.rcl (j + 1) j i (by omega) hjn hin (fun k hk => hi.rcl j k hj.1 hk) hu)
      · exact hL (st.closed_up hi.lcl (j + 1) j i (by omega) hjn hin (fun k hk => hi.lcl j k hj.1 hk) hu)
  have hfj := hf'.junk (c := .pointer (some ⟨w.heap.size, 0, none⟩)) (hdn d hdo) hpd
  have hfrm : Frm A S em a w S' (em.del d) (a.put (some d) (.pointer (some ⟨w.heap.size, 0, none⟩))) (w.alloc (.cells (List.toArray l) t)) := .ext hx' fun t ht => by
    have hne : d ≠ t := fun k => by subst k; rw [hpd] at ht; cases ht
    exact ⟨by rw [Tr.get_del, if_neg hne], by rw [tm_put hd', if_neg hne]⟩
  have htm : ∀ j, Wait L ran j → ∀ s, dstAt ops j = some s → tm (a.put (some d) (.pointer (some ⟨w.heap.size, 0, none⟩))) s = tm a s := fun j hj s hs => by
    rw [tm_put hd', if_neg (fun k => hfree j hj (by rw [k]; exact hs))]
  have hfresh : ∀ j s, L j → j ∉ ran → dstAt ops j = some s → tm a s ≠ .pointer (some ⟨w.heap.size, 0, none⟩) := fun j s hj hjn hs hq => by
    obtain ⟨d2, cs2, b2, l2, el2, q1, q2, q3, q4, q5, q6, q7, q10, q8, q9⟩ := (hi.jk j hj hjn).ex
    rw [hs] at q2; cases q2
    rw [hq] at q6; cases q6
    have := q7.1.1
    omega
  refine hK _ S' _ _ ⟨fun j hj => by rcases hj with hj | rfl; exact hi.lt j hj; exact hin, hi.ranlt, fun j k hj hk => ?_, hi.rcl, fun j hj hn => hi.pure j hj fun k => hn (.inl k), fun j hj hn => ?_, hi.wi, fun j hj hn => hi.pend j hj fun k => hn (.inl k), hfj, fun j s hj hs => ?_, fun s hs => ?_, fun j hj hjn => ?_, fun j j' d1 d2 b hj hjn hj' hjn' h1 h2 h3 h4 => ?_, fun j t off hj => ?_⟩
  · rcases hj with hj | rfl
    · exact .inl (hi.lcl j k hj hk)
    · exact .inl (hpr k hk)
  · rcases hj with hj | rfl
    · exact hi.early j hj hn
    · exact hlate
  · rw [Tr.get_del]
    split
    · rfl
    · rename_i hne
      have hji : j ≠ i := fun k => by subst k; rw [hda] at hs; cases hs; exact hne rfl
      refine hi.emN j s ?_ hs
      rcases hj with ⟨k1, k2⟩ | ⟨k1, k2⟩
      · exact .inl ⟨k1, fun k => k2 (.inl k)⟩
      · exact .inr ⟨k1.resolve_right hji, k2⟩
  · have hne : d ≠ s := fun k => hs i (.inr ⟨.inr rfl, hr⟩) (by rw [← k]; exact hda)
    rw [Tr.get_del, if_neg hne]
    refine hi.emE s fun j hj hjs => hs j ?_ hjs
    rcases hj with ⟨k1, k2⟩ | ⟨k1, k2⟩
    · exact .inl ⟨k1, fun k => k.elim k2 fun k => hr (k ▸ k1)⟩
    · exact .inr ⟨.inl k1, k2⟩
  · rcases hj with hj | rfl
    · exact (hi.jk j hj hjn).keep hfrm fun s hs => htm j (.inr ⟨hj, hjn⟩) s hs
    · refine ⟨d, z.cells, w.heap.size, l, t, hx, hda, hpd, hsd, hdn d hdo, by rw [tm_put hd', if_pos rfl], ⟨hj'.1, fun t u o ht hu => ?_⟩, hi.fr.ext.size, cell_new rfl, hl2⟩
      have hne : d ≠ t := fun k => by subst k; rw [hpd] at ht; cases ht
      rw [Tr.get_del, if_neg hne] at hu
      rw [tm_put hd', if_neg hne]
      exact hj'.2 t u o ht hu
  · have own : tm (a.put (some d) (.pointer (some ⟨w.heap.size, 0, none⟩))) d = .pointer (some ⟨w.heap.size, 0, none⟩) := by rw [tm_put hd', if_pos rfl]
    rcases hj with hj | rfl
    · rcases hj' with hj' | rfl
      · rw [htm j (.inr ⟨hj, hjn⟩) d1 h1] at h3
        rw [htm j' (.inr ⟨hj', hjn'⟩) d2 h2] at h4
        exact hi.jd j j' d1 d2 b hj hjn hj' hjn' h1 h2 h3 h4
      · rw [hda] at h2; cases h2
        rw [own] at h4; cases h4
        rw [htm j (.inr ⟨hj, hjn⟩) d1 h1] at h3
        exact absurd h3 (hfresh j d1 hj hjn h1)
    · rw [hda] at h1; cases h1
      rw [own] at h3; cases h3
      rcases hj' with hj' | rfl
      · rw [htm j' (.inr ⟨hj', hjn'⟩) d2 h2] at h4
        exact absurd h4 (hfresh j' d2 hj' hjn' h2)
      · rfl
  · rw [Tr.get_del] at hj
    split at hj
    · cases hj
    · exact hi.ad j t off hj

end
end Go.AM

set_option linter.unusedVariables false
set_option linter.unusedSimpArgs false
namespace Go.AM
open Go
section
variable {P : Program} {G : GTab} {A : Ann} {S S' S0 : Sim} {e e' em env : Env} {h h' h2 : Heap} {a a' : Act} {w w' w0 : World} {o : Oper} {v : AV} {reg i : Nat} {ops : Array Oper} {up : Array Nat} {its : List (List Item)} {K : List Nat}
variable {L : Nat → Prop} {ran : List Nat} {Rem R : List Item} {Q : Env → Heap → Prop} {Qc : Go.Exit → Act → World → Prop} {Kc : Act → World → Prop}

/-- a block that nobody knew becomes an object's -/
theorem adopt_obj (hw : WRel G S h w) {b : Nat} (hp : Priv S w b) {l : List Value} {el : TypeId} {cs : List AV} (hb : w.heap[b]? = some (.cells (List.toArray l) el)) (hr : VRelL S cs l) :
    SimLe S (S.addR h.next b 0 l.length) ∧ WRel G (S.addR h.next b 0 l.length) (h.new (.cells cs)) w ∧ (∀ c, Owns (S.addR h.next b 0 l.length) c → Owns S c ∨ c = b) := by
  have hn : S.ρ h.next = .none := hw.nr _ (Nat.le_refl _)
  have le : SimLe S (S.addR h.next b 0 l.length) := ⟨fun r => by
    simp only [Sim.addR]
    split
    · rename_i k; subst k; exact .inr (.inl hn)
    · exact .inl rfl, fun t z hz => ⟨z, hz, Nat.le_refl _, fun _ => rfl⟩, fun b o v k => k⟩
  have keep : ∀ m b' x y, S.ρ m = .live b' x y → (S.addR h.next b 0 l.length).ρ m = .live b' x y := fun m b' x y k => by
    simp only [Sim.addR]
    rw [if_neg (by have := ρ_next hw k; omega)]; exact k
  have owns : ∀ c, Owns (S.addR h.next b 0 l.length) c → Owns S c ∨ c = b := fun c k => by
    rcases k with ⟨r, x, y, k⟩ | ⟨t, z, k, hb⟩
    · simp only [Sim.addR] at k
      split at k
      · cases k; exact .inr rfl
      · exact .inl (.inl ⟨r, x, y, k⟩)
    · exact .inl (.inr ⟨t, z, k, hb⟩)
  refine ⟨le, ?_, owns⟩
  refine ⟨fun r y hy => ?_, fun r r' c x y x' y' k k' => ?_, hw.tinj, fun r c x y t z k hz => ?_, fun c k => ?_, hw.Fc, fun c o v r x y k hr => ?_, hw.Ft, fun r k => ?_, fun t k => hw.nt t (by simp only [Heap.new] at k; omega), fun r k => ?_, fun g l k => (hw.gl g l k).mono le _ _ _⟩
  · simp only [Heap.get, Heap.new] at hy
    rw [Tr.get_put] at hy
    split at hy
    · rename_i k
      cases hy
      subst k
      refine ⟨b, 0, l.length, by simp [Sim.addR], List.toArray l, el, (0, 0), hb, by rw [hr.len]; omega, by simp, thaw0 _ _, fun i v hv => ?_⟩
      obtain ⟨c, e1, e2⟩ := hr.get i v hv
      exact ⟨c, by simpa using e1, e2.mono le⟩
    · exact (hw.obj r y hy).keep le (fun b' base lim' k => ⟨keep r b' base lim' k, rfl⟩) (fun z k => ⟨k, rfl⟩)
  · simp only [Sim.addR] at k k'
    split at k <;> split at k'
    · simp_all
    · cases k; exact absurd (.inl ⟨r', _, _, k'⟩) hp.2.1
    · cases k'; exact absurd (.inl ⟨r, _, _, k⟩) hp.2.1
    · exact hw.inj r r' c x y x' y' k k'
  · simp only [Sim.addR] at k hz
    split at k
    · cases k
      intro hzb
      exact hp.2.1 (.inr ⟨t, z, hz, hzb⟩)
    · exact hw.rt r c x y t z k hz
  · rcases owns c k with k | rfl
    · exact hw.ob c k
    · exact hp.1
  · simp only [Sim.addR] at hr k
    split at hr
    · cases hr
      have : S.F b o = some v := k
      rw [hp.2.2 o] at this; cases this
    · exact hw.Fr c o v r x y k hr
  · simp only [Heap.new] at k
    simp only [Sim.addR]
    rw [if_neg (by omega)]
    exact hw.nr r (by omega)
  · simp only [Heap.new, Heap.get] at *
    rw [Tr.get_put, if_neg (by omega)]
    exact hw.no r (by omega)

/-- an object that was made early takes its place -/
theorem Inv.adopt (st : Stat P G A reg ops up its) (hi : Inv P G A S0 w0 ops up its K L ran (itAt its i ++ R) Q env em h S a w) (hL : L i) (hr : i ∉ ran) (hpr : ∀ k, Pr ops i k → k ∈ ran) :
    ∃ env' em' h' S', Inv P G A S0 w0 ops up its K L (ran ++ [i]) R Q env' em' h' S' a w := by
  have hin := hi.lt i hL
  have hlate := hi.early i hL hr
  obtain ⟨hwar, _⟩ := late_war hlate
  obtain ⟨d, cs, b, l, el, hx, hda, hpd, hsd, hdn, htd, hjk, hb0, hbl, hrl⟩ := (hi.jk i hL hr).ex
  have hW := hi.wi
  rw [hx] at hW
  simp only [List.cons_append, List.nil_append, wItems, wanted, evalOp, fresh, putD, true_and] at hW
  obtain ⟨le, hw', howns⟩ := adopt_obj hi.fr.wr hjk.1 hbl (hrl S)
  generalize hS' : S.addR h.next b 0 l.length = S' at *
  have hd' : d < a.tmps.size := Nat.lt_of_lt_of_le hdn hi.fr.er.size
  have hv : VRel S' (.ptr h.next 0) (tm a d) := by
    rw [htd, ← hS']
    simp only [VRel, Sim.addR, if_true]
  have hF : ∀ c o, S'.F c o = S.F c o := fun c o => by rw [← hS']; rfl
  have priv : ∀ c, Priv S w c → c ≠ b → Priv S' w c := fun c hc hne => ⟨hc.1, fun k => (howns c k).elim hc.2.1 hne, fun o => by rw [hF]; exact hc.2.2 o⟩
  -- the slots
  have her : ERel A S' em a w := by
    refine ⟨fun j u hu => ?_, hi.fr.er.apart, hi.fr.er.size, hi.fr.er.defers⟩
    have hs := hi.fr.er.slot j u hu
    unfold SlotRel at *
    split
    · rename_i hp
      rw [if_pos hp] at hs
      obtain ⟨b', g1, g2, l', el', fr', g3, g4, g5⟩ := hs
      exact ⟨b', g1, priv b' g2 (fun k => hjk.2 j u 0 hp hu (by rw [g1, k])), l', el', fr', g3, g4.mono le, g5⟩
    · rename_i hp
      rw [if_neg hp] at hs
      split
      · rename_i hq; rw [if_pos hq] at hs; exact hs
      · rename_i hq; rw [if_neg hq] at hs; exact hs.mono le
  have her2 := her.put hdn hpd hsd hv
  rw [put_same hd'] at her2
  have hext : Ext S0 w0 S' w := ⟨hi.fr.ext.le.trans le, hi.fr.ext.size, hi.fr.ext.same, fun c k => by
    rcases howns c k with k | rfl
    · exact hi.fr.ext.owns c k
    · exact .inr hb0, fun c o k => hi.fr.ext.F c o (by rw [← hF]; exact k), hi.fr.ext.os, hi.fr.ext.tape, hi.fr.ext.output⟩
  have hlow := low_put (c := tm a d) (v := .ptr h.next 0) hd' hpd hi.fr.low
  rw [put_same hd'] at hlow
  have hLi : ∀ j, Wait L (ran ++ [i]) j → Wait L ran j ∧ j ≠ i := fun j hj => by
    rcases hj with ⟨h1, h2⟩ | ⟨h1, h2⟩
    · rcases List.mem_append.1 h1 with h1 | h1
      · exact ⟨.inl ⟨h1, h2⟩, fun k => hr (k ▸ h1)⟩
      · simp at h1; subst h1; exact absurd hL h2
    · simp only [List.mem_append, List.mem_singleton, not_or] at h2
      exact ⟨.inr ⟨h1, h2.1⟩, h2.2⟩
  have hpend : ∀ j ∈ ran, ¬ L j → (dstAt ops j = some d ∨ d ∈ slotsAt its j) → False := fun j hj hjL hor => by
    have hjn := hi.ranlt j hj
    have hne : j ≠ i := fun k => hr (k ▸ hj)
    rcases st.sl i d j hin hjn hda hne hor with hu | hu
    · exact hr (st.closed_up hi.rcl (j + 1) j i (by omega) hjn hin (fun k hk => hi.rcl j k hj hk) hu)
    · exact hjL (st.closed_up hi.lcl (i + 1) i j (by omega) hin hjn (fun k hk => hi.lcl i k hL hk) hu)
  have hearly : ∀ j, L j → j ∉ ran → j ≠ i → dstAt ops j ≠ some d := fun j hj hjn hne hd => by
    have hjl := hi.lt j hj
    rcases st.sl i d j hin hjl hda hne (.inl hd) with hu | hu
    · have := war_of (its := its) hin (fun k => hne k.symm) hd hu (.inl hda)
      rw [(late_war (hi.early j hj hjn)).1] at this; cases this
    · have := war_of (its := its) hjl hne hda hu (.inl hd)
      rw [hwar] at this; cases this
  have hmore : ∀ r y, h.get r = some y → (h.new (.cells cs)).get r = some y := fun r y hy => by
    have := get_of_next hi.fr.wr hy
    simp only [Heap.get, Heap.new] at *
    rw [Tr.get_put, if_neg (by omega)]
    exact hy
  refine ⟨env.put d (.ptr h.next 0), em.put d (.ptr h.next 0), h.new (.cells cs), S', hi.lt, fun j hj => ?_, hi.lcl, fun j k hj hk => ?_, fun j hj hn => ?_, fun j hj hn => ?_, hW, fun j hj hn => ?_, ⟨hext, hw', her2, hlow⟩, fun j s hj hs => ?_, fun s hs => ?_, fun j hj hn => ?_, fun j j' d1 d2 b' hj hjn hj' hjn' h1 h2 h3 h4 => ?_, fun j t off hj => ?_⟩
  · rcases List.mem_append.1 hj with hj | hj
    · exact hi.ranlt j hj
    · simp at hj; subst hj; exact hin
  · rcases List.mem_append.1 hj with hj | hj
    · exact List.mem_append_left _ (hi.rcl j k hj hk)
    · simp at hj; subst hj; exact List.mem_append_left _ (hpr k hk)
  · rcases List.mem_append.1 hj with hj | hj
    · exact hi.pure j hj hn
    · simp at hj; subst hj; exact absurd hL hn
  · exact hi.early j hj fun k => hn (List.mem_append_left _ k)
  · rcases List.mem_append.1 hj with hj | hj
    · have hne : ∀ s, (dstAt ops j = some s ∨ s ∈ slotsAt its j) → (env.put d (.ptr h.next 0)).get s = env.get s := fun s hs => by
        have : d ≠ s := fun k => hpend j hj hn (by subst k; exact hs)
        rw [Tr.get_put, if_neg this]
      have hjo : ∃ o, ops[j]? = some o := ⟨ops[j]'(hi.ranlt j hj), Array.getElem?_eq_getElem _⟩
      obtain ⟨o, ho⟩ := hjo
      refine (hi.pend j hj hn).keep (d := dstAt ops j) (fun d' g p hx => ?_) (fun s hs => hne s (.inr hs)) (fun s hs => hne s (.inl hs)) (.inl hmore)
      have hc := st.it j o ho
      rw [hx] at hc
      obtain ⟨h1, _⟩ := item_dst hc
      unfold dstAt; rw [ho]; exact h1.symm
    · simp at hj; subst hj; exact absurd hL hn
  · obtain ⟨h1, h2⟩ := hLi j hj
    have hne : d ≠ s := fun k => by
      subst k
      rcases h1 with ⟨k1, k2⟩ | ⟨k1, k2⟩
      · exact hpend j k1 k2 (.inl hs)
      · exact hearly j k1 k2 h2 hs
    rw [Tr.get_put, if_neg hne]
    exact hi.emN j s h1 hs
  · rw [Tr.get_put, Tr.get_put]
    split
    · rfl
    · rename_i hne
      refine hi.emE s fun j hj hjs => ?_
      by_cases hji : j = i
      · subst hji; rw [hda] at hjs; cases hjs; exact hne rfl
      · refine hs j ?_ hjs
        rcases hj with ⟨k1, k2⟩ | ⟨k1, k2⟩
        · exact .inl ⟨List.mem_append_left _ k1, k2⟩
        · exact .inr ⟨k1, fun k => (List.mem_append.1 k).elim k2 (by simpa using hji)⟩
  · simp only [List.mem_append, List.mem_singleton, not_or] at hn
    obtain ⟨d2, cs2, b2, l2, el2, q1, q2, q3, q4, q5, q6, q7, q10, q8, q9⟩ := (hi.jk j hj hn.1).ex
    have hb2 : b2 ≠ b := fun k => by
      subst k
      exact hn.2 (hi.jd j i d2 d b2 hj hn.1 hL hr q2 hda q6 htd)
    refine ⟨d2, cs2, b2, l2, el2, q1, q2, q3, q4, q5, q6, ⟨priv b2 q7.1 hb2, fun t u o ht hu => ?_⟩, q10, q8, q9⟩
    have hne : d ≠ t := fun k => by subst k; rw [hpd] at ht; cases ht
    rw [Tr.get_put, if_neg hne] at hu
    exact q7.2 t u o ht hu
  · simp only [List.mem_append, List.mem_singleton, not_or] at hjn hjn'
    exact hi.jd j j' d1 d2 b' hj hjn.1 hj' hjn'.1 h1 h2 h3 h4
  · rw [Tr.get_put] at hj
    split at hj
    · cases hj
    · exact hi.ad j t off hj

theorem edge_pr {ran : List Nat} {i : Nat} (h : edgeOk ops ran i = true) : ∀ k, Pr ops i k → k ∈ ran := fun k hk => by
  obtain ⟨o, e, ho, he, hb, rfl⟩ := hk
  unfold edgeOk at h
  rw [ho] at h
  simp only [Array.all_eq_true_iff_forall_mem] at h
  have := h e he
  rw [hb] at this
  simpa using this

/-- all that were made early and are needed now -/
theorem Inv.adopts (st : Stat P G A reg ops up its) : ∀ (l : List Nat) (ran : List Nat) (env em : Env) (h : Heap) (S : Sim), Inv P G A S0 w0 ops up its K L ran (l.flatMap (itAt its) ++ R) Q env em h S a w → latesOk ops up its ran l = true → (∀ i ∈ l, L i) →
    ∃ env' em' h' S', Inv P G A S0 w0 ops up its K L (ran ++ l) R Q env' em' h' S' a w
  | [], ran, env, em, h, S, hi, _, _ => ⟨env, em, h, S, by simpa using hi⟩
  | i :: l, ran, env, em, h, S, hi, hl, hL => by
    simp only [latesOk, Bool.and_eq_true, Bool.not_eq_true', decide_eq_true_eq] at hl
    obtain ⟨⟨⟨⟨h1, h2⟩, h3⟩, h4⟩, h5⟩ := hl
    rw [List.flatMap_cons, List.append_assoc] at hi
    have hr : i ∉ ran := fun k => by
      rw [← Bool.not_eq_true] at h3
      exact h3 (by simpa using k)
    obtain ⟨env', em', h', S', hi'⟩ := hi.adopt st (hL i (by simp)) hr (edge_pr h4)
    obtain ⟨env2, em2, h2, S2, hi2⟩ := Inv.adopts st l (ran ++ [i]) env' em' h' S' hi' h5 fun j hj => hL j (by simp [hj])
    exact ⟨env2, em2, h2, S2, by simpa using hi2⟩

end
end Go.AM

set_option linter.unusedVariables false
set_option linter.unusedSimpArgs false
namespace Go.AM
open Go
section
variable {P : Program} {G : GTab} {A : Ann} {S S' S0 : Sim} {e e' em env : Env} {h h' h2 : Heap} {a a' : Act} {w w' w0 : World} {o : Oper} {v : AV} {reg i : Nat} {ops : Array Oper} {up : Array Nat} {its : List (List Item)} {K : List Nat}
variable {L : Nat → Prop} {ran : List Nat} {Rem R : List Item} {Q : Env → Heap → Prop} {Qc : Go.Exit → Act → World → Prop} {Kc : Act → World → Prop}

theorem dst_of (st : Stat P G A reg ops up its) {j : Nat} (hj : j < ops.size) {d : Option Nat} {g : Guard} {p : IOp} (hx : itAt its j = [.op d g p]) : dstAt ops j = d := by
  have ho : ops[j]? = some (ops[j]'hj) := Array.getElem?_eq_getElem _
  have hc := st.it j _ ho
  rw [hx] at hc
  obtain ⟨h1, _⟩ := item_dst hc
  unfold dstAt; rw [ho]; exact h1

theorem compOp_prom {d : Nat} {op : Op} {p : IOp} (hp : A.prom.contains d = true) (hc : compOp P G A reg i (some d) op = some p) : (∃ z, p = .lalloc z) ∨ ∃ x, p = .lbox x := by
  cases op
  case alloc t =>
    simp only [compOp] at hc
    split at hc
    · cases hc
    · split at hc
      · split at hc
        · rw [if_pos (show isPd A (some d) = true from hp)] at hc
          cases hc; exact .inl ⟨_, rfl⟩
        · cases hc
      · cases hc
  case box t x =>
    simp only [compOp] at hc
    split at hc
    · cases hc
    · split at hc
      · rw [if_pos (show isPd A (some d) = true from hp)] at hc
        cases hc; exact .inr ⟨_, rfl⟩
      · cases hc
  all_goals (simp only [compOp, plainD, isPd, hp, Bool.true_or, if_true, Option.isSome_some] at hc; (repeat' (split at hc)) <;> first | contradiction | (simp at hc; done))

/-- a pure operation is carried out by the abstract machine alone -/
theorem Inv.run1 (st : Stat P G A reg ops up its) (hi : Inv P G A S0 w0 ops up its K L ran (itAt its i ++ R) Q env em h S a w) (hr : runOk ops up its ran i = true) :
    ∃ env' em', Inv P G A S0 w0 ops up its K L (ran ++ [i]) R Q env' em' h S a w := by
  simp only [runOk, Bool.and_eq_true, Bool.not_eq_true', decide_eq_true_eq] at hr
  obtain ⟨⟨⟨hpu, hin⟩, hnr⟩, hed⟩ := hr
  have hnr : i ∉ ran := fun k => by
    rw [← Bool.not_eq_true] at hnr
    exact hnr (by simpa using k)
  obtain ⟨hwar, hpm⟩ := pure_war hpu
  obtain ⟨d, g, p, hx, hp⟩ : ∃ d g p, itAt its i = [.op d g p] ∧ pureI p = true := by
    unfold pureM at hpm
    split at hpm
    · simp only [Bool.and_eq_true] at hpm
      exact ⟨_, _, _, ‹_›, hpm.1⟩
    · cases hpm
  have hda := dst_of st hin hx
  have hc := st.it i _ (Array.getElem?_eq_getElem hin)
  rw [hx] at hc
  obtain ⟨hdo, hgo, hco, hdn, _⟩ := item_dst hc
  have hLi : ¬ L i := fun k => by
    have := (late_war (hi.early i k hnr)).2
    rw [hx] at this
    unfold lateM at this
    split at this
    · rename_i heq
      cases heq
      simp [pureI] at hp
    · cases this
  have hsl : slotsAt its i = slG g ++ slotsI p := by unfold slotsAt; rw [hx]; simp [slotsM]
  have hown : ∀ s, d = some s → s ∉ slotsAt its i := fun s hs => own_slot hwar (by rw [hda]; exact hs)
  have hW := hi.wi
  rw [hx] at hW
  obtain ⟨b, u, hwt, hev, hfr, hW⟩ : ∃ b u, wanted env g = some b ∧ (b = true → evalOp env h p = some (u, env, h)) ∧ (b = true → fresh env d p = true) ∧ (b = false → u = .tup []) ∧ wItems (ACall P G) R Q (putD env d u) h := by
    simp only [List.cons_append, List.nil_append, wItems] at hW
    split at hW
    · rename_i hwt
      split at hW
      · rename_i u e' h' hev
        obtain ⟨rfl, rfl⟩ := pure_env hp hev
        exact ⟨true, u, hwt, fun _ => hev, fun _ => hW.1, fun k => (by cases k), hW.2⟩
      · exact hW.elim
    · rename_i hwt
      exact ⟨false, .tup [], hwt, fun k => (by cases k), fun k => (by cases k), fun _ => rfl, hW⟩
    · exact hW.elim
  obtain ⟨hfalse, hW⟩ := hW
  have hput : ∀ s, d ≠ some s → (putD env d u).get s = env.get s := fun s hs => (Chg.put (env := env) (em := env) (d := d) (v := u)).1 s hs (by simp) |>.1
  have hput2 : ∀ s, d = some s → (putD env d u).get s = some u := fun s hs => by
    subst hs
    show (env.put s u).get s = some u
    rw [Tr.get_put, if_pos rfl]
  have hclash : ∀ j ∈ ran, (∃ s, d = some s ∧ (dstAt ops j = some s ∨ s ∈ slotsAt its j)) → False := fun j hj ⟨s, hs, hor⟩ => by
    have hjn := hi.ranlt j hj
    have hne : j ≠ i := fun k => hnr (k ▸ hj)
    rcases st.sl i s j hin hjn (by rw [hda]; exact hs) hne hor with hu | hu
    · exact hnr (st.closed_up hi.rcl (j + 1) j i (by omega) hjn hin (fun k hk => hi.rcl j k hj hk) hu)
    · have := war_of (its := its) hjn hne (by rw [hda]; exact hs) hu hor
      rw [hwar] at this; cases this
  -- the slot goes
  obtain ⟨em', hf', hem'⟩ : ∃ em', FRel A G S0 w0 S h em' a w ∧ ∀ s, em'.get s = if d = some s then none else em.get s := by
    cases hdd : d with
    | none => exact ⟨em, hi.fr, fun s => by simp⟩
    | some d' =>
      refine ⟨em.del d', ?_, fun s => by rw [Tr.get_del]; simp⟩
      cases hpr : A.prom.contains d' with
      | false =>
        have := hi.fr.dels (l := [d']) (fun k hk => by simp at hk; subst hk; exact hpr)
        exact this
      | true =>
        refine hi.fr.congr fun s => ?_
        rw [Tr.get_del]
        split
        · rename_i hs
          subst hs
          by_cases hwait : ∃ j, Wait L ran j ∧ dstAt ops j = some d'
          · obtain ⟨j, h1, h2⟩ := hwait
            exact (hi.emN j d' h1 h2).symm
          · rw [hi.emE d' fun j hj hd => hwait ⟨j, hj, hd⟩]
            have hbt : b = true := by
              have hgn := (item_dst hc).2.2.2.2 d' (by rw [hdo]; exact hdd) hpr
              rw [hgn] at hgo
              simp only [guardOf, Option.some.injEq] at hgo
              subst hgo
              simpa [wanted] using hwt.symm
            have hfr := hfr hbt
            -- what may be put into a local variable's slot
            have hl : (∃ z, p = .lalloc z) ∨ ∃ x, p = .lbox x := by
              rw [hdo, hdd] at hco
              exact compOp_prom hpr hco
            rcases hl with ⟨z, rfl⟩ | ⟨x, rfl⟩ <;> simp only [fresh, hdd, Option.isNone_iff_eq_none] at hfr <;> exact hfr.symm
        · rfl
  have hWait : ∀ j, Wait L (ran ++ [i]) j → Wait L ran j ∨ j = i := fun j hj => by
    rcases hj with ⟨h1, h2⟩ | ⟨h1, h2⟩
    · rcases List.mem_append.1 h1 with h1 | h1
      · exact .inl (.inl ⟨h1, h2⟩)
      · simp at h1; exact .inr h1
    · exact .inl (.inr ⟨h1, fun k => h2 (List.mem_append_left _ k)⟩)
  refine ⟨putD env d u, em', hi.lt, fun j hj => ?_, hi.lcl, fun j k hj hk => ?_, fun j hj hn => ?_, fun j hj hn => hi.early j hj fun k => hn (List.mem_append_left _ k), hW, fun j hj hn => ?_, hf', fun j s hj hs => ?_, fun s hs => ?_, fun j hj hn => ?_, fun j j' d1 d2 b' hj hjn hj' hjn' => hi.jd j j' d1 d2 b' hj (fun k => hjn (List.mem_append_left _ k)) hj' (fun k => hjn' (List.mem_append_left _ k)), fun j t off hj => ?_⟩
  · rcases List.mem_append.1 hj with hj | hj
    · exact hi.ranlt j hj
    · simp at hj; subst hj; exact hin
  · rcases List.mem_append.1 hj with hj | hj
    · exact List.mem_append_left _ (hi.rcl j k hj hk)
    · simp at hj; subst hj; exact List.mem_append_left _ (edge_pr hed k hk)
  · rcases List.mem_append.1 hj with hj | hj
    · exact hi.pure j hj hn
    · simp at hj; subst hj; exact hpu
  · rcases List.mem_append.1 hj with hj | hj
    · refine (hi.pend j hj hn).keep (d := dstAt ops j) (fun d' g p hx => (dst_of st (hi.ranlt j hj) hx).symm) (fun s hs => hput s fun k => hclash j hj ⟨s, k, .inr hs⟩) (fun s hs => hput s fun k => hclash j hj ⟨s, k, .inl hs⟩) (.inl fun r y hy => hy)
    · simp at hj; subst hj
      rw [hsl] at hown
      refine ⟨d, g, p, b, hx, hp, ?_, fun hb => ⟨u, ?_, fun s hs => hput2 s hs⟩, fun hb s hs => by rw [hput2 s hs, hfalse hb]⟩
      · rw [wanted_agree fun s hs => hput s fun k => hown s k (List.mem_append_left _ hs)]; exact hwt
      · obtain ⟨e2, hev2, _⟩ := eval_agree2 (e2 := putD env d u) (fun s hs => hput s fun k => hown s k (List.mem_append_right _ hs)) (hev hb)
        rw [(pure_env hp hev2).1] at hev2
        exact hev2
  · rw [hem']
    split
    · rfl
    · rename_i hne
      rcases hWait j hj with hj' | rfl
      · exact hi.emN j s hj' hs
      · rw [hda] at hs; exact absurd hs hne
  · have hne : d ≠ some s := fun k => hs i (.inl ⟨by simp, hLi⟩) (by rw [hda]; exact k)
    rw [hem', if_neg hne, hput s hne]
    refine hi.emE s fun j hj hjs => hs j ?_ hjs
    rcases hj with ⟨k1, k2⟩ | ⟨k1, k2⟩
    · exact .inl ⟨List.mem_append_left _ k1, k2⟩
    · exact .inr ⟨k1, fun k => (List.mem_append.1 k).elim k2 fun k => by simp at k; subst k; exact hLi k1⟩
  · have hjr : j ∉ ran := fun k => hn (List.mem_append_left _ k)
    obtain ⟨d2, cs2, b2, l2, el2, q1, q2, q3, q4, q5, q6, q7, q10, q8, q9⟩ := (hi.jk j hj hjr).ex
    refine ⟨d2, cs2, b2, l2, el2, q1, q2, q3, q4, q5, q6, ⟨q7.1, fun t u o ht hu => ?_⟩, q10, q8, q9⟩
    rw [hem'] at hu
    split at hu
    · cases hu
    · exact q7.2 t u o ht hu
  · rw [hem'] at hj
    split at hj
    · cases hj
    · exact hi.ad j t off hj

end
end Go.AM

set_option linter.unusedVariables false
set_option linter.unusedSimpArgs false
namespace Go.AM
open Go
section
variable {P : Program} {G : GTab} {A : Ann} {S S' S0 : Sim} {e e' em env : Env} {h h' h2 : Heap} {a a' : Act} {w w' w0 : World} {o : Oper} {v : AV} {reg i : Nat} {ops : Array Oper} {up : Array Nat} {its : List (List Item)} {K : List Nat}
variable {L : Nat → Prop} {ran : List Nat} {Rem R : List Item} {Q : Env → Heap → Prop} {Qc : Go.Exit → Act → World → Prop} {Kc : Act → World → Prop}

theorem Inv.runs (st : Stat P G A reg ops up its) : ∀ (l : List Nat) (ran : List Nat) (env em : Env), Inv P G A S0 w0 ops up its K L ran (l.flatMap (itAt its) ++ R) Q env em h S a w → runsOk ops up its ran l = true →
    ∃ env' em', Inv P G A S0 w0 ops up its K L (ran ++ l) R Q env' em' h S a w
  | [], ran, env, em, hi, _ => ⟨env, em, by simpa using hi⟩
  | i :: l, ran, env, em, hi, hl => by
    simp only [runsOk, Bool.and_eq_true] at hl
    rw [List.flatMap_cons, List.append_assoc] at hi
    obtain ⟨env', em', hi'⟩ := hi.run1 st hl.1
    obtain ⟨env2, em2, hi2⟩ := Inv.runs st l (ran ++ [i]) env' em' hi' hl.2
    exact ⟨env2, em2, by simpa using hi2⟩

/-- what was carried out once more -/
theorem chk_all {C : CallT} : ∀ (l : List Nat), wItems C (l.flatMap (fun j => chkM (itAt its j)) ++ R) Q env h → wItems C R Q env h ∧
    ∀ j ∈ l, ∀ d g p, itAt its j = [.op (some d) g p] → needChk p = true → ∃ b, wanted env g = some b ∧ (b = true → ∃ v e' h', evalOp env h p = some (v, e', h') ∧ env.get d = some v)
  | [], hW => ⟨by simpa using hW, fun j hj => by cases hj⟩
  | i :: l, hW => by
    rw [List.flatMap_cons, List.append_assoc] at hW
    by_cases hc : ∃ d g p, itAt its i = [.op (some d) g p] ∧ needChk p = true
    · obtain ⟨d, g, p, hx, hn⟩ := hc
      have hck : chkM (itAt its i) = [.chk d g p] := by rw [hx]; simp [chkM, hn]
      rw [hck] at hW
      simp only [List.cons_append, List.nil_append, wItems] at hW
      have fin : ∀ b, wanted env g = some b → (b = true → ∃ v e' h', evalOp env h p = some (v, e', h') ∧ env.get d = some v) → wItems C (l.flatMap (fun j => chkM (itAt its j)) ++ R) Q env h → wItems C R Q env h ∧
          ∀ j ∈ i :: l, ∀ d g p, itAt its j = [.op (some d) g p] → needChk p = true → ∃ b, wanted env g = some b ∧ (b = true → ∃ v e' h', evalOp env h p = some (v, e', h') ∧ env.get d = some v) := fun b h1 h2 h3 => by
        obtain ⟨k1, k2⟩ := chk_all l h3
        refine ⟨k1, fun j hj d' g' p' hx' hn' => ?_⟩
        rcases List.mem_cons.1 hj with rfl | hj
        · rw [hx] at hx'
          simp only [List.cons.injEq, Item.op.injEq, Option.some.injEq, and_true] at hx'
          obtain ⟨rfl, rfl, rfl⟩ := hx'
          exact ⟨b, h1, h2⟩
        · exact k2 j hj d' g' p' hx' hn'
      split at hW
      · rename_i hwt
        split at hW
        · rename_i v e' h' hev
          exact fin true hwt (fun _ => ⟨v, e', h', hev, hW.1⟩) hW.2
        · exact hW.elim
      · rename_i hwt
        exact fin false hwt (fun k => by cases k) hW
      · exact hW.elim
    · have hW' : wItems C (l.flatMap (fun j => chkM (itAt its j)) ++ R) Q env h := by
        have : chkM (itAt its i) = [] := by
          unfold chkM
          split
          · rename_i d g p hx
            split
            · rename_i hn; exact absurd ⟨d, g, p, hx, hn⟩ hc
            · rfl
          · rfl
        rw [this] at hW
        exact hW
      obtain ⟨k1, k2⟩ := chk_all l hW'
      refine ⟨k1, fun j hj d g p hx hn => ?_⟩
      rcases List.mem_cons.1 hj with rfl | hj
      · exact absurd ⟨d, g, p, hx, hn⟩ hc
      · exact k2 j hj d g p hx hn

end
end Go.AM

set_option linter.unusedVariables false
set_option linter.unusedSimpArgs false
namespace Go.AM
open Go
section
variable {P : Program} {G : GTab} {A : Ann} {S S' S0 : Sim} {e e' em env : Env} {h h' h2 : Heap} {a a' : Act} {w w' w0 : World} {o : Oper} {v : AV} {reg i f : Nat} {ops : Array Oper} {up : Array Nat} {its : List (List Item)} {K : List Nat} {ag : List Nat}
variable {L : Nat → Prop} {ran : List Nat} {Rem R : List Item} {Q : Env → Heap → Prop} {Qc : Go.Exit → Act → World → Prop} {Kc : Act → World → Prop}

theorem wr_slots {x : List Item} : ∀ s ∈ x.flatMap wrM, s ∈ x.flatMap slotsM := fun s hs => by
  obtain ⟨m, hm, hs⟩ := List.mem_flatMap.1 hs
  refine List.mem_flatMap.2 ⟨m, hm, ?_⟩
  cases m <;> simp only [wrM, List.not_mem_nil] at hs
  rename_i d g p
  simp only [slotsM, List.mem_append]
  right
  cases p <;> simp only [wrI, List.not_mem_nil] at hs
  rename_i n x y
  cases x <;> simp only [wrI, List.not_mem_nil, List.mem_singleton] at hs <;> subst hs <;> simp [slotsI, sl]

/-- the effect whose turn it is -/
theorem Inv.step_eff (st : Stat P G A reg ops up its) (hi : Inv P G A S0 w0 ops up its K L ran (itAt its f ++ (ag.flatMap (fun j => chkM (itAt its j)) ++ R)) Q env em h S a w) (ha : annOk A = true) (hdst : ∀ o ∈ ops.toList, ∀ d, o.dst = some d → A.adrs.contains d = true → d ∈ K)
    (ho : ops[f]? = some o) (hL : ¬ L f) (hpr : ∀ k, Pr ops f k → L k) (heff : effOk ops up its ran f ag = true)
    (hK : ∀ env' em' h' S' a' w', Inv P G A S0 w0 ops up its K (fun j => L j ∨ j = f) (ran ++ [f]) R Q env' em' h' S' a' w' → Kc a' w') :
    if Region.wanted o (yielded ops a.tmps) then o.wp P a w Kc Qc else Kc (a.put o.dst undef) w := by
  simp only [effOk, Bool.and_eq_true, Bool.not_eq_true', decide_eq_true_eq, List.all_eq_true] at heff
  obtain ⟨⟨⟨⟨⟨⟨hfn, hnr⟩, hnl⟩, hed⟩, _⟩, _⟩, hran⟩ := heff
  have hnr : f ∉ ran := fun k => by
    rw [← Bool.not_eq_true] at hnr
    exact hnr (by simpa using k)
  have hda : dstAt ops f = o.dst := by unfold dstAt; rw [ho]
  have hc := st.it f o ho
  have hne : ∀ j, Wait L ran j → j ≠ f := fun j hj k => by
    subst k
    rcases hj with hj | hj
    · exact hnr hj.1
    · exact hL hj.1
  have hfree : ∀ s, (dstAt ops f = some s ∨ s ∈ slotsAt its f) → ∀ j, Wait L ran j → dstAt ops j ≠ some s := fun s hs j hj => hi.free st hfn hL hpr (edge_pr hed) hs j hj (hne j hj)
  have hag : ∀ s ∈ slotsAt its f, em.get s = env.get s := fun s hs => hi.emE s fun j hj => hfree s (.inr hs) j hj
  have hag2 : ∀ d, o.dst = some d → em.get d = env.get d := fun s hs => hi.emE s fun j hj => hfree s (.inl (by rw [hda]; exact hs)) j hj
  have hmem : o ∈ ops.toList := List.mem_of_getElem? (l := ops.toList) (i := f) (by simpa using ho)
  refine run_item hc hi.fr hi.wi hag hag2 fun a1 w1 S1 env1 em1 h1 hn => ?_
  obtain ⟨hW, hchk⟩ := chk_all ag hn.wi
  have hwrP := item_wr hc
  have hWait : ∀ j, Wait (fun j => L j ∨ j = f) (ran ++ [f]) j → Wait L ran j := fun j hj => by
    rcases hj with ⟨k1, k2⟩ | ⟨k1, k2⟩
    · rcases List.mem_append.1 k1 with k1 | k1
      · exact .inl ⟨k1, fun k => k2 (.inl k)⟩
      · simp at k1; exact absurd (.inr k1) k2
    · simp only [List.mem_append, List.mem_singleton, not_or] at k2
      exact .inr ⟨k1.resolve_right k2.2, k2.1⟩
  have hWait2 : ∀ j, Wait L ran j → Wait (fun j => L j ∨ j = f) (ran ++ [f]) j := fun j hj => by
    have hjf := hne j hj
    rcases hj with ⟨k1, k2⟩ | ⟨k1, k2⟩
    · exact .inl ⟨List.mem_append_left _ k1, fun k => k.elim k2 hjf⟩
    · exact .inr ⟨.inl k1, fun k => (List.mem_append.1 k).elim k2 (by simpa using hjf)⟩
  -- slots that do not turn
  have keep : ∀ s, o.dst ≠ some s → s ∉ (itAt its f).flatMap wrM → env1.get s = env.get s ∧ em1.get s = em.get s := fun s h1 h2 => hn.chg.1 s h1 h2
  refine hK env1 em1 h1 S1 a1 w1 ⟨fun j hj => by rcases hj with hj | rfl; exact hi.lt j hj; exact hfn, fun j hj => ?_, fun j k hj hk => ?_, fun j k hj hk => ?_, fun j hj hjn => ?_, fun j hj hjn => ?_, hW, fun j hj hjn => ?_, hn.fr, fun j s hj hs => ?_, fun s hs => ?_, fun j hj hjn => ?_, fun j j' d1 d2 b hj hjn hj' hjn' q1 q2 q3 q4 => ?_, ?_⟩
  · rcases List.mem_append.1 hj with hj | hj
    · exact hi.ranlt j hj
    · simp at hj; subst hj; exact hfn
  · rcases hj with hj | rfl
    · exact .inl (hi.lcl j k hj hk)
    · exact .inl (hpr k hk)
  · rcases List.mem_append.1 hj with hj | hj
    · exact List.mem_append_left _ (hi.rcl j k hj hk)
    · simp at hj; subst hj; exact List.mem_append_left _ (edge_pr hed k hk)
  · rcases List.mem_append.1 hj with hj | hj
    · exact hi.pure j hj fun k => hjn (.inl k)
    · simp at hj; exact absurd (.inr hj) hjn
  · simp only [List.mem_append, List.mem_singleton, not_or] at hjn
    exact hi.early j (hj.resolve_right hjn.2) hjn.1
  · -- what waits still waits
    have hjr : j ∈ ran := by
      rcases List.mem_append.1 hj with hj | hj
      · exact hj
      · simp at hj; exact absurd (.inr hj) hjn
    have hjL : ¬ L j := fun k => hjn (.inl k)
    have hjw : Wait L ran j := .inl ⟨hjr, hjL⟩
    have hjlt := hi.ranlt j hjr
    have hjf := hne j hjw
    have hdj : ∀ s, (dstAt ops j = some s ∨ s ∈ slotsAt its j) → o.dst ≠ some s := fun s hs hd => by
      rcases st.sl f s j hfn hjlt (by rw [hda]; exact hd) hjf hs with hu | hu
      · exact hnr (st.closed_up hi.rcl (j + 1) j f (by omega) hjlt hfn (fun k hk => hi.rcl j k hjr hk) hu)
      · exact hjL (st.closed_up hi.lcl (f + 1) f j (by omega) hfn hjlt hpr hu)
    have hold := hi.pend j hjr hjL
    have hrj := hran j hjr
    have hup : inUp up f j = false := by
      cases hq : inUp up f j with
      | false => rfl
      | true => exact absurd (st.closed_up hi.lcl (f + 1) f j (by omega) hfn hjlt hpr hq) hjL
    rw [hup, hi.pure j hjr hjL] at hrj
    simp only [Bool.not_true, Bool.false_or, Bool.or_eq_true, Bool.and_eq_true, Bool.not_eq_true', List.all_eq_true, bne_iff_ne, ne_eq] at hrj
    obtain ⟨d, g, p, b, hx, hp, hwt, htrue, hfalse⟩ := hold
    have hdd := dst_of st hjlt hx
    have hsl : slotsAt its j = slG g ++ slotsI p := by unfold slotsAt; rw [hx]; simp [slotsM]
    rcases hrj with ⟨hja, hne'⟩ | ⟨hem', hwr⟩
    · obtain ⟨d', rfl, hnc⟩ : ∃ d', d = some d' ∧ needChk p = true := by
        rw [hx] at hne'
        cases d with
        | none => simp [chkM] at hne'
        | some d' =>
          cases hq : needChk p with
          | true => exact ⟨d', rfl, rfl⟩
          | false => simp [chkM, hq] at hne'
      obtain ⟨b', hwt', ht'⟩ := hchk j (by simpa using hja) d' g p hx hnc
      have hcj := st.it j _ (Array.getElem?_eq_getElem hjlt)
      rw [hx] at hcj
      obtain ⟨hdo, hgo, hco, hdn, hpg⟩ := item_dst hcj
      -- the guard's slot stays
      have hgs : ∀ s ∈ slG g, env1.get s = env.get s := fun s hs => by
        refine (keep s (hdj s (.inr (by rw [hsl]; exact List.mem_append_left _ hs))) fun hw => ?_).1
        have h9 := hwrP s hw
        unfold guardOf at hgo
        split at hgo
        · cases hgo; simp [slG] at hs
        · split at hgo
          · split at hgo
            · cases hgo
            · rename_i hpl
              cases hgo
              simp only [slG, List.mem_singleton] at hs
              subst hs
              simp only [Bool.or_eq_true, not_or] at hpl
              exact hpl.1 h9
          · cases hgo
      have hbb : b' = b := by
        rw [wanted_agree hgs, hwt] at hwt'
        cases hwt'; rfl
      subst hbb
      refine ⟨some d', g, p, b', hx, hp, hwt', fun hb => ?_, fun hb s hs => ?_⟩
      · obtain ⟨v, e1, h3, hev, hv⟩ := ht' hb
        obtain ⟨rfl, rfl⟩ := pure_env hp hev
        exact ⟨v, hev, fun s hs => by cases hs; exact hv⟩
      · cases hs
        have hgn : A.prom.contains d' = false := by
          cases hq : A.prom.contains d' with
          | false => rfl
          | true =>
            have := hpg d' hdo hq
            rw [this] at hgo
            simp only [guardOf, Option.some.injEq] at hgo
            subst hgo
            simp only [wanted, Option.some.injEq] at hwt
            rw [← hwt] at hb; cases hb
        rw [(keep d' (hdj d' (.inl hdd)) fun hw => by have := hwrP d' hw; rw [hgn] at this; cases this).1]
        exact hfalse hb d' rfl
    · have hnc : needChk p = false := by
        obtain ⟨_, hpm⟩ := pure_war (hi.pure j hjr hjL)
        rw [hx] at hem' hpm
        cases hq : needChk p with
        | false => rfl
        | true =>
          cases d with
          | none => simp [pureM, hq] at hpm
          | some d' => simp [chkM, hq] at hem'
      have hk : ∀ s, (dstAt ops j = some s ∨ s ∈ slotsAt its j) → env1.get s = env.get s := fun s hs => by
        refine (keep s (hdj s hs) fun hw => ?_).1
        obtain ⟨k1, k2⟩ := hwr s hw
        rcases hs with hs | hs
        · exact k2 hs
        · rw [← Bool.not_eq_true] at k1
          exact k1 (by simpa using hs)
      have hpend : Pend env h (itAt its j) := ⟨d, g, p, b, hx, hp, hwt, htrue, hfalse⟩
      refine hpend.keep (d := dstAt ops j) (fun d' g' p' hx' => (dst_of st hjlt hx').symm) (fun s hs => hk s (.inr hs)) (fun s hs => hk s (.inl hs)) (.inr fun d2 g2 p2 hx2 => ?_)
      rw [hx] at hx2
      cases hx2
      exact hnc
  · have hj' := hWait j hj
    have h8 : ∀ s', (dstAt ops f = some s' ∨ s' ∈ slotsAt its f) → s ≠ s' := fun s' hs' k => hfree s' hs' j hj' (by rw [← k]; exact hs)
    rw [(keep s (fun k => h8 s (.inl (by rw [hda]; exact k)) rfl) fun hw => h8 s (.inr (wr_slots s hw)) rfl).2]
    exact hi.emN j s hj' hs
  · by_cases h1 : o.dst = some s
    · exact hn.chg.2 s (.inl h1)
    · by_cases h2 : s ∈ (itAt its f).flatMap wrM
      · exact hn.chg.2 s (.inr h2)
      · obtain ⟨k1, k2⟩ := keep s h1 h2
        rw [k1, k2]
        exact hi.emE s fun j hj => hs j (hWait2 j hj)
  · simp only [List.mem_append, List.mem_singleton, not_or] at hjn
    have hjL := hj.resolve_right hjn.2
    exact (hi.jk j hjL hjn.1).keep hn.frm fun s hs => hn.tmk s fun k => hfree s (.inl (by rw [hda]; exact k)) j (.inr ⟨hjL, hjn.1⟩) hs
  · simp only [List.mem_append, List.mem_singleton, not_or] at hjn hjn'
    have hjL := hj.resolve_right hjn.2
    have hjL' := hj'.resolve_right hjn'.2
    rw [hn.tmk d1 fun k => hfree d1 (.inl (by rw [hda]; exact k)) j (.inr ⟨hjL, hjn.1⟩) q1] at q3
    rw [hn.tmk d2 fun k => hfree d2 (.inl (by rw [hda]; exact k)) j' (.inr ⟨hjL', hjn'.1⟩) q2] at q4
    exact hi.jd j j' d1 d2 b hjL hjn.1 hjL' hjn'.1 q1 q2 q3 q4
  · exact adrIn_next hn hi.ad (fun s hs => .inl (by
      cases hq : A.adrs.contains s with
      | false => rfl
      | true =>
        have h1 := hwrP s hs
        rw [(annOk_spec ha).1 s hq] at h1
        cases h1)) (hdst o hmem)

end
end Go.AM

set_option linter.unusedVariables false
set_option linter.unusedSimpArgs false
namespace Go.AM
open Go
section
variable {P : Program} {G : GTab} {A : Ann} {S S' S0 : Sim} {e e' em env : Env} {h h' h2 : Heap} {a a' : Act} {w w' w0 : World} {o : Oper} {v : AV} {reg i f : Nat} {ops : Array Oper} {up : Array Nat} {its : List (List Item)} {K : List Nat} {ag : List Nat}
variable {L : Nat → Prop} {ran : List Nat} {Rem R : List Item} {Q : Env → Heap → Prop} {Qc : Go.Exit → Act → World → Prop} {Kc : Act → World → Prop}

/-- where the canonical order stands -/
def Pos (P : Program) (G : GTab) (A : Ann) (S0 : Sim) (w0 : World) (ops : Array Oper) (up : Array Nat) (its : List (List Item)) (K : List Nat) (last lts : List Nat) (L : Nat → Prop) (Q : Env → Heap → Prop) (a : Act) (w : World) : Prop :=
  ∃ ran env em h S,
    (∃ (s : Stage) (st : List Stage), Inv P G A S0 w0 ops up its K L ran (s.lates.flatMap (itAt its) ++ (itAt its s.eff ++ (s.again.flatMap (fun j => chkM (itAt its j)) ++ schedItems its st last lts))) Q env em h S a w ∧
      latesOk ops up its ran s.lates = true ∧ (∀ j ∈ s.lates, inUp up s.eff j = true) ∧ effOk ops up its (ran ++ s.lates) s.eff s.again = true ∧ schedOk ops up its (ran ++ s.lates ++ [s.eff]) st last lts = true) ∨
    (Inv P G A S0 w0 ops up its K L ran (lts.flatMap (itAt its)) Q env em h S a w ∧ latesOk ops up its ran lts = true ∧ ∀ j, j < ops.size → j ∈ ran ∨ j ∈ lts)

theorem Inv.settle (st : Stat P G A reg ops up its) {stg : List Stage} {last lts : List Nat} (hi : Inv P G A S0 w0 ops up its K L ran (schedItems its stg last lts) Q env em h S a w) (hs : schedOk ops up its ran stg last lts = true) : Pos P G A S0 w0 ops up its K last lts L Q a w := by
  cases stg with
  | nil =>
    simp only [schedOk, Bool.and_eq_true, List.all_eq_true] at hs
    obtain ⟨⟨h1, h2⟩, h3⟩ := hs
    simp only [schedItems] at hi
    obtain ⟨env', em', hi'⟩ := hi.runs st last ran env em h1
    refine ⟨ran ++ last, env', em', h, S, .inr ⟨hi', h2, fun j hj => ?_⟩⟩
    have := h3 j (mem_rng hj)
    simp only [List.contains_eq_mem, decide_eq_true_eq] at this
    rcases List.mem_append.1 this with k | k
    · exact .inl k
    · exact .inr k
  | cons s stg =>
    simp only [schedOk, Bool.and_eq_true, List.all_eq_true] at hs
    obtain ⟨⟨⟨⟨h1, h2⟩, h3⟩, h4⟩, h5⟩ := hs
    simp only [schedItems] at hi
    obtain ⟨env', em', hi'⟩ := hi.runs st s.runs ran env em h1
    exact ⟨ran ++ s.runs, env', em', h, S, .inl ⟨s, stg, hi', h2, h3, h4, h5⟩⟩

/-- one step of any order -/
theorem Pos.step (st : Stat P G A reg ops up its) {last lts : List Nat} (hp : Pos P G A S0 w0 ops up its K last lts L Q a w) (ha : annOk A = true) (hdst : ∀ o ∈ ops.toList, ∀ d, o.dst = some d → A.adrs.contains d = true → d ∈ K)
    (ho : ops[i]? = some o) (hL : ¬ L i) (hpr : ∀ k, Pr ops i k → L k) (hK : ∀ a' w', Pos P G A S0 w0 ops up its K last lts (fun j => L j ∨ j = i) Q a' w' → Kc a' w') :
    if Region.wanted o (yielded ops a.tmps) then o.wp P a w Kc Qc else Kc (a.put o.dst undef) w := by
  have hin : i < ops.size := (Array.getElem?_eq_some_iff.1 ho).1
  obtain ⟨ran, env, em, h, S, hp⟩ := hp
  by_cases hr : i ∈ ran
  · rcases hp with ⟨s, stg, hi, h2, h3, h4, h5⟩ | ⟨hi, h2, h3⟩
    · exact hi.step_pend st ha hdst ho hr hL hpr fun em' S' a' w' hi' => hK a' w' ⟨ran, env, em', h, S', .inl ⟨s, stg, hi', h2, h3, h4, h5⟩⟩
    · exact hi.step_pend st ha hdst ho hr hL hpr fun em' S' a' w' hi' => hK a' w' ⟨ran, env, em', h, S', .inr ⟨hi', h2, h3⟩⟩
  · by_cases hl : lateAt ops up its i = true
    · rcases hp with ⟨s, stg, hi, h2, h3, h4, h5⟩ | ⟨hi, h2, h3⟩
      · exact hi.step_late st ho hr hL hpr hl fun em' S' a' w' hi' => hK a' w' ⟨ran, env, em', h, S', .inl ⟨s, stg, hi', h2, h3, h4, h5⟩⟩
      · exact hi.step_late st ho hr hL hpr hl fun em' S' a' w' hi' => hK a' w' ⟨ran, env, em', h, S', .inr ⟨hi', h2, h3⟩⟩
    · have lateof : ∀ (l : List Nat) ran, latesOk ops up its ran l = true → ∀ j ∈ l, lateAt ops up its j = true := by
        intro l
        induction l with
        | nil => intro ran _ j hj; cases hj
        | cons x l ih =>
          intro ran hx j hj
          simp only [latesOk, Bool.and_eq_true] at hx
          rcases List.mem_cons.1 hj with rfl | hj
          · exact hx.1.1.1.1
          · exact ih _ hx.2 j hj
      rcases hp with ⟨s, stg, hi, h2, h3, h4, h5⟩ | ⟨hi, h2, h3⟩
      · have heff := h4
        simp only [effOk, Bool.and_eq_true, Bool.not_eq_true', decide_eq_true_eq, List.all_eq_true] at heff
        obtain ⟨⟨⟨⟨⟨⟨hfn, hnr⟩, hnl⟩, hed⟩, hfront⟩, _⟩, _⟩ := heff
        have hif : i = s.eff := by
          simp only [frontOk, List.all_eq_true] at hfront
          have := hfront i (mem_rng hin)
          rw [ho] at this
          simp only [Bool.or_eq_true, List.contains_eq_mem, decide_eq_true_eq, beq_iff_eq, Option.some.injEq] at this
          rcases this with ((k | k) | k) | k
          · rcases List.mem_append.1 k with k | k
            · exact absurd k hr
            · exact absurd (lateof _ _ h2 i k) hl
          · exact k.symm
          · exact absurd k hl
          · rw [Array.any_eq_true'] at k
            obtain ⟨e, he, k⟩ := k
            simp only [Bool.and_eq_true, Bool.not_eq_true', decide_eq_false_iff_not] at k
            obtain ⟨⟨k1, k2⟩, k3⟩ := k
            have hLe := hpr e.on ⟨o, e, ho, he, k1, rfl⟩
            have := hi.early e.on hLe fun k => k2 (List.mem_append_left _ k)
            rw [this] at k3; cases k3
        subst hif
        have hlate : ∀ j ∈ s.lates, L j := fun j hj => by
          have hj2 : j < ops.size := by
            have : ∀ (l : List Nat) ran, latesOk ops up its ran l = true → ∀ j ∈ l, j < ops.size := by
              intro l
              induction l with
              | nil => intro ran _ j hj; cases hj
              | cons x l ih =>
                intro ran hx j hj
                simp only [latesOk, Bool.and_eq_true, decide_eq_true_eq] at hx
                rcases List.mem_cons.1 hj with rfl | hj
                · exact hx.1.1.1.2
                · exact ih _ hx.2 j hj
            exact this _ _ h2 j hj
          exact st.closed_up hi.lcl (s.eff + 1) s.eff j (by omega) hfn hj2 hpr (h3 j hj)
        obtain ⟨env', em', h', S', hi'⟩ := hi.adopts st s.lates ran env em h S h2 hlate
        exact hi'.step_eff st ha hdst ho hL hpr h4 fun env2 em2 h2' S2 a2 w2 hi2 => hK a2 w2 (hi2.settle st h5)
      · rcases h3 i hin with k | k
        · exact absurd k hr
        · exact absurd (lateof _ _ h2 i k) hl

/-- all was carried out -/
theorem Pos.finish (st : Stat P G A reg ops up its) {last lts : List Nat} (hp : Pos P G A S0 w0 ops up its K last lts L Q a w) (hall : ∀ i, i < ops.size → L i) : ∃ S env h, FRel A G S0 w0 S h env a w ∧ AdrIn K env ∧ Q env h := by
  obtain ⟨ran, env, em, h, S, hp⟩ := hp
  rcases hp with ⟨s, stg, hi, h2, h3, h4, h5⟩ | ⟨hi, h2, h3⟩
  · simp only [effOk, Bool.and_eq_true, Bool.not_eq_true', decide_eq_true_eq, List.all_eq_true] at h4
    obtain ⟨⟨⟨⟨⟨⟨hfn, hnr⟩, hnl⟩, hed⟩, hfront⟩, _⟩, _⟩ := h4
    have hnr' : s.eff ∉ ran := fun k => by
      rw [← Bool.not_eq_true] at hnr
      exact hnr (by simp [k])
    have := hi.early s.eff (hall _ hfn) hnr'
    rw [hnl] at this; cases this
  · have hlt : ∀ i ∈ lts, L i := fun i hi' => by
      have : ∀ (l : List Nat) ran, latesOk ops up its ran l = true → ∀ j ∈ l, j < ops.size := by
        intro l
        induction l with
        | nil => intro ran _ j hj; cases hj
        | cons x l ih =>
          intro ran hx j hj
          simp only [latesOk, Bool.and_eq_true, decide_eq_true_eq] at hx
          rcases List.mem_cons.1 hj with rfl | hj
          · exact hx.1.1.1.2
          · exact ih _ hx.2 j hj
      exact hall i (this _ _ h2 i hi')
    obtain ⟨env', em', h', S', hi'⟩ := Inv.adopts (R := []) st lts ran env em h S (by simpa using hi) h2 hlt
    have heq : ∀ s, em'.get s = env'.get s := fun s => hi'.emE s fun j hj => by
      rcases hj with ⟨k1, k2⟩ | ⟨k1, k2⟩
      · exact absurd (hall j (hi'.ranlt j k1)) k2
      · exact absurd (List.mem_append.2 (h3 j (hi'.lt j k1))) k2
    exact ⟨S', env', h', hi'.fr.congr fun s => (heq s).symm, fun j t off hj => hi'.ad j t off (by rw [heq]; exact hj), hi'.wi⟩

end
end Go.AM

set_option linter.unusedVariables false
set_option linter.unusedSimpArgs false
namespace Go.AM
open Go
section
variable {P : Program} {G : GTab} {A : Ann} {S S' S0 : Sim} {e e' em env : Env} {h h' h2 : Heap} {a a' : Act} {w w' w0 : World} {o : Oper} {v : AV} {reg i f : Nat} {ops : Array Oper} {up : Array Nat} {its : List (List Item)} {K : List Nat} {ag : List Nat}
variable {ran : List Nat} {Rem R : List Item} {Q : Env → Heap → Prop} {Qc : Go.Exit → Act → World → Prop} {Kc : Act → World → Prop}

def Lst (listed : Array Bool) (i : Nat) : Prop := listed.getD i false = true

theorem ready_spec {listed : Array Bool} (hs : listed.size = ops.size) {i : Nat} : i ∈ Region.ready .any ops listed ↔ ∃ o, ops[i]? = some o ∧ ¬ Lst listed i ∧ ∀ k, Pr ops i k → Lst listed k := by
  unfold Region.ready
  rw [List.mem_filter]
  constructor
  · rintro ⟨h1, h2⟩
    have hin := List.mem_range.1 h1
    have ho : ops[i]? = some (ops[i]'hin) := Array.getElem?_eq_getElem _
    rw [ho] at h2
    simp only [Option.map_some, Option.getD_some, Bool.and_eq_true, Bool.not_eq_true', Array.all_eq_true_iff_forall_mem] at h2
    refine ⟨_, ho, fun k => ?_, fun k ⟨o, e, ho', he, hb, hk⟩ => ?_⟩
    · unfold Lst at k
      have hl : i < listed.size := by omega
      simp [hl] at k h2
      rw [h2.1] at k; cases k
    · rw [ho] at ho'; cases ho'
      have := h2.2 e he
      rw [hb] at this
      subst hk
      simpa [Lst] using this
  · rintro ⟨o, ho, h1, h2⟩
    have hin := (Array.getElem?_eq_some_iff.1 ho).1
    refine ⟨List.mem_range.2 hin, ?_⟩
    rw [ho]
    simp only [Option.map_some, Option.getD_some, Bool.and_eq_true, Bool.not_eq_true', Array.all_eq_true_iff_forall_mem]
    refine ⟨?_, fun e he => ?_⟩
    · have hl : i < listed.size := by omega
      unfold Lst at h1
      simp [hl] at h1 ⊢
      exact h1
    · cases hb : Region.binds .any e with
      | false => rfl
      | true => simpa [Lst] using h2 e.on ⟨o, e, ho, he, hb, rfl⟩

theorem draw_main (st : Stat P G A reg ops up its) (ha : annOk A = true) (hdst : ∀ o ∈ ops.toList, ∀ d, o.dst = some d → A.adrs.contains d = true → d ∈ K) {last lts : List Nat}
    (hpost : ∀ S env h a w, FRel A G S0 w0 S h env a w → AdrIn K env → Q env h → Qc .normal a w) :
    ∀ (fuel : Nat) (listed : Array Bool) (l : List Nat) (a : Act) (w : World), listed.size = ops.size → l.length ≤ fuel → (∀ i, i < ops.size → ¬ Lst listed i → i ∈ l) → Pos P G A S0 w0 ops up its K last lts (Lst listed) Q a w → wpAny P .any ops Qc fuel listed a w := by
  have hall : ∀ (listed : Array Bool), listed.size = ops.size → Region.ready .any ops listed = [] → ∀ i, i < ops.size → Lst listed i := fun listed hs hr => by
    intro i
    induction i using Nat.strongRecOn with
    | _ i ih =>
      intro hin
      apply Classical.byContradiction
      intro hn
      have : i ∈ Region.ready .any ops listed := (ready_spec hs).2 ⟨_, Array.getElem?_eq_getElem hin, hn, fun k hk => ih k (st.back i k hk) (Nat.lt_trans (st.back i k hk) hin)⟩
      rw [hr] at this; cases this
  have hend : ∀ (listed : Array Bool) a w, listed.size = ops.size → Pos P G A S0 w0 ops up its K last lts (Lst listed) Q a w → Region.ready .any ops listed = [] → Qc .normal a w := fun listed a w hs hp hr => by
    obtain ⟨S, env, h, h1, h2, h3⟩ := hp.finish st (hall listed hs hr)
    exact hpost S env h a w h1 h2 h3
  intro fuel
  induction fuel with
  | zero =>
    intro listed l a w hs hl hcov hp
    have hl0 : l = [] := List.length_eq_zero_iff.1 (by omega)
    have hr : Region.ready .any ops listed = [] := by
      cases hq : Region.ready .any ops listed with
      | nil => rfl
      | cons i r =>
        obtain ⟨o, ho, h1, _⟩ := (ready_spec hs).1 (show i ∈ Region.ready .any ops listed by rw [hq]; simp)
        have := hcov i (Array.getElem?_eq_some_iff.1 ho).1 h1
        rw [hl0] at this; cases this
    exact ⟨hr, hend listed a w hs hp hr⟩
  | succ fuel ih =>
    intro listed l a w hs hl hcov hp
    refine ⟨hend listed a w hs hp, fun i hi => ?_⟩
    obtain ⟨o, ho, h1, h2⟩ := (ready_spec hs).1 hi
    have hin := (Array.getElem?_eq_some_iff.1 ho).1
    have hLe : ∀ j, Lst (listed.setIfInBounds i true) j ↔ Lst listed j ∨ j = i := fun j => by
      unfold Lst
      have hil : i < listed.size := by omega
      by_cases hj : j = i
      · subst hj; simp [hil]
      · have : i ≠ j := fun k => hj k.symm
        simp [hj, Array.getElem?_setIfInBounds_ne this]
    have hLeq : (fun j => Lst listed j ∨ j = i) = Lst (listed.setIfInBounds i true) := by
      funext j; exact propext (hLe j).symm
    have key := hp.step (Qc := Qc) (Kc := wpAny P .any ops Qc fuel (listed.setIfInBounds i true)) st ha hdst ho h1 h2 fun a' w' hp' => by
      rw [hLeq] at hp'
      refine ih _ (l.erase i) a' w' (by simp [hs]) ?_ (fun j hj hn => ?_) hp'
      · rw [List.length_erase_of_mem (hcov i hin h1)]; omega
      · rw [hLe] at hn
        have hji : j ≠ i := fun k => hn (.inr k)
        exact (List.mem_erase_of_ne hji).2 (hcov j hj fun k => hn (.inl k))
    unfold wpOp
    rw [ho]
    simp only
    split
    · rename_i hw; rw [if_pos hw] at key; exact .inl key
    · rename_i hw; rw [if_neg hw] at key; exact key

end
end Go.AM

set_option linter.unusedVariables false
set_option linter.unusedSimpArgs false
namespace Go.AM
open Go
section
variable {P : Program} {G : GTab} {A : Ann} {S S' S0 : Sim} {e e' em env : Env} {h h' h2 : Heap} {a a' : Act} {w w' w0 : World} {o : Oper} {v : AV} {reg i f : Nat} {ops : Array Oper} {up : Array Nat} {its : List (List Item)} {K : List Nat} {ag : List Nat}
variable {ran : List Nat} {Rem R : List Item} {Q : Env → Heap → Prop} {Qc : Go.Exit → Act → World → Prop} {Kc : Act → World → Prop}

theorem FRel.drew (hf : FRel A G S0 w0 S h env a w) {n : Nat} : FRel A G S0 w0 S h env a { w with drawn := n } :=
  ⟨hf.ext.trans (.drawn S w n), hf.wr.heap rfl, hf.er.ext (.drawn S w n), hf.low⟩

/-- the beginning of a region whose order is drawn -/
theorem draw_start (hf : FRel A G S0 w0 S h env a w) (hk : AdrIn K env) {stg : List Stage} {last lts : List Nat} (hW : wItems (ACall P G) (schedItems its stg last lts) Q env h) :
    Inv P G A S0 w0 ops up its K (Lst (Array.replicate ops.size false)) [] (schedItems its stg last lts) Q env env h S a w := by
  have hL : ∀ i, ¬ Lst (Array.replicate ops.size false) i := fun i k => by
    unfold Lst at k
    simp [Array.getD_eq_getD_getElem?, Array.getElem?_replicate] at k
    split at k <;> simp at k
  refine ⟨fun i k => (hL i k).elim, fun i k => (by cases k), fun i j k => (hL i k).elim, fun i j k => (by cases k), fun i k => (by cases k), fun i k => (hL i k).elim, hW, fun i k => (by cases k), hf, fun j s hj => ?_, fun s _ => rfl, fun j k => (hL j k).elim, fun j j' d d' b k => (hL j k).elim, hk⟩
  rcases hj with hj | hj
  · cases hj.1
  · exact (hL j hj.1).elim

end
end Go.AM

set_option linter.unusedVariables false
set_option linter.unusedSimpArgs false
namespace Go.AM
open Go
section
variable {P : Program} {G : GTab} {A : Ann} {S S' S0 : Sim} {e e' em env : Env} {h h' h2 : Heap} {a a' : Act} {w w' w0 : World} {ops : Array Oper}
variable {Qc : Go.Exit → Act → World → Prop} {post : Post}

def exitOf : AM.Exit → Go.Exit
  | .normal => .normal
  | .exit id => .exit id
  | .ret => .ret

/-- the abstract machine's answers are the program's -/
def Fits (A : Ann) (G : GTab) (S0 : Sim) (w0 : World) (post : Post) (Qc : Go.Exit → Act → World → Prop) : Prop :=
  ∀ x S env h a w, FRel A G S0 w0 S h env a w → NoAdr env → post x env h → Qc (exitOf x) a w

theorem kills_mem {d : Nat} {o : Oper} (ho : o ∈ ops.toList) (hd : o.dst = some d) (ha : A.adrs.contains d = true) : d ∈ killsOf A ops := by
  unfold killsOf
  rw [List.mem_filterMap]
  exact ⟨o, ho, by simp only [hd, ha, if_true]⟩
theorem kills_prom (ha : annOk A = true) : ∀ d ∈ killsOf A ops, A.prom.contains d = false := fun d hd => by
  unfold killsOf at hd
  rw [List.mem_filterMap] at hd
  obtain ⟨o, _, h⟩ := hd
  split at h
  · split at h
    · rename_i hq
      cases h
      exact (annOk_spec ha).1 _ hq
    · cases h
  · cases h

theorem regionIR_W {C : CallT} {l : List Item} (hW : W C (regionIR A ops l) post env h) : wItems C l (fun e h => post .normal (Env.dels e (killsOf A ops)) h) (Env.dels env (newsOf A ops)) h := by
  unfold regionIR at hW
  split at hW
  · rename_i hk
    rw [hk]
    exact hW
  · exact hW

theorem region_end (ha : annOk A = true) (hfit : Fits A G S0 w0 post Qc) : ∀ S env h a w, FRel A G S0 w0 S h env a w → AdrIn (killsOf A ops) env → post .normal (Env.dels env (killsOf A ops)) h → Qc .normal a w := fun S env h a w hf hk hq =>
  hfit .normal S _ h a w (hf.dels (kills_prom ha)) (fun i t off hi => by
    rw [dels_get] at hi
    split at hi
    · cases hi
    · rename_i hn
      exact hn (hk i t off hi)) hq

theorem region_sound {id : Nat} {draw : Bool} {ir : IR} (ha : annOk A = true) (hm : P.follows .mixedOrders = true) (hc : compCode P G A (.region id ops draw) = some ir) (hf : FRel A G S0 w0 S h env a w) (hn : NoAdr env) (hW : W (ACall P G) ir post env h) (hfit : Fits A G S0 w0 post Qc) : (Code.region id ops draw).wp P Qc a w := by
  have hf' := hf.news hn (l := newsOf A ops)
  have hk' : AdrIn (killsOf A ops) (Env.dels env (newsOf A ops)) := fun i t off hi => by
    rw [dels_get] at hi
    split at hi
    · cases hi
    · exact absurd hi (hn i t off)
  have hdst : ∀ o ∈ ops.toList, ∀ d, o.dst = some d → A.adrs.contains d = true → d ∈ killsOf A ops := fun o ho d hd hq => kills_mem ho hd hq
  simp only [compCode] at hc
  split at hc
  · rename_i hdraw
    subst hdraw
    split at hc
    · rename_i its hits
      split at hc
      · rename_i hok
        simp only [Bool.and_eq_true] at hok
        obtain ⟨⟨⟨h1, h2⟩, h3⟩, h4⟩ := hok
        cases hc
        have st := stat_of h1 h2 h3 hits
        have hi := draw_start (its := its) (ops := ops) (up := Region.before ops) (hf'.drew (n := w.drawn + 1)) hk' (regionIR_W hW)
        refine wp_region_any hm ?_
        exact draw_main st ha hdst (region_end ha hfit) ops.size _ (List.range ops.size) a _ (by simp) (by simp) (fun i hi _ => List.mem_range.2 hi) (hi.settle st h4)
      · cases hc
    · cases hc
  · rename_i hdraw
    simp only [Bool.not_eq_true] at hdraw
    subst hdraw
    split at hc
    · rename_i l hl
      cases hc
      exact wp_region (compAll_seq ha (hdst := hdst) (region_end ha hfit) _ _ S _ h a w hl hf' hk' (regionIR_W hW))
    · cases hc

end
end Go.AM

set_option linter.unusedVariables false
set_option linter.unusedSimpArgs false
namespace Go.AM
open Go
section
variable {P : Program} {G : GTab} {A : Ann} {S0 : Sim} {w0 : World}

theorem code_sound (ha : annOk A = true) (hm : P.follows .mixedOrders = true) : ∀ (c : Code) (ir : IR) (post : Post) (Qc : Go.Exit → Act → World → Prop) (S : Sim) (env : Env) (h : Heap) (a : Act) (w : World),
    compCode P G A c = some ir → FRel A G S0 w0 S h env a w → NoAdr env → W (ACall P G) ir post env h → Fits A G S0 w0 post Qc → c.wp P Qc a w := by
  intro c
  induction c with
  | skip =>
    intro ir post Qc S env h a w hc hf hn hW hfit
    simp only [compCode, Option.some.injEq] at hc; subst hc
    exact wp_skip (hfit .normal S env h a w hf hn hW)
  | label l =>
    intro ir post Qc S env h a w hc hf hn hW hfit
    simp only [compCode, Option.some.injEq] at hc; subst hc
    exact wp_label (hfit .normal S env h a w hf hn hW)
  | region id ops draw =>
    intro ir post Qc S env h a w hc hf hn hW hfit
    exact region_sound ha hm hc hf hn hW hfit
  | seq x y ihx ihy =>
    intro ir post Qc S env h a w hc hf hn hW hfit
    simp only [compCode] at hc
    split at hc
    · rename_i u v hu hv
      cases hc
      refine wp_seq (ihx u _ _ S env h a w hu hf hn hW fun e S env h a w hf hn hp => ?_)
      cases e with
      | normal => exact ihy v post Qc S env h a w hv hf hn hp hfit
      | exit id => exact hfit (.exit id) S env h a w hf hn hp
      | ret => exact hfit .ret S env h a w hf hn hp
    · cases hc
  | cond c x y ihx ihy =>
    intro ir post Qc S env h a w hc hf hn hW hfit
    simp only [compCode] at hc
    split at hc
    · rename_i o u v ho hu hv
      cases hc
      simp only [W] at hW
      split at hW
      · rename_i hval
        have := opd_rel ho hf.er hf.wr hval
        simp only [VRel] at this
        exact wp_cond_true this (ihx u post Qc S env h a w hu hf hn hW hfit)
      · rename_i hval
        have := opd_rel ho hf.er hf.wr hval
        simp only [VRel] at this
        exact wp_cond_false this (ihy v post Qc S env h a w hv hf hn hW hfit)
      · exact hW.elim
    · cases hc
  | block id x ih =>
    intro ir post Qc S env h a w hc hf hn hW hfit
    simp only [compCode] at hc
    split at hc
    · rename_i u hu
      cases hc
      refine wp_block (ih u _ _ S env h a w hu hf hn hW fun e S env h a w hf hn hp => ?_)
      cases e with
      | normal => exact hfit .normal S env h a w hf hn hp
      | exit i =>
        simp only [exitOf, Go.Exit.inBlock]
        simp only at hp
        split
        · rename_i he; rw [if_pos he] at hp; exact hfit .normal S env h a w hf hn hp
        · rename_i he; rw [if_neg he] at hp; exact hfit (.exit i) S env h a w hf hn hp
      | ret => exact hfit .ret S env h a w hf hn hp
    · cases hc
  | loop x ih =>
    intro ir post Qc S env h a w hc hf hn hW hfit
    simp only [compCode] at hc
    split at hc
    · rename_i u hu
      cases hc
      have key := hW (fun env h => ∀ S a w, FRel A G S0 w0 S h env a w → NoAdr env → ∀ (b : Frame) (k : List Go.Item) (cs : List Frame), ∃ e a' w', Qc e a' w' ∧ Arrives P (lone (b.at a (.code x :: .inLoop x :: k)) cs w) b k cs e a' w') (fun env h hb S a w hf hn => by
        have hx := ih u _ (Go.Exit.then (fun a' w' => ∀ (b : Frame) (k : List Go.Item) (cs : List Frame), ∃ e a'' w'', Qc e a'' w'' ∧ Arrives P (lone (b.at a' (.code x :: .inLoop x :: k)) cs w') b k cs e a'' w'') Qc) S env h a w hu hf hn hb fun e S env h a w hf hn hp => by
          cases e with
          | normal => exact fun b k cs => hp S a w hf hn b k cs
          | exit i => exact hfit (.exit i) S env h a w hf hn hp
          | ret => exact hfit .ret S env h a w hf hn hp
        intro b k cs
        obtain ⟨e, a₁, w₁, hq, harr⟩ := hx b (.inLoop x :: k) cs
        cases e with
        | normal =>
          obtain ⟨e₂, a₂, w₂, hq₂, harr₂⟩ := hq b k cs
          exact ⟨e₂, a₂, w₂, hq₂, .of_steps (Steps.trans harr (.one step_inLoop)) harr₂⟩
        | exit id => exact ⟨_, a₁, w₁, hq, .pass (x := .inLoop x) rfl (fun _ _ => .inl (by simp)) harr⟩
        | goto l => exact ⟨_, a₁, w₁, hq, .pass (x := .inLoop x) rfl (fun _ _ => .inl (by simp)) harr⟩
        | ret => exact ⟨_, a₁, w₁, hq, .pass (x := .inLoop x) rfl (fun _ _ => .inl (by simp)) harr⟩
        | panic ch => exact ⟨_, a₁, w₁, hq, .pass (x := .inLoop x) rfl (fun _ _ => .inl (by simp)) harr⟩
        | outgrown => exact ⟨_, a₁, w₁, hq, .pass (x := .inLoop x) rfl (fun _ _ => .inl (by simp)) harr⟩)
      intro b k cs
      obtain ⟨e, a', w', hq, harr⟩ := key S a w hf hn b k cs
      exact ⟨e, a', w', hq, .of_steps (.one step_loop) harr⟩
    · cases hc
  | exit id =>
    intro ir post Qc S env h a w hc hf hn hW hfit
    simp only [compCode, Option.some.injEq] at hc; subst hc
    exact wp_exit (hfit (.exit id) S env h a w hf hn hW)
  | ret =>
    intro ir post Qc S env h a w hc hf hn hW hfit
    simp only [compCode, Option.some.injEq] at hc; subst hc
    exact wp_ret (hfit .ret S env h a w hf hn hW)
  | _ =>
    intro ir post Qc S env h a w hc hf hn hW hfit
    simp only [compCode] at hc
    cases hc

end
end Go.AM

set_option linter.unusedVariables false
set_option linter.unusedSimpArgs false
namespace Go.AM
open Go
section
variable {P : Program} {G : GTab} {A : Ann} {S S' S0 : Sim} {e e' em env : Env} {h h' h2 : Heap} {a a' : Act} {w w' w0 : World}

theorem ACall.mono {f : Nat} {args : List AV} {Q Q' : AV → Heap → Prop} (hc : ACall P G f args h Q) (hq : ∀ v h', Q v h' → Q' v h') : ACall P G f args h Q' :=
  ⟨hc.1, fun S w cargs hw hr => Calls.mono (hc.2 S w cargs hw hr) fun r w' ⟨c, v, S', h', h1, h2, h3⟩ => ⟨c, v, S', h', h1, hq v h' h2, h3⟩⟩

theorem WRel.less {h₀ : Heap} (hw : WRel G S h w) (hn : h₀.next = h.next) (hs : ∀ r x, h₀.get r = some x → h.get r = some x) : WRel G S h₀ w where
  obj r x hx := hw.obj r x (hs r x hx)
  inj := hw.inj
  tinj := hw.tinj
  rt := hw.rt
  ob := hw.ob
  Fc := hw.Fc
  Fr := hw.Fr
  Ft := hw.Ft
  nr r k := hw.nr r (by omega)
  nt t k := hw.nt t (by omega)
  no r k := by
    cases hq : h₀.get r with
    | none => rfl
    | some x => have := hs r x hq; rw [hw.no r (by omega)] at this; cases this
  gl := hw.gl

theorem ACall.forget {f : Nat} {args : List AV} {h₀ : Heap} {Q : AV → Heap → Prop} (hc : ACall P G f args h₀ Q) (hn : h₀.next = h.next) (hs : ∀ r x, h₀.get r = some x → h.get r = some x) : ACall P G f args h Q :=
  ⟨hc.1, fun S w cargs hw hr => hc.2 S w cargs (hw.less hn hs) hr⟩

theorem initEnv_get : ∀ (l : List AV) (n : Nat) (e : Env) (s : Nat), (initEnv n e l).get s = if n ≤ s ∧ s < n + l.length then l[s - n]? else e.get s
  | [], n, e, s => by simp [initEnv]; intro h1 h2; omega
  | v :: l, n, e, s => by
    simp only [initEnv]
    rw [initEnv_get l (n + 1) (e.put n v) s, Tr.get_put]
    by_cases h1 : n + 1 ≤ s ∧ s < n + 1 + l.length
    · rw [if_pos h1, if_pos (by simp; omega), show s - n = (s - (n + 1)) + 1 by omega, List.getElem?_cons_succ]
    · rw [if_neg h1]
      by_cases h2 : n = s
      · subst h2; rw [if_pos rfl, if_pos (by simp)]; simp
      · rw [if_neg h2, if_neg (by simp; omega)]

end
end Go.AM

set_option linter.unusedVariables false
set_option linter.unusedSimpArgs false
namespace Go.AM
open Go
section
variable {P : Program} {G : GTab} {A : Ann} {S S' S0 : Sim} {e e' em env : Env} {h h' h2 : Heap} {a a' : Act} {w w' w0 : World}

def resOf (tmps : Array Value) : ResultVar → Sem Value
  | .tmp t => pure (tmps.getD t undef)
  | .cell a t => do loadVar t (← asAddr (tmps.getD a undef))

theorem res_rel (hf : FRel A G S0 w0 S h env a w) : ∀ {rs : List ResultVar} {r : List ResV} {l : List AV}, compRes P A rs = some r → AM.results env h r = some l →
    ∃ vs : List Value, (rs.mapM (resOf a.tmps)).run P w = .ok vs w ∧ VRelL S l vs
  | [], r, l, hc, hr => by
    simp only [compRes, Option.some.injEq] at hc; subst hc
    simp only [AM.results, Option.some.injEq] at hr; subst hr
    exact ⟨[], by simp, .nil⟩
  | .tmp t :: rs, r, l, hc, hr => by
    simp only [compRes] at hc
    split at hc
    · rename_i r' hr'
      split at hc
      · cases hc
      · rename_i hpl
        cases hc
        simp only [AM.results] at hr
        split at hr
        · rename_i v hv
          split at hr
          · rename_i vs hvs
            cases hr
            obtain ⟨cs, h1, h2⟩ := res_rel hf hr' hvs
            simp only [AM.result] at hv
            simp only [Bool.or_eq_true, not_or, Bool.not_eq_true] at hpl
            refine ⟨tm a t :: cs, ?_, h2.cons (hf.slot hpl.1 hpl.2 hv)⟩
            simp only [List.mapM_cons, resOf, Sem.run_bind, Sem.run_pure, Result.andThen_ok, h1]
            rfl
          · cases hr
        · cases hr
    · cases hc
  | .cell t ty :: rs, r, l, hc, hr => by
    simp only [compRes] at hc
    split at hc
    · rename_i r' hr'
      split at hc
      · cases hc
      · rename_i hpl
        simp only [Bool.or_eq_true, Bool.not_eq_true', not_or, Bool.not_eq_true, Bool.not_eq_false] at hpl
        obtain ⟨hq, hc1⟩ := hpl
        have fin : ∀ v vs, (∃ c, (resOf a.tmps (.cell t ty)).run P w = .ok c w ∧ VRel S v c) → AM.results env h r' = some vs → l = v :: vs → ∃ vs : List Value, ((ResultVar.cell t ty :: rs).mapM (resOf a.tmps)).run P w = .ok vs w ∧ VRelL S l vs := fun v vs ⟨c, h1, h2⟩ hvs hl => by
          obtain ⟨cs, h3, h4⟩ := res_rel hf hr' hvs
          subst hl
          refine ⟨c :: cs, ?_, h4.cons h2⟩
          simp only [List.mapM_cons, Sem.run_bind, h1, Result.andThen_ok, h3, Sem.run_pure]
        cases hc
        simp only [AM.results] at hr
        split at hr
        · rename_i v hv
          split at hr
          · rename_i vs hvs
            cases hr
            refine fin v vs ?_ hvs rfl
            split at hv
            · rename_i hp
              simp only [AM.result] at hv
              split at hv
              · rename_i u hu
                obtain ⟨b, hb⟩ : ∃ b, tm a t = .pointer (some ⟨b, 0, none⟩) := by
                  have hs := hf.er.slot t u hu
                  unfold SlotRel at hs
                  rw [if_pos hp] at hs
                  obtain ⟨b, hb, _⟩ := hs
                  exact ⟨b, hb⟩
                obtain ⟨_, l0, el, fr, g1, g2, g3, g4⟩ := loc_row hf.er hp hu hb
                obtain ⟨c, k1, k2⟩ := cut_rel g2 hv
                refine ⟨c, ?_, k1⟩
                have hb' : a.tmps.getD t undef = .pointer (some ⟨b, 0, none⟩) := hb
                simp only [resOf, hb', asAddr, Sem.run_bind, Sem.run_pure, Result.andThen_ok]
                exact run_loadVar (off := 0) g4 hc1 (cell1_under hc1) k2
              · cases hv
            · rename_i hp
              simp only [AM.result] at hv
              split at hv
              · rename_i r off hu
                split at hv
                · rename_i cs hg
                  have hsl := hf.slot (by simpa using hp) hq hu
                  obtain ⟨b, base, lim, l0, hρ, g1, g2⟩ := obj_row hf.wr hg
                  simp only [VRel, hρ] at hsl
                  obtain ⟨c, k1, k2⟩ := cut_rel g1 hv
                  refine ⟨c, ?_, k1⟩
                  have hb' : a.tmps.getD t undef = .pointer (some ⟨b, base + off, none⟩) := hsl
                  simp only [resOf, hb', asAddr, Sem.run_bind, Sem.run_pure, Result.andThen_ok]
                  exact run_loadVar g2 hc1 (cell1_under hc1) k2
                · cases hv
              · cases hv
          · cases hr
        · cases hr
    · cases hc

end
end Go.AM

set_option linter.unusedVariables false
set_option linter.unusedSimpArgs false
namespace Go.AM
open Go
section
variable {P : Program} {G : GTab} {A : Ann} {S S' S0 : Sim} {e e' em env : Env} {h h' h2 : Heap} {a a' : Act} {w w' w0 : World}

theorem results_rel (hf : FRel A G S0 w0 S h env a w) {fn : Func} {r : List ResV} {l : List AV} (hc : compRes P A fn.results.toList = some r) (hr : AM.results env h r = some l) :
    ∃ c, (Go.results fn a.tmps).run P w = .ok c w ∧ VRel S (resultV l) c := by
  obtain ⟨vs, h1, h2⟩ := res_rel hf hc hr
  have h3 : (fn.results.mapM (resOf a.tmps)).run P w = .ok vs.toArray w := by
    rw [Array.mapM_eq_mapM_toList]
    simp [h1]
  have h4 : ∃ c, (Go.results fn a.tmps).run P w = .ok c w ∧ c = (if h : vs.toArray.size = 1 then vs.toArray[0] else .tuple vs.toArray) := by
    refine ⟨_, ?_, rfl⟩
    have e1 : Go.results fn a.tmps = (do let vs ← fn.results.mapM (resOf a.tmps); pure (if h : vs.size = 1 then vs[0] else .tuple vs) : Sem Value) := by
      unfold Go.results
      congr 1
    rw [e1]
    simp only [Sem.run_bind, h3, Result.andThen_ok, Sem.run_pure]
  obtain ⟨c, h5, h6⟩ := h4
  refine ⟨c, h5, ?_⟩
  have hlen := h2.len
  unfold resultV
  split
  · rename_i v
    simp only [VRelL] at h2
    obtain ⟨c1, cs, rfl, h7, h8⟩ := h2
    subst h8
    rw [h6]
    simpa using h7
  · rename_i hne
    have : vs.toArray.size ≠ 1 := fun k => by
      have hl1 : l.length = 1 := by rw [← hlen]; simpa using k
      obtain ⟨x, hx⟩ := List.length_eq_one_iff.1 hl1
      exact hne x hx
    rw [h6, dif_neg this]
    simp only [VRel]
    exact ⟨vs, rfl, h2⟩

theorem fn_sound (hm : P.follows .mixedOrders = true) {f : Nat} {fn : Func} {irf : IRFn} {args : List AV} {Q : AV → Heap → Prop} (hfn : P.funcs[f]? = some fn) (hc : compFn P G A fn = some irf) (hb : callBody (ACall P G) irf args h Q) : ACall P G f args h Q := by
  unfold compFn at hc
  simp only at hc
  split at hc
  · cases hc
  · rename_i hcond
    simp only [Bool.or_eq_true, not_or, Bool.not_eq_true, bne_eq_false_iff_eq, beq_eq_false_iff_ne, ne_eq, Bool.not_eq_false'] at hcond
    obtain ⟨⟨⟨⟨ha, hnt⟩, hname⟩, hprom⟩, hadrs⟩ := hcond
    split at hc
    · rename_i c hbody
      split at hc
      · rename_i b r hcode hres
        cases hc
        refine ⟨⟨fn, hfn, by rw [hbody]; rfl, hname⟩, fun S w cargs hw hrel => ?_⟩
        obtain ⟨hlen, hW⟩ := hb
        refine calls_of_wp hfn hbody ?_
        have hrel' : VRelL S (if A.keepArgs then args else args.map AV.er) cargs := by
          split
          · exact hrel
          · exact hrel.er
        generalize hargs : (if A.keepArgs then args else args.map AV.er) = args' at hrel'
        have hlen' : args'.length ≤ fn.params.size + fn.nfree := by
          rw [← hargs]
          split
          · exact hlen
          · rw [List.length_map]; exact hlen
        have hcl := hrel'.len
        have hge : ∀ t, A.prom.contains t = true ∨ A.adrs.contains t = true → fn.params.size + fn.nfree ≤ t := fun t ht => by
          rcases ht with ht | ht
          · have := List.all_eq_true.1 hprom t (by simpa using ht)
            simpa using this
          · have := List.all_eq_true.1 hadrs t (by simpa using ht)
            simpa using this
        have hget : ∀ i v, (initEnv 0 .lf args').get i = some v → args'[i]? = some v ∧ i < args'.length := fun i v hv => by
          rw [initEnv_get] at hv
          split at hv
          · rename_i h1; exact ⟨by simpa using hv, by omega⟩
          · rw [Tr.get_lf] at hv; cases hv
        have hpl : ∀ i v, (initEnv 0 .lf args').get i = some v → A.prom.contains i = false ∧ A.adrs.contains i = false := fun i v hv => by
          have := (hget i v hv).2
          refine ⟨?_, ?_⟩
          · cases hq : A.prom.contains i with
            | false => rfl
            | true => have := hge i (.inl hq); omega
          · cases hq : A.adrs.contains i with
            | false => rfl
            | true => have := hge i (.inr hq); omega
        let a0 : Act := { tmps := List.toArray cargs ++ Array.replicate (fn.ntmps - (List.toArray cargs).size) undef, defers := [] }
        have hf : FRel A G S w S h (initEnv 0 .lf args') a0 w := by
          refine ⟨.refl S w, hw, ⟨fun i v hv => ?_, fun i j b o p hi _ ⟨v, hv⟩ => ?_, ?_, rfl⟩, fun i v b o hi hv => ?_⟩
          · obtain ⟨h1, h2⟩ := hpl i v hv
            obtain ⟨h3, h4⟩ := hget i v hv
            unfold SlotRel
            rw [if_neg (by rw [h1]; simp), if_neg (by rw [h2]; simp)]
            obtain ⟨cv, h5, h6⟩ := hrel'.get i v h3
            have : tm a0 i = cv := by
              show (List.toArray cargs ++ Array.replicate _ undef).getD i undef = cv
              have hlt := (List.getElem?_eq_some_iff.1 h5).1
              rw [Array.getD_eq_getD_getElem?, Array.getElem?_append_left (by simpa using hlt)]
              simp [h5]
            rw [this]; exact h6
          · rw [(hpl i v hv).1] at hi; cases hi
          · have : A.ntmps = fn.ntmps := by simpa using hnt
            rw [this]
            show fn.ntmps ≤ (List.toArray cargs ++ Array.replicate _ undef).size
            simp; omega
          · rw [(hpl i v hv).1] at hi; cases hi
        have hn : NoAdr (initEnv 0 .lf args') := fun i t off hi => by
          obtain ⟨h1, _⟩ := adr_there hf.er hi
          rw [(hpl i _ hi).2] at h1; cases h1
        have hW' : W (ACall P G) b (endPost { body := b, results := r, nargs := fn.params.size + fn.nfree, keepArgs := A.keepArgs, keepRes := A.keepRes } Q) (initEnv 0 .lf args') h := by
          rw [← hargs]; exact hW
        refine code_sound ha hm c b _ _ S _ h _ w hcode hf hn hW' fun x S' env h' a' w' hf' hn' hp => ?_
        have fin : ∀ l, AM.results env h' r = some l → Q (IRFn.out { body := b, results := r, nargs := fn.params.size + fn.nfree, keepArgs := A.keepArgs, keepRes := A.keepRes } (resultV l)) h' → a'.defers = [] ∧ ∃ v, (Go.results fn a'.tmps).run P w' = .ok v w' ∧ ∃ c v_1 S'_1 h', Ending.returned v = Ending.returned c ∧ Q v_1 h' ∧ Ext S w S'_1 w' ∧ WRel G S'_1 h' w' ∧ VRel S'_1 v_1 c := fun l hl hq => by
          obtain ⟨cv, h1, h2⟩ := results_rel hf' hres hl
          refine ⟨hf'.er.defers, cv, h1, cv, _, S', h', rfl, hq, hf'.ext, hf'.wr, ?_⟩
          unfold IRFn.out
          split
          · exact h2
          · exact h2.erR
        cases x with
        | exit id => exact hp.elim
        | normal =>
          simp only [endPost] at hp
          split at hp
          · rename_i l hl; exact fin l hl hp
          · exact hp.elim
        | ret =>
          simp only [endPost] at hp
          split at hp
          · rename_i l hl; exact fin l hl hp
          · exact hp.elim
      · cases hc
    · cases hc

/-- THE MACHINE IS SOUND: a table of compiled functions is what calls of the program do. -/
theorem sys (hm : P.follows .mixedOrders = true) {fns : Nat → Option IRFn} (hfns : ∀ f irf, fns f = some irf → ∃ (A : Ann) (fn : Func), P.funcs[f]? = some fn ∧ compFn P G A fn = some irf) : Sys fns (ACall P G) where
  mono f args h Q Q' hc hq := hc.mono hq
  step f irf args h Q hf hb := by
    obtain ⟨A, fn, h1, h2⟩ := hfns f irf hf
    exact fn_sound hm h1 h2 hb
  forget f args h h₀ Q hc hn hs := hc.forget hn hs

end
end Go.AM
