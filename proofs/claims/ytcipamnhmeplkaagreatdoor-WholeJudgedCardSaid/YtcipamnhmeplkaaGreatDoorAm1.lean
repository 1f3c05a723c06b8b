/- Own work. This text shows: the abstract machine: values, heaps, operations, its meaning, and the translation of the model's code into it. -/
import GoSem.Core.View
import GoSem.Core.Ast
import GoSem.Core.Program
import GoSem.Core.Layout
import GoSem.Core.Region
/- The abstract machine: values, tries, heaps, operations. Own work. -/
set_option linter.unusedVariables false
namespace Go.AM

/-! ### Tries keyed by numbers -/

def bitsF : Nat → Nat → List Bool
  | 0, _ => []
  | f + 1, n => if n = 0 then [] else (n % 2 == 1) :: bitsF f (n / 2)
def bits (n : Nat) : List Bool := bitsF n n
def unbits : List Bool → Nat
  | [] => 0
  | b :: l => (if b then 1 else 0) + 2 * unbits l
theorem unbits_bitsF : ∀ f n, n ≤ f → unbits (bitsF f n) = n
  | 0, n, h => by simp [bitsF, unbits]; omega
  | f + 1, n, h => by
    unfold bitsF
    split
    · simp [unbits, *]
    · rename_i hn
      have := unbits_bitsF f (n / 2) (by omega)
      simp only [unbits, this, beq_iff_eq]
      split <;> omega
theorem bits_inj {n m : Nat} (h : bits n = bits m) : n = m := by
  rw [← unbits_bitsF n n (Nat.le_refl n), ← unbits_bitsF m m (Nat.le_refl m)]
  exact congrArg unbits h

inductive Tr (α : Type) where
  | lf
  | nd (l : Tr α) (v : Option α) (r : Tr α)
  deriving Inhabited, Repr

namespace Tr
variable {α : Type}
def getP : List Bool → Tr α → Option α
  | _, .lf => none
  | [], .nd _ v _ => v
  | false :: p, .nd l _ _ => getP p l
  | true :: p, .nd _ _ r => getP p r
def updP : List Bool → Option α → Tr α → Tr α
  | [], v, .lf => .nd .lf v .lf
  | [], v, .nd l _ r => .nd l v r
  | false :: p, v, .lf => .nd (updP p v .lf) none .lf
  | false :: p, v, .nd l x r => .nd (updP p v l) x r
  | true :: p, v, .lf => .nd .lf none (updP p v .lf)
  | true :: p, v, .nd l x r => .nd l x (updP p v r)
theorem getP_lf (p : List Bool) : getP p (.lf : Tr α) = none := by cases p <;> rfl
theorem getP_updP_same : ∀ (p : List Bool) (v : Option α) (t : Tr α), getP p (updP p v t) = v
  | [], v, .lf => rfl
  | [], v, .nd l x r => rfl
  | false :: p, v, .lf => getP_updP_same p v .lf
  | false :: p, v, .nd l x r => getP_updP_same p v l
  | true :: p, v, .lf => getP_updP_same p v .lf
  | true :: p, v, .nd l x r => getP_updP_same p v r
theorem getP_updP_ne : ∀ (p q : List Bool) (v : Option α) (t : Tr α), p ≠ q → getP q (updP p v t) = getP q t
  | [], [], _, _, h => absurd rfl h
  | [], false :: q, v, .lf, _ => getP_lf q
  | [], true :: q, v, .lf, _ => getP_lf q
  | [], false :: q, v, .nd l x r, _ => rfl
  | [], true :: q, v, .nd l x r, _ => rfl
  | false :: p, [], v, .lf, _ => rfl
  | false :: p, [], v, .nd l x r, _ => rfl
  | true :: p, [], v, .lf, _ => rfl
  | true :: p, [], v, .nd l x r, _ => rfl
  | false :: p, true :: q, v, .lf, _ => getP_lf q
  | false :: p, true :: q, v, .nd l x r, _ => rfl
  | true :: p, false :: q, v, .lf, _ => getP_lf q
  | true :: p, false :: q, v, .nd l x r, _ => rfl
  | false :: p, false :: q, v, .lf, h => by
    show getP q (updP p v .lf) = none
    rw [getP_updP_ne p q v .lf (fun e => h (by rw [e])), getP_lf]
  | false :: p, false :: q, v, .nd l x r, h => getP_updP_ne p q v l (fun e => h (by rw [e]))
  | true :: p, true :: q, v, .lf, h => by
    show getP q (updP p v .lf) = none
    rw [getP_updP_ne p q v .lf (fun e => h (by rw [e])), getP_lf]
  | true :: p, true :: q, v, .nd l x r, h => getP_updP_ne p q v r (fun e => h (by rw [e]))
def get (t : Tr α) (n : Nat) : Option α := getP (bits n) t
def put (t : Tr α) (n : Nat) (v : α) : Tr α := updP (bits n) (some v) t
def del (t : Tr α) (n : Nat) : Tr α := updP (bits n) none t
theorem get_lf (n : Nat) : (lf : Tr α).get n = none := getP_lf _
theorem get_put (t : Tr α) (n m : Nat) (v : α) : (t.put n v).get m = if n = m then some v else t.get m := by
  unfold get put
  split
  · rename_i h; subst h; exact getP_updP_same _ _ _
  · rename_i h; exact getP_updP_ne _ _ _ _ (fun e => h (bits_inj e))
theorem get_del (t : Tr α) (n m : Nat) : (t.del n).get m = if n = m then none else t.get m := by
  unfold get del
  split
  · rename_i h; subst h; exact getP_updP_same _ _ _
  · rename_i h; exact getP_updP_ne _ _ _ _ (fun e => h (bits_inj e))
end Tr

/-! ### Values -/

inductive Cap where
  | unk | exact | nn | nil0
  | tok (t e : Nat)
  deriving DecidableEq, Repr, Inhabited

inductive AV where
  | bool (b : Bool)
  | int (k : IntKind) (n : Int)
  | str (s : List UInt8)
  | nilp
  | ptr (r off : Nat)
  | ep (cs : List AV) (off : Nat)
  | adr (t off : Nat)
  | nils
  | vs (c : Cap) (xs : List AV)
  | hs (r off len sz : Nat)
  | nilm
  | mp (r : Nat)
  | fn (f : Fn) (first captured : List AV)
  | nilf
  | ifc (t : Nat) (v : AV)
  | nili
  | agg (cs : List AV)
  | tup (vs : List AV)
  deriving Inhabited, Repr

def AV.cells : AV → List AV
  | .agg cs => cs
  | v => [v]

/-- Rights to append go, and whether an empty slice is nil. -/
def AV.er1 : AV → AV
  | .nils => .vs .unk []
  | .vs _ xs => .vs .unk xs
  | v => v
/-- Rights to append go; nil stays nil. -/
def AV.ek1 : AV → AV
  | .vs _ xs => .vs .unk xs
  | v => v
def AV.er : AV → AV
  | .agg cs => .agg (cs.map er1)
  | v => v.er1
def AV.ek : AV → AV
  | .agg cs => .agg (cs.map ek1)
  | v => v.ek1
def AV.erR : AV → AV
  | .tup l => .tup (l.map er)
  | v => v.er

/-- the value of one cell -/
def AV.scal : AV → Bool
  | .agg _ | .tup _ | .adr _ _ => false
  | _ => true

mutual
def AV.beq : AV → AV → Bool
  | .bool a, .bool b => a == b
  | .int k a, .int j b => k == j && a == b
  | .str a, .str b => a == b
  | .nilp, .nilp => true
  | .ptr r o, .ptr s p => r == s && o == p
  | .ep a o, .ep b p => AV.beqL a b && o == p
  | .adr r o, .adr s p => r == s && o == p
  | .nils, .nils => true
  | .vs c a, .vs d b => c == d && AV.beqL a b
  | .hs r o l z, .hs s p m y => r == s && o == p && l == m && z == y
  | .nilm, .nilm => true
  | .mp r, .mp s => r == s
  | .fn f a b, .fn g c d => f == g && AV.beqL a c && AV.beqL b d
  | .nilf, .nilf => true
  | .ifc t v, .ifc u w => t == u && AV.beq v w
  | .nili, .nili => true
  | .agg a, .agg b => AV.beqL a b
  | .tup a, .tup b => AV.beqL a b
  | _, _ => false
def AV.beqL : List AV → List AV → Bool
  | [], [] => true
  | x :: a, y :: b => AV.beq x y && AV.beqL a b
  | _, _ => false
end

mutual
theorem AV.beq_eq : ∀ (a b : AV), AV.beq a b = true → a = b := by
  intro a b h
  cases a <;> cases b <;> simp only [AV.beq, Bool.and_eq_true, beq_iff_eq] at h <;> first
    | contradiction
    | rfl
    | (subst h; rfl)
    | (obtain ⟨rfl, rfl⟩ := h; rfl)
    | (obtain ⟨⟨rfl, rfl⟩, rfl⟩ := h; rfl)
    | (obtain ⟨⟨⟨rfl, rfl⟩, rfl⟩, rfl⟩ := h; rfl)
    | (obtain ⟨h, rfl⟩ := h; rw [AV.beqL_eq _ _ h])
    | (obtain ⟨rfl, h⟩ := h; rw [AV.beqL_eq _ _ h])
    | (obtain ⟨rfl, h⟩ := h; rw [AV.beq_eq _ _ h])
    | (obtain ⟨⟨rfl, h⟩, h'⟩ := h; rw [AV.beqL_eq _ _ h, AV.beqL_eq _ _ h'])
    | (rw [AV.beqL_eq _ _ h])
theorem AV.beqL_eq : ∀ (a b : List AV), AV.beqL a b = true → a = b := by
  intro a b h
  cases a <;> cases b <;> simp only [AV.beqL, Bool.and_eq_true] at h
  · rfl
  · contradiction
  · contradiction
  · rw [AV.beq_eq _ _ h.1, AV.beqL_eq _ _ h.2]
end

/-! ### Heaps -/

inductive AObj where
  | cells (cs : List AV)
  | map (es : List (AV × AV × Nat)) (clk : Nat)
  | tip (e sz : Nat)
  | sit (s : List UInt8) (pos : Nat)
  | mit (m : Option Nat) (es : List (AV × AV × Nat)) (clk : Nat) (left : List (AV × AV × Nat)) (cur : Option AV)
  deriving Inhabited, Repr

structure Heap where
  o : Tr AObj
  next : Nat
  deriving Inhabited, Repr

abbrev Env := Tr AV

def Heap.get (h : Heap) (r : Nat) : Option AObj := h.o.get r
def Heap.set (h : Heap) (r : Nat) (x : AObj) : Heap := { h with o := h.o.put r x }
def Heap.rem (h : Heap) (r : Nat) : Heap := { h with o := h.o.del r }
def Heap.new (h : Heap) (x : AObj) : Heap := { o := h.o.put h.next x, next := h.next + 1 }

end Go.AM

set_option linter.unusedVariables false
namespace Go.AM

/-- Operands: `t` a slot with a value, `l` the address of a local variable, `s` a slot with an address of a local variable, `c` a constant. -/
inductive Opd where
  | t (i : Nat) | l (i : Nat) | s (i b : Nat) | c (v : AV)
  deriving Inhabited, Repr

inductive IOp where
  | mov (x : Opd)
  | pick (c a b : Opd)
  | halloc (cs : List AV)
  | hbox (x : Opd)
  | lalloc (v : AV)
  | lbox (x : Opd)
  | build (z : List AV) (parts : List (Nat × Nat × Opd))
  | bslice (hp : Bool) (z : AV) (n : Nat) (parts : List (Nat × Opd))
  | load (n : Option Nat) (a : Opd)
  | store (n : Nat) (a x : Opd)
  | nilchk (a : Opd)
  | faddr (off : Nat) (a : Opd)
  | iaddr (sz : Nat) (x i : Opd)
  | iaddrA (len sz : Nat) (a i : Opd)
  | field (off : Nat) (n : Option Nat) (x : Opd)
  | idxS (x i : Opd)
  | idxA (len sz : Nat) (ag : Bool) (x i : Opd)
  | bin (op : BinOp) (x y : Opd)
  | eqB (neg : Bool) (x y : Opd)
  | eqN (neg : Bool) (x : Opd) (n : AV)
  | eqA (neg : Bool) (ks : List Nat) (x y : Opd)
  | un (op : UnOp) (x : Opd)
  | cvI (k : IntKind) (x : Opd)
  | cvSS (x : Opd)
  | cvS (x : Opd)
  | cvB (x : Opd)
  | mkfn (f : Fn) (first captured : List Opd)
  | mkmap
  | mkslice (hp : Bool) (z : AV) (l c : Opd)
  | sliceS (x : Opd) (lo hi : Option Opd)
  | sliceV (sz : Nat) (x : Opd) (lo hi mx : Option Opd)
  | lookup (kd : Nat) (z : AV) (ok : Bool) (m k : Opd)
  | mupd (kd : Nat) (m k v : Opd)
  | mdel (kd : Nat) (m k : Opd)
  | mclear (m : Opd)
  | mentry (z : AV) (m k : Opd)
  | estore (m st v : Opd)
  | rngS (x : Opd)
  | rngM (x : Opd)
  | nextS (it : Opd)
  | entry (it : Opd)
  | extract (x : Opd) (i : Nat)
  | iface (t : Nat) (x : Opd)
  | lenS (x : Opd)
  | lenV (x : Opd)
  | lenM (x : Opd)
  | minmax (mx : Bool) (xs : List Opd)
  | append (sz : Nat) (ag : Bool) (hp st : Bool) (x y : Opd)
  | copy (sz : Nat) (ag : Bool) (x y : Opd)
  | freeze (sz : Nat) (ag : Bool) (at_ : Option Nat) (x : Opd)
  deriving Inhabited, Repr

/-- is the operand's address one of this local variable? -/
def adrOf (a : Opd) (t : Nat) : Bool := match a with
  | .l i => i == t
  | .s _ b => b == t
  | _ => false

def val (e : Env) : Opd → Option AV
  | .t i => e.get i
  | .s i b => match e.get i with
    | some (.adr t off) => if t = b then (match e.get b with | some _ => some (.adr b off) | none => none) else none
    | _ => none
  | .l i => match e.get i with | some _ => some (.adr i 0) | none => none
  | .c v => some v

def vals (e : Env) : List Opd → Option (List AV)
  | [] => some []
  | x :: l => match val e x with
    | some v => match vals e l with
      | some vs => some (v :: vs)
      | none => none
    | none => none

/-- cells from an offset on, as a value -/
def cut (cs : List AV) (off : Nat) : Option Nat → Option AV
  | none => cs[off]?
  | some n => let d := (cs.drop off).take n
    if d.length = n then some (AV.er (.agg d)) else none

def splice (cs : List AV) (off : Nat) (new : List AV) : Option (List AV) :=
  if off + new.length ≤ cs.length then some (cs.take off ++ new ++ cs.drop (off + new.length)) else none

def fills (cs : List AV) (e : Env) : List (Nat × Nat × Opd) → Option (List AV)
  | [] => some cs
  | (off, n, x) :: l => match val e x with
    | some v => let vc := v.ek.cells
      if vc.length = n then match splice cs off vc with
        | some cs' => fills cs' e l
        | none => none
      else none
    | none => none

def fillE (sz : Nat) (xs : List AV) (e : Env) : List (Nat × Opd) → Option (List AV)
  | [] => some xs
  | (i, x) :: l => match val e x with
    | some v => if v.er.cells.length = sz then fillE sz (xs.set i v.er) e l else none
    | none => none

def chunk (sz : Nat) (ag : Bool) : Nat → List AV → List AV
  | 0, _ => []
  | n + 1, cs => (if ag then .agg (cs.take sz) else cs.headD .nilp) :: chunk sz ag n (cs.drop sz)

/-- is the first element so long? -/
def hdSz (sz : Nat) : List AV → Bool
  | [] => true
  | x :: _ => x.cells.length == sz

/-- the elements of a slice -/
def elems (h : Heap) (sz : Nat) (ag : Bool) : AV → Option (List AV)
  | .nils => some []
  | .vs _ xs => if hdSz sz xs then some xs else none
  | .hs r off n sz' => match h.get r with
    | some (.cells cs) => if sz' = sz ∧ off + n * sz ≤ cs.length ∧ (ag || (sz == 1 && cs.all AV.scal)) = true then some (chunk sz ag n (cs.drop off)) else none
    | _ => none
  | _ => none

/-- what is appended: a slice, or a string's bytes -/
def srcElems (h : Heap) (sz : Nat) (ag st : Bool) (v : AV) : Option (List AV) :=
  if st then match v with
    | .str s => some (s.map fun b => .int .u8 b.toNat)
    | _ => none
  else elems h sz ag v

def slen : AV → Option Nat
  | .nils => some 0
  | .vs _ xs => some xs.length
  | .hs _ _ n _ => some n
  | _ => none

def nat? (e : Env) (o : Opd) : Option Nat :=
  match val e o with
  | some (.int _ n) => if 0 ≤ n then some n.toNat else none
  | _ => none

def keyEq : AV → AV → Option Bool
  | .int j a, .int k b => if j == k then some (a == b) else none
  | .str a, .str b => some (a == b)
  | .bool a, .bool b => some (a == b)
  | _, _ => none

def mfind (k : AV) : List (AV × AV × Nat) → Option (Option AV)
  | [] => some none
  | (x, v, _) :: l => match keyEq k x with
    | some true => some (some v)
    | some false => mfind k l
    | none => none
def mput (k v : AV) (c : Nat) : List (AV × AV × Nat) → List (AV × AV × Nat)
  | [] => [(k, v, c)]
  | (x, u, b) :: l => match keyEq k x with
    | some true => (k, v, b) :: l
    | _ => (x, u, b) :: mput k v c l
def mdrop (k : AV) : List (AV × AV × Nat) → List (AV × AV × Nat)
  | [] => []
  | (x, u, b) :: l => match keyEq k x with
    | some true => l
    | _ => (x, u, b) :: mdrop k l

def isKey : Nat → AV → Bool
  | 0, .int _ _ => true
  | 1, .str _ => true
  | 2, .bool _ => true
  | _, _ => false

def bytesLt : List UInt8 → List UInt8 → Bool
  | _, [] => false
  | [], _ :: _ => true
  | a :: x, b :: y => a < b || (a == b && bytesLt x y)

def arith (op : BinOp) (k : IntKind) (a b : Int) : Option AV :=
  match op with
  | .add => some (.int k (k.wrap (a + b)))
  | .sub => some (.int k (k.wrap (a - b)))
  | .mul => some (.int k (k.wrap (a * b)))
  | .quo => if b = 0 then none else some (.int k (k.wrap (a.tdiv b)))
  | .rem => if b = 0 then none else some (.int k (a.tmod b))
  | .and => some (.int k (k.wrap ((BitVec.ofInt k.bits a &&& BitVec.ofInt k.bits b).toNat)))
  | .or => some (.int k (k.wrap ((BitVec.ofInt k.bits a ||| BitVec.ofInt k.bits b).toNat)))
  | .xor => some (.int k (k.wrap ((BitVec.ofInt k.bits a ^^^ BitVec.ofInt k.bits b).toNat)))
  | .andNot => some (.int k (k.wrap ((BitVec.ofInt k.bits a &&& ~~~(BitVec.ofInt k.bits b)).toNat)))
  | .eql => some (.bool (a == b))
  | .neq => some (.bool (a != b))
  | .lss => some (.bool (a < b))
  | .leq => some (.bool (a ≤ b))
  | .gtr => some (.bool (a > b))
  | .geq => some (.bool (a ≥ b))
  | .shl | .shr => none

def binop (op : BinOp) : AV → AV → Option AV
  | .int k a, .int j b =>
    match op with
    | .shl => if b < 0 then none else some (.int k (k.wrap (a * 2 ^ (min b.toNat k.bits))))
    | .shr => if b < 0 then none else some (.int k (a.fdiv (2 ^ (min b.toNat k.bits))))
    | _ => if k = j then arith op k a b else none
  | .str a, .str b =>
    match op with
    | .add => if a.length + b.length < 2 ^ 62 then some (.str (a ++ b)) else none
    | .eql => some (.bool (a == b))
    | .neq => some (.bool !(a == b))
    | .lss => some (.bool (bytesLt a b))
    | .leq => some (.bool (bytesLt a b || a == b))
    | .gtr => some (.bool !(bytesLt a b || a == b))
    | .geq => some (.bool !(bytesLt a b))
    | _ => none
  | _, _ => none

/-- equality of structs of plain cells, of these kinds (0: integers, 1: strings, 2: bools) -/
def eqPlain : Nat → AV → AV → Option Bool
  | 0, .int j a, .int k b => if j = k then some (a == b) else none
  | 1, .str a, .str b => some (a == b)
  | 2, .bool a, .bool b => some (a == b)
  | _, _, _ => none
def eqPlains : List Nat → List AV → List AV → Option Bool
  | [], [], [] => some true
  | k :: ks, x :: a, y :: b => match eqPlain k x y, eqPlains ks a b with
    | some p, some q => some (p && q)
    | _, _ => none
  | _, _, _ => none
/-- equality with nil; of a slice that is perhaps nil nothing is told -/
def eqNil : AV → AV → Option Bool
  | .nilp, .nilp => some true
  | .ptr _ _, .nilp => some false
  | .ep _ _, .nilp => some false
  | .nils, .nils => some true
  | .hs _ _ _ _, .nils => some false
  | .vs _ (_ :: _), .nils => some false
  | .vs .nn [], .nils => some false
  | .vs .nil0 [], .nils => some true
  | .nilm, .nilm => some true
  | .mp _, .nilm => some false
  | .nilf, .nilf => some true
  | .fn _ _ _, .nilf => some false
  | .nili, .nili => some true
  | .ifc _ _, .nili => some false
  | _, _ => none

def unop (op : UnOp) : AV → Option AV
  | .int k n => match op with
    | .neg => some (.int k (k.wrap (0 - n)))
    | .xor => some (.int k (k.wrap ((BitVec.ofInt k.bits (if k.signed then -1 else k.max) ^^^ BitVec.ofInt k.bits n).toNat)))
    | _ => none
  | .bool b => match op with
    | .not => some (.bool !b)
    | _ => none
  | _ => none

def foldMM (mx : Bool) : AV → List AV → Option AV
  | v, [] => some v
  | .int k a, .int j b :: l => if k = j then foldMM mx (.int k (if mx then (if b > a then b else a) else (if b < a then b else a))) l else none
  | _, _ => none

def bytesOf : List AV → Option (List UInt8)
  | [] => some []
  | .int .u8 n :: l => match bytesOf l with
    | some r => some (UInt8.ofNat n.toNat :: r)
    | none => none
  | _ => none

def capCut (c : Cap) (l : Nat) : Cap := if l = 0 then c else match c with
  | .exact => .exact
  | _ => .unk

def optNat (e : Env) (d : Nat) : Option Opd → Option Nat
  | none => some d
  | some o => nat? e o

def lenOk (n : Nat) : Bool := decide (n < 2 ^ 30)

def allSz (sz : Nat) (xs : List AV) : Bool := xs.all fun x => x.cells.length == sz
def allScal (xs : List AV) : Bool := xs.all fun x => x.cells.all AV.scal

/-- append; `none`: stuck -/
def appendV (h : Heap) (sz : Nat) (ag hp : Bool) (x : AV) (ys : List AV) : Option (AV × Heap) :=
  let n := ys.length
  if hp then
    match x with
    | .nils => if n = 0 then some (.nils, h) else
        some (.hs h.next 0 n sz, h.new (.cells (ys.flatMap AV.cells)))
    | .vs .exact xs =>
      if n = 0 then some (.vs .exact xs, h) else
        if hdSz sz xs then some (.hs h.next 0 (xs.length + n) sz, h.new (.cells ((xs ++ ys).flatMap AV.cells))) else none
    | .hs r off m sz' =>
      match h.get r with
      | some (.cells cs) =>
        if n = 0 then some (.hs r off m sz', h)
        else if sz' = sz ∧ off + m * sz = cs.length then
          some (.hs h.next 0 (m + n) sz, (h.rem r).new (.cells (cs.drop off ++ ys.flatMap AV.cells)))
        else none
      | _ => none
    | _ => none
  else if n = 0 then
    match x with
    | .nils => some (x, h)
    | .vs _ _ => some (x, h)
    | .hs _ _ _ _ => some (x, h)
    | _ => none
  else
    match x with
    | .nils => some (.vs (.tok h.next n) ys, h.new (.tip n sz))
    | .vs .exact xs => if hdSz sz xs then some (.vs (.tok h.next (xs.length + n)) (xs ++ ys), h.new (.tip (xs.length + n) sz)) else none
    | .vs (.tok t e) xs =>
      match h.get t with
      | some (.tip e' sz') => if e = e' ∧ sz' = sz ∧ hdSz sz xs = true then some (.vs (.tok t (e + n)) (xs ++ ys), h.set t (.tip (e + n) sz)) else none
      | _ => none
    | _ => none

def esEq : List (AV × AV × Nat) → List (AV × AV × Nat) → Bool
  | [], [] => true
  | (a, b, i) :: l, (c, d, j) :: m => AV.beq a c && AV.beq b d && i == j && esEq l m
  | _, _ => false
theorem esEq_eq : ∀ {a b : List (AV × AV × Nat)}, esEq a b = true → a = b
  | [], [], _ => rfl
  | (a, b, i) :: l, (c, d, j) :: m, h => by
    simp only [esEq, Bool.and_eq_true, beq_iff_eq] at h
    obtain ⟨⟨⟨h1, h2⟩, h3⟩, h4⟩ := h
    rw [AV.beq_eq _ _ h1, AV.beq_eq _ _ h2, h3, esEq_eq h4]
  | [], _ :: _, h => by simp [esEq] at h
  | _ :: _, [], h => by simp [esEq] at h

/-- An operation that neither calls nor leaves a choice: its value, the slots and the heap behind it. -/
def evalOp (e : Env) (h : Heap) : IOp → Option (AV × Env × Heap)
  | .mov x => match val e x with | some v => some (v, e, h) | none => none
  | .pick c a b => match val e c with
    | some (.bool true) => match val e a with | some v => some (v, e, h) | none => none
    | some (.bool false) => match val e b with | some v => some (v, e, h) | none => none
    | _ => none
  | .halloc cs => some (.ptr h.next 0, e, h.new (.cells cs))
  | .hbox x => match val e x with | some v => some (.ptr h.next 0, e, h.new (.cells v.cells)) | none => none
  | .lalloc v => some (v, e, h)
  | .lbox x => match val e x with | some v => some (v, e, h) | none => none
  | .build z ps => match fills z e ps with | some cs => some (.agg cs, e, h) | none => none
  | .bslice hp z n ps => match fillE z.cells.length (List.replicate n z) e ps with
    | some xs => if hp then some (.hs h.next 0 n z.cells.length, e, h.new (.cells (xs.flatMap AV.cells))) else some (.vs .exact xs, e, h)
    | none => none
  | .load n a => match val e a with
    | some (.ptr r off) => match h.get r with
      | some (.cells cs) => match cut cs off n with | some v => some (v, e, h) | none => none
      | _ => none
    | some (.ep cs off) => match cut cs off n with | some v => some (v, e, h) | none => none
    | some (.adr t off) => if adrOf a t then match e.get t with
        | some v => match cut v.cells off n with | some v => some (v, e, h) | none => none
        | none => none
      else none
    | _ => none
  | .store n a x => match val e x with
    | some v => if v.cells.length = n ∧ v.cells.all AV.scal = true then match val e a with
      | some (.ptr r off) => match h.get r with
        | some (.cells cs) => match splice cs off v.cells with
          | some cs' => some (.tup [], e, h.set r (.cells cs'))
          | none => none
        | _ => none
      | some (.adr t off) => if adrOf a t then match e.get t with
        | some (.agg cs) => match splice cs off v.cells with
          | some cs' => some (.tup [], e.put t (.agg cs'), h)
          | none => none
        | some _ => if off = 0 then match v.cells with
          | [u] => some (.tup [], e.put t u, h)
          | _ => none
          else none
        | none => none
        else none
      | _ => none
      else none
    | none => none
  | .nilchk a => match val e a with
    | some (.ptr r off) => some (.ptr r off, e, h)
    | some (.ep cs off) => some (.ep cs off, e, h)
    | some (.adr t off) => some (.adr t off, e, h)
    | some (.fn (.func f) x y) => some (.fn (.func f) x y, e, h)
    | _ => none
  | .faddr off a => match val e a with
    | some (.ptr r o) => some (.ptr r (o + off), e, h)
    | some (.ep cs o) => some (.ep cs (o + off), e, h)
    | some (.adr t o) => some (.adr t (o + off), e, h)
    | _ => none
  | .iaddr sz x i => match val e x, nat? e i with
    | some (.vs _ xs), some j => match xs[j]? with
      | some v => if v.cells.length = sz then some (.ep v.cells 0, e, h) else none
      | none => none
    | some (.hs r off n sz'), some j => if j < n ∧ sz' = sz then some (.ptr r (off + j * sz), e, h) else none
    | _, _ => none
  | .iaddrA len sz a i => match val e a, nat? e i with
    | some (.ptr r off), some j => if j < len then some (.ptr r (off + j * sz), e, h) else none
    | some (.ep cs off), some j => if j < len then some (.ep cs (off + j * sz), e, h) else none
    | some (.adr t off), some j => if j < len then some (.adr t (off + j * sz), e, h) else none
    | _, _ => none
  | .field off n x => match val e x with
    | some (.agg cs) => match cut cs off n with | some v => some (v, e, h) | none => none
    | _ => none
  | .idxS x i => match val e x, nat? e i with
    | some (.str s), some j => match s[j]? with | some b => some (.int .u8 b.toNat, e, h) | none => none
    | _, _ => none
  | .idxA len sz ag x i => match val e x, nat? e i with
    | some (.agg cs), some j => if j < len then match cut cs (j * sz) (if ag then some sz else none) with
        | some v => some (v, e, h)
        | none => none
      else none
    | _, _ => none
  | .bin op x y => match val e x, val e y with
    | some a, some b => match binop op a b with | some v => some (v, e, h) | none => none
    | _, _ => none
  | .eqB neg x y => match val e x, val e y with
    | some (.bool a), some (.bool b) => some (.bool (if neg then !(a == b) else a == b), e, h)
    | _, _ => none
  | .eqN neg x n => match val e x with
    | some v => match eqNil v n with | some b => some (.bool (if neg then !b else b), e, h) | none => none
    | none => none
  | .eqA neg ks x y => match val e x, val e y with
    | some (.agg a), some (.agg b) => match eqPlains ks a b with | some v => some (.bool (if neg then !v else v), e, h) | none => none
    | _, _ => none
  | .un op x => match val e x with
    | some a => match unop op a with | some v => some (v, e, h) | none => none
    | none => none
  | .cvI k x => match val e x with
    | some (.int _ n) => some (.int k (k.wrap n), e, h)
    | _ => none
  | .cvSS x => match val e x with
    | some (.str s) => some (.str s, e, h)
    | _ => none
  | .cvS x => match val e x with
    | some v => match elems h 1 false v with
      | some l => match bytesOf l with | some s => some (.str s, e, h) | none => none
      | none => none
    | none => none
  | .cvB x => match val e x with
    | some (.str s) => some (.vs .unk (s.map fun b => .int .u8 b.toNat), e, h)
    | _ => none
  | .mkfn f a b => match vals e a, vals e b with
    | some va, some vb => some (.fn f (va.map AV.er) (vb.map AV.er), e, h)
    | _, _ => none
  | .mkmap => some (.mp h.next, e, h.new (.map [] 0))
  | .mkslice hp z l c => match nat? e l, nat? e c with
    | some n, some m => if n ≤ m ∧ lenOk m = true then
        if hp then (if n = m then some (.hs h.next 0 n z.cells.length, e, h.new (.cells ((List.replicate n z).flatMap AV.cells))) else none)
        else if n = m then some (.vs .exact (List.replicate n z), e, h)
        else if n = 0 then some (.vs (.tok h.next 0) [], e, h.new (.tip 0 z.cells.length))
        else none
      else none
    | _, _ => none
  | .sliceS x lo hi => match val e x with
    | some (.str s) => match optNat e 0 lo, optNat e s.length hi with
      | some l, some m => if l ≤ m ∧ m ≤ s.length then some (.str ((s.take m).drop l), e, h) else none
      | _, _ => none
    | _ => none
  | .sliceV sz x lo hi mx => match val e x with
    | some (.nils) => match optNat e 0 lo, optNat e 0 hi, optNat e 0 mx with
      | some 0, some 0, some 0 => some (.nils, e, h)
      | _, _, _ => none
    | some (.vs c xs) => match optNat e 0 lo, optNat e xs.length hi, optNat e xs.length mx with
      | some l, some m, some k => if l ≤ m ∧ m ≤ k ∧ k ≤ xs.length ∧ hdSz sz xs = true then
          some (.vs (if mx.isSome then (if k = m then .exact else .unk) else (if m = xs.length then capCut c l else .unk)) ((xs.take m).drop l), e, h)
        else none
      | _, _, _ => none
    | some (.hs r off n sz') => match optNat e 0 lo, optNat e n hi with
      | some l, some m => if l ≤ m ∧ m ≤ n ∧ mx.isNone ∧ sz' = sz then some (.hs r (off + l * sz) (m - l) sz, e, h) else none
      | _, _ => none
    | _ => none
  | .lookup kd z ok m k => match val e m, val e k with
    | some .nilm, some kv => if isKey kd kv then some (if ok then .tup [z, .bool false] else z, e, h) else none
    | some (.mp r), some kv => match h.get r with
      | some (.map es _) => if isKey kd kv then match mfind kv es with
        | some (some v) => some (if ok then .tup [v, .bool true] else v, e, h)
        | some none => some (if ok then .tup [z, .bool false] else z, e, h)
        | none => none
        else none
      | _ => none
    | _, _ => none
  | .mupd kd m k v => match val e m, val e k, val e v with
    | some (.mp r), some kv, some vv => match h.get r with
      | some (.map es c) => if isKey kd kv then match mfind kv es with
        | some (some _) => some (.tup [], e, h.set r (.map (mput kv vv c es) c))
        | some none => some (.tup [], e, h.set r (.map (mput kv vv c es) (c + 1)))
        | none => none
        else none
      | _ => none
    | _, _, _ => none
  | .mdel kd m k => match val e m, val e k with
    | some .nilm, some kv => if isKey kd kv then some (.tup [], e, h) else none
    | some (.mp r), some kv => match h.get r with
      | some (.map es c) => if isKey kd kv then match mfind kv es with
        | some _ => some (.tup [], e, h.set r (.map (mdrop kv es) c))
        | none => none
        else none
      | _ => none
    | _, _ => none
  | .mclear m => match val e m with
    | some .nilm => some (.tup [], e, h)
    | some (.mp r) => match h.get r with
      | some (.map _ c) => some (.tup [], e, h.set r (.map [] c))
      | _ => none
    | _ => none
  | .mentry z m k => none
  | .estore m st v => none
  | .rngS x => match val e x with
    | some (.str s) => some (.ptr h.next 0, e, h.new (.sit s 0))
    | _ => none
  | .rngM x => match val e x with
    | some .nilm => some (.ptr h.next 0, e, h.new (.mit none [] 0 [] none))
    | some (.mp r) => match h.get r with
      | some (.map es c) => some (.ptr h.next 0, e, h.new (.mit (some r) es c es none))
      | _ => none
    | _ => none
  | .nextS it => match val e it with
    | some (.ptr r 0) => match h.get r with
      | some (.sit s p) => match s[p]? with
        | some b => if b < 128 then some (.tup [.bool true, .int .i64 p, .int .i32 b.toNat], e, h.set r (.sit s (p + 1))) else none
        | none => some (.tup [.bool false], e, h)
      | _ => none
    | _ => none
  | .entry it => match val e it with
    | some (.ptr r 0) => match h.get r with
      | some (.mit (some m) es c _ (some u)) => match h.get m with
        | some (.map es' c') => if c = c' ∧ esEq es es' = true then some (u, e, h) else none
        | _ => none
      | _ => none
    | _ => none
  | .extract x i => match val e x with
    | some (.tup l) => match l[i]? with | some v => some (v, e, h) | none => none
    | _ => none
  | .iface t x => match val e x with | some v => some (.ifc t v, e, h) | none => none
  | .lenS x => match val e x with
    | some (.str s) => some (.int .i64 s.length, e, h)
    | _ => none
  | .lenV x => match val e x with
    | some v => match slen v with | some n => some (.int .i64 n, e, h) | none => none
    | none => none
  | .lenM x => match val e x with
    | some .nilm => some (.int .i64 0, e, h)
    | some (.mp r) => match h.get r with
      | some (.map es _) => some (.int .i64 es.length, e, h)
      | _ => none
    | _ => none
  | .minmax mx xs => match vals e xs with
    | some (v :: l) => match foldMM mx v l with | some r => some (r, e, h) | none => none
    | _ => none
  | .append sz ag hp st x y => match val e x, val e y with
    | some a, some b => match srcElems h sz ag st b with
      | some ys => if allScal ys && lenOk (ys.length + (slen a).getD 0) then match appendV h sz ag hp a (ys.map AV.er) with
        | some (v, h') => some (v, e, h')
        | none => none
        else none
      | none => none
    | _, _ => none
  | .copy sz ag x y => match val e x, val e y with
    | some (.hs r off n sz'), some b => match elems h sz ag b with
      | some ys => let m := min ys.length n
        let zs := (ys.take m).flatMap AV.cells
        if zs.length = m * sz ∧ sz' = sz ∧ zs.all AV.scal = true then match h.get r with
          | some (.cells cs) => match splice cs off zs with
            | some cs' => some (.int .i64 m, e, h.set r (.cells cs'))
            | none => none
          | _ => none
        else none
      | none => none
    | some .nils, some b => match slen b with | some _ => some (.int .i64 0, e, h) | none => none
    | _, _ => none
  | .freeze sz ag at_ x => match val e x with
    | some v => match at_, v with
      | none, .hs r off n sz' => match elems h sz ag v with
        | some ys => some (.vs .unk ys, e, h.rem r)
        | none => none
      | none, v => some (v, e, h)
      | some i, .agg cs => match cs[i]? with
        | some (.hs r off n sz') => match elems h sz ag (.hs r off n sz') with
          | some ys => some (.agg (cs.set i (.vs .unk ys)), e, h.rem r)
          | none => none
        | some _ => some (v, e, h)
        | none => none
      | _, _ => none
    | none => none

end Go.AM

set_option linter.unusedVariables false
namespace Go.AM

inductive Exit where
  | normal | exit (id : Nat) | ret
  deriving Inhabited, Repr, DecidableEq

inductive Callee where
  | fn (f : Nat) | dyn (x : Opd)
  deriving Inhabited, Repr

abbrev Guard := Option (Nat × Bool)

/-- `chk`: the operation is carried out again and must give what its slot holds. -/
inductive Item where
  | op (dst : Option Nat) (g : Guard) (o : IOp)
  | call (dst : Option Nat) (g : Guard) (f : Callee) (args : List Opd)
  | nextM (dst : Option Nat) (g : Guard) (it : Opd)
  | chk (dst : Nat) (g : Guard) (o : IOp)
  deriving Inhabited, Repr

inductive IR where
  | skip
  | items (l : List Item) (kills : List Nat)
  | seq (a b : IR)
  | cond (c : Opd) (a b : IR)
  | block (id : Nat) (b : IR)
  | loop (b : IR)
  | exit (id : Nat)
  | ret
  deriving Inhabited, Repr

inductive ResV where
  | tmp (i : Nat)
  | loc (i : Nat) (n : Option Nat)
  | cell (i : Nat) (n : Option Nat)
  deriving Inhabited, Repr

structure IRFn where
  body : IR
  results : List ResV
  nargs : Nat := 0
  keepArgs : Bool := false
  keepRes : Bool := false
  deriving Inhabited, Repr

/-- a local variable is made in an empty slot -/
def fresh (e : Env) (d : Option Nat) : IOp → Bool
  | .lalloc _ | .lbox _ => match d with
    | some d => (e.get d).isNone
    | none => true
  | _ => true

def putD (e : Env) (d : Option Nat) (v : AV) : Env := match d with | some i => e.put i v | none => e

/-- is the operation wanted? -/
def wanted (e : Env) : Guard → Option Bool
  | none => some true
  | some (i, b) => match e.get i with
    | some (.bool x) => some (x == b)
    | some (.tup []) => some false
    | _ => none

def callee (e : Env) (f : Callee) (args : List Opd) : Option (Nat × List AV) :=
  match f with
  | .fn f => match vals e args with | some l => some (f, l) | none => none
  | .dyn x => match val e x with
    | some (.fn (.func f) a b) => match vals e args with | some l => some (f, a ++ l ++ b) | none => none
    | _ => none

def Env.dels (e : Env) : List Nat → Env
  | [] => e
  | i :: l => Env.dels (e.del i) l

def initEnv (n : Nat) (e : Env) : List AV → Env
  | [] => e
  | v :: l => initEnv (n + 1) (e.put n v) l

def result (e : Env) (h : Heap) : ResV → Option AV
  | .tmp i => e.get i
  | .loc i n => match e.get i with | some v => cut v.cells 0 n | none => none
  | .cell i n => match e.get i with
    | some (.ptr r off) => match h.get r with
      | some (.cells cs) => cut cs off n
      | _ => none
    | _ => none
def results (e : Env) (h : Heap) : List ResV → Option (List AV)
  | [] => some []
  | r :: l => match result e h r with
    | some v => match results e h l with
      | some vs => some (v :: vs)
      | none => none
    | none => none
def resultV : List AV → AV
  | [v] => v
  | l => .tup l
def IRFn.out (fn : IRFn) (v : AV) : AV := if fn.keepRes then v else v.erR
def IRFn.env (fn : IRFn) (args : List AV) : Env := initEnv 0 .lf (if fn.keepArgs then args else args.map AV.er)

/-! ### The predicate transformer -/

abbrev CallT := Nat → List AV → Heap → (AV → Heap → Prop) → Prop
abbrev Post := Exit → Env → Heap → Prop

def wItems (C : CallT) : List Item → (Env → Heap → Prop) → Env → Heap → Prop
  | [], Q, e, h => Q e h
  | .op d g o :: l, Q, e, h =>
    match wanted e g with
    | some true => match evalOp e h o with
      | some (v, e', h') => fresh e d o = true ∧ wItems C l Q (putD e' d v) h'
      | none => False
    | some false => wItems C l Q (putD e d (.tup [])) h
    | none => False
  | .chk d g o :: l, Q, e, h =>
    match wanted e g with
    | some true => match evalOp e h o with
      | some (v, _, _) => e.get d = some v ∧ wItems C l Q e h
      | none => False
    | some false => wItems C l Q e h
    | none => False
  | .call d g f args :: l, Q, e, h =>
    match wanted e g with
    | some true => match callee e f args with
      | some (f, vs) => C f vs h fun v h' => wItems C l Q (putD e d v) h'
      | none => False
    | some false => wItems C l Q (putD e d (.tup [])) h
    | none => False
  | .nextM d g it :: l, Q, e, h =>
    match wanted e g with
    | some true => match val e it with
      | some (.ptr r 0) => match h.get r with
        | some (.mit none _ _ _ _) => wItems C l Q (putD e d (.tup [.bool false])) h
        | some (.mit (some m) es c left _) => h.get m = some (.map es c) ∧ match left with
          | [] => wItems C l Q (putD e d (.tup [.bool false])) h
          | x :: xs => ∀ (a b : List (AV × AV × Nat)) (k v : AV) (n : Nat), x :: xs = a ++ (k, v, n) :: b →
              wItems C l Q (putD e d (.tup [.bool true, k, v])) (h.set r (.mit (some m) es c (a ++ b) (some (.tup [k, v]))))
        | _ => False
      | _ => False
    | some false => wItems C l Q (putD e d (.tup [])) h
    | none => False

def W (C : CallT) : IR → Post → Env → Heap → Prop
  | .skip, Q, e, h => Q .normal e h
  | .items l k, Q, e, h => wItems C l (fun e h => Q .normal (Env.dels e k) h) e h
  | .seq a b, Q, e, h => W C a (fun x e h => match x with | .normal => W C b Q e h | x => Q x e h) e h
  | .cond c a b, Q, e, h => match val e c with
    | some (.bool true) => W C a Q e h
    | some (.bool false) => W C b Q e h
    | _ => False
  | .block id b, Q, e, h => W C b (fun x e h => match x with
      | .exit i => if i = id then Q .normal e h else Q (.exit i) e h
      | x => Q x e h) e h
  | .loop b, Q, e, h => ∀ X : Env → Heap → Prop,
      (∀ e h, W C b (fun x e h => match x with | .normal => X e h | x => Q x e h) e h → X e h) → X e h
  | .exit id, Q, e, h => Q (.exit id) e h
  | .ret, Q, e, h => Q .ret e h

def endPost (fn : IRFn) (Q : AV → Heap → Prop) : Post := fun x e h =>
  match x with
  | .exit _ => False
  | _ => match results e h fn.results with
    | some l => Q (fn.out (resultV l)) h
    | none => False

def callBody (C : CallT) (fn : IRFn) (args : List AV) (h : Heap) (Q : AV → Heap → Prop) : Prop :=
  args.length ≤ fn.nargs ∧ W C fn.body (endPost fn Q) (fn.env args) h

/-- What a meaning of calls must give: it is what the bodies of a table say. -/
structure Sys (fns : Nat → Option IRFn) (C : CallT) : Prop where
  mono : ∀ f args h Q Q', C f args h Q → (∀ v h', Q v h' → Q' v h') → C f args h Q'
  step : ∀ f fn args h Q, fns f = some fn → callBody C fn args h Q → C f args h Q
  forget : ∀ f args h h₀ Q, C f args h₀ Q → h₀.next = h.next → (∀ r x, h₀.get r = some x → h.get r = some x) → C f args h Q

/-! ### Running it -/

abbrev CallF := Nat → List AV → Heap → Option (AV × Heap)

def xItems (C : CallF) : List Item → Env → Heap → Option (Env × Heap)
  | [], e, h => some (e, h)
  | .op d g o :: l, e, h =>
    match wanted e g with
    | some true => match evalOp e h o with
      | some (v, e', h') => if fresh e d o then xItems C l (putD e' d v) h' else none
      | none => none
    | some false => xItems C l (putD e d (.tup [])) h
    | none => none
  | .chk d g o :: l, e, h =>
    match wanted e g with
    | some true => match evalOp e h o with
      | some (v, _, _) => match e.get d with
        | some u => if AV.beq u v then xItems C l e h else none
        | none => none
      | none => none
    | some false => xItems C l e h
    | none => none
  | .call d g f args :: l, e, h =>
    match wanted e g with
    | some true => match callee e f args with
      | some (f, vs) => match C f vs h with
        | some (v, h') => xItems C l (putD e d v) h'
        | none => none
      | none => none
    | some false => xItems C l (putD e d (.tup [])) h
    | none => none
  | .nextM d g it :: l, e, h =>
    match wanted e g with
    | some true => match val e it with
      | some (.ptr r 0) => match h.get r with
        | some (.mit none _ _ _ _) => xItems C l (putD e d (.tup [.bool false])) h
        | some (.mit (some m) es c left _) => match h.get m with
          | some (.map es' c') => if c = c' ∧ esEq es es' = true then match left with
            | [] => xItems C l (putD e d (.tup [.bool false])) h
            | [(k, v, _)] => xItems C l (putD e d (.tup [.bool true, k, v])) (h.set r (.mit (some m) es c [] (some (.tup [k, v]))))
            | _ => none
            else none
          | _ => none
        | _ => none
      | _ => none
    | some false => xItems C l (putD e d (.tup [])) h
    | none => none

def loopF (b : Env → Heap → Option (Exit × Env × Heap)) : Nat → Env → Heap → Option (Exit × Env × Heap)
  | 0, _, _ => none
  | n + 1, e, h => match b e h with
    | some (.normal, e, h) => loopF b n e h
    | r => r

def X (C : CallF) (n : Nat) : IR → Env → Heap → Option (Exit × Env × Heap)
  | .skip, e, h => some (.normal, e, h)
  | .items l k, e, h => match xItems C l e h with
    | some (e, h) => some (.normal, Env.dels e k, h)
    | none => none
  | .seq a b, e, h => match X C n a e h with
    | some (.normal, e, h) => X C n b e h
    | r => r
  | .cond c a b, e, h => match val e c with
    | some (.bool true) => X C n a e h
    | some (.bool false) => X C n b e h
    | _ => none
  | .block id b, e, h => match X C n b e h with
    | some (.exit i, e, h) => if i = id then some (.normal, e, h) else some (.exit i, e, h)
    | r => r
  | .loop b, e, h => loopF (X C n b) n e h
  | .exit id, e, h => some (.exit id, e, h)
  | .ret, e, h => some (.ret, e, h)

def xBody (C : CallF) (n : Nat) (fn : IRFn) (args : List AV) (h : Heap) : Option (AV × Heap) :=
  if args.length ≤ fn.nargs then match X C n fn.body (fn.env args) h with
  | some (.exit _, _, _) => none
  | some (_, e, h) => match results e h fn.results with
    | some l => some (fn.out (resultV l), h)
    | none => none
  | none => none
  else none

/-- `prim`: functions whose contract is given otherwise -/
def xCall (fns : Nat → Option IRFn) (prim : CallF) (n : Nat) : Nat → CallF
  | 0, _, _, _ => none
  | d + 1, f, args, h => match prim f args h with
    | some r => some r
    | none => match fns f with
      | some fn => xBody (xCall fns prim n d) n fn args h
      | none => none

end Go.AM

set_option linter.unusedVariables false
namespace Go.AM

/-- What is said beside a function: local variables, slots with addresses, sites of arrays that are written, freezes (region, operation, cell), whether rights are kept. -/
structure Ann where
  prom : List Nat := []
  base : List (Nat × Nat) := []
  hps : List (Nat × Nat) := []
  frz : List (Nat × Nat × Option Nat) := []
  keepArgs : Bool := false
  keepRes : Bool := false
  ntmps : Nat := 0
  deriving Inhabited, Repr
def Ann.adrs (a : Ann) : List Nat := a.base.map (·.1)
def Ann.baseOf (a : Ann) (t : Nat) : Nat := match a.base.find? (fun x => x.1 == t) with
  | some x => x.2
  | none => 0

/-- A closed value of the program's text. -/
def ofVal : Nat → Value → Option AV
  | 0, _ => none
  | f + 1, v => match v with
    | .bool b => some (.bool b)
    | .int k n => some (.int k n)
    | .string s => some (.str s.data.toList)
    | .pointer none => some .nilp
    | .slice none 0 0 => some .nils
    | .map none => some .nilm
    | .nilFunc => some .nilf
    | .nilIface => some .nili
    | .func fn a b => if a.isEmpty && b.isEmpty then some (.fn fn [] []) else none
    | .agg cs => match cs.toList.mapM (ofVal f) with | some l => some (.agg l) | none => none
    | .tuple vs => if vs.isEmpty then some (.tup []) else none
    | _ => none

abbrev GTab := Nat → Option (List AV)

section
variable (P : Program) (G : GTab) (a : Ann)

def opd (x : Operand) : Option Opd :=
  match x with
  | .tmp t => if a.prom.contains t || a.adrs.contains t then none else some (.t t)
  | .const v => match ofVal 8 v with | some v => some (.c v) | none => none
  | .global g => match G g with | some cs => some (.c (.ep cs 0)) | none => none
  | .func f => some (.c (.fn (.func f) [] []))
def opdA (x : Operand) : Option Opd :=
  match x with
  | .tmp t => if a.prom.contains t then some (.l t) else if a.adrs.contains t then some (.s t (a.baseOf t)) else some (.t t)
  | x => opd G a x
def opds (l : List Operand) : Option (List Opd) := l.mapM (opd G a)
def isAdr : Opd → Bool
  | .l _ | .s _ _ => true
  | _ => false
def zeroOf (t : TypeId) : Option AV := match P.info? t with
  | some i => match i.zero with | some v => ofVal 8 v | none => none
  | none => none
def aggT (t : TypeId) : Bool := match P.underlying t with
  | some (.struct _) | some (.array _ _) => true
  | _ => false
/-- how a variable of a type is read: one cell, or so many -/
def ldN (t : TypeId) : Option Nat := if aggT P t then some (P.cellsOf t) else none
def cell1 (t : TypeId) : Bool := (P.underlying t).isSome && (aggT P t || P.cellsOf t == 1)
def smallElem (e : TypeId) : Bool := decide (P.bytesOf e ≤ 65536) && decide (P.cellsOf e ≤ 16384) && decide (1 ≤ P.cellsOf e) && cell1 P e &&
  (match zeroOf P e with | some z => z.cells.length == P.cellsOf e | none => false)
/-- 0: integers, 1: strings, 2: bools -/
def kindOf (t : TypeId) : Option Nat := match P.underlying t with
  | some (.int _) => some 0
  | some .string => some 1
  | some .bool => some 2
  | _ => none
def kindsOf (i : Nat) : List Field → Option (List Nat)
  | [] => some []
  | f :: fs => match kindOf P f.type, kindsOf (i + 1) fs with
    | some k, some r => if f.offset == i && f.name != "_" && P.cellsOf f.type == 1 then some (k :: r) else none
    | _, _ => none
def nilOf (d : TypeDesc) (n : AV) : Bool := match d, n with
  | .pointer _, .nilp | .slice _, .nils | .map _ _, .nilm | .func _ _ _, .nilf | .interface _, .nili => true
  | _, _ => false

def partsS (fs : Array Field) : List (Nat × Operand) → Option (List (Nat × Nat × Opd))
  | [] => some []
  | (i, x) :: l => match fs[i]?, opd G a x, partsS fs l with
    | some f, some o, some r => some ((f.offset, P.cellsOf f.type, o) :: r)
    | _, _, _ => none
def partsA (sz : Nat) : List (Nat × Operand) → Option (List (Nat × Nat × Opd))
  | [] => some []
  | (i, x) :: l => match opd G a x, partsA sz l with
    | some o, some r => some ((i * sz, sz, o) :: r)
    | _, _ => none
def partsE (n : Nat) : List (Nat × Operand) → Option (List (Nat × Opd))
  | [] => some []
  | (i, x) :: l => match opd G a x, partsE n l with
    | some o, some r => if i < n then some ((i, o) :: r) else none
    | _, _ => none
def optO : Option Operand → Option (Option Opd)
  | none => some none
  | some x => match opd G a x with | some o => some (some o) | none => none

def isHp (reg i : Nat) : Bool := a.hps.contains (reg, i)

def isPd (dst : Option Nat) : Bool := match dst with | some d => a.prom.contains d | none => false
def isSd (dst : Option Nat) : Bool := match dst with | some d => a.adrs.contains d | none => false
def plainD (dst : Option Nat) (r : Option IOp) : Option IOp := if isPd a dst || isSd a dst then none else r
def u8T (t : TypeId) : Bool := match P.underlying t with
  | some (.int .u8) => true
  | _ => false

/-- an operation of a region (not a call of a function) -/
def compOp (reg i : Nat) (dst : Option Nat) (o : Op) : Option IOp :=
  match o with
  | .move x | .assign x => plainD a dst <| (opd G a x).map .mov
  | .pick c x y => plainD a dst <| match opd G a c, opd G a x, opd G a y with
    | some c, some x, some y => some (.pick c x y)
    | _, _, _ => none
  | .alloc e => if isSd a dst then none else match zeroOf P e with
    | some z => if cell1 P e && z.cells.length == P.cellsOf e then some (if isPd a dst then .lalloc z else .halloc z.cells) else none
    | none => none
  | .box e x => if isSd a dst then none else match opd G a x with
    | some o => some (if isPd a dst then .lbox o else .hbox o)
    | none => none
  | .build t ps => plainD a dst <| match zeroOf P t, P.underlying t with
    | some (.agg z), some (.struct fs) => if fs.toList.all fun f => (P.info? f.type).isSome then (partsS P G a fs ps.toList).map (.build z) else none
    | some (.agg z), some (.array _ e) => if (P.info? e).isSome then (partsA G a (P.cellsOf e) ps.toList).map (.build z) else none
    | _, _ => none
  | .buildSlice t n ps => plainD a dst <| match P.underlying t with
    | some (.slice e) => match zeroOf P e with
      | some z => if smallElem P e && z.cells.length == P.cellsOf e && decide (n < 1000) then (partsE G a n ps.toList).map (.bslice (isHp a reg i) z n) else none
      | none => none
    | _ => none
  | .load t x => plainD a dst <| match opdA G a x with
    | some o => if cell1 P t then some (.load (ldN P t) o) else none
    | none => none
  | .store t x y => if dst.isSome then none else match opdA G a x, opd G a y with
    | some o, some v => if cell1 P t then some (.store (P.cellsOf t) o v) else none
    | _, _ => none
  | .nilCheck x => match opdA G a x with
    | some o => if isPd a dst || isSd a dst != isAdr o then none else some (.nilchk o)
    | none => none
  | .fieldAddr t x f => match opdA G a x, P.underlying t with
    | some o, some (.struct fs) => match fs[f]? with
      | some fl => if isPd a dst || isSd a dst != isAdr o || P.cellsOf fl.type == 0 then none else some (.faddr fl.offset o)
      | none => none
    | _, _ => none
  | .indexAddr t x ix => match P.underlying t with
    | some (.array n e) => match opdA G a x, opd G a ix with
      | some o, some j => if isPd a dst || isSd a dst != isAdr o || n < 2 || P.cellsOf e == 0 then none else some (.iaddrA n (P.cellsOf e) o j)
      | _, _ => none
    | some (.slice e) => plainD a dst <| match opd G a x, opd G a ix with
      | some o, some j => if decide (1 ≤ P.cellsOf e) then some (.iaddr (P.cellsOf e) o j) else none
      | _, _ => none
    | _ => none
  | .field t x f => plainD a dst <| match opd G a x, P.underlying t with
    | some o, some (.struct fs) => match fs[f]? with
      | some fl => if cell1 P fl.type then some (.field fl.offset (ldN P fl.type) o) else none
      | none => none
    | _, _ => none
  | .index t x ix => plainD a dst <| match opd G a x, opd G a ix, P.underlying t with
    | some o, some j, some .string => some (.idxS o j)
    | some o, some j, some (.array n e) => if cell1 P e then some (.idxA n (P.cellsOf e) (aggT P e) o j) else none
    | _, _, _ => none
  | .binOp op t x y _ => plainD a dst <| match opd G a x, opd G a y, P.underlying t with
    | some o, some p, some (.int _) | some o, some p, some .string => some (.bin op o p)
    | some o, some p, some .bool => (match op with | .eql => some (.eqB false o p) | .neq => some (.eqB true o p) | _ => none)
    | some o, some p, some (.struct fs) => match kindsOf P 0 fs.toList with
      | some ks => if P.stoodInHeld t then none else (match op with | .eql => some (.eqA false ks o p) | .neq => some (.eqA true ks o p) | _ => none)
      | none => none
    | some o, some (.c n), some d => if nilOf d n then (match op with | .eql => some (.eqN false o n) | .neq => some (.eqN true o n) | _ => none) else none
    | _, _, _ => none
  | .unOp op _ x => plainD a dst <| (opd G a x).map (.un op)
  | .convert s d x => plainD a dst <| match opd G a x, P.underlying s, P.underlying d with
    | some o, some (.int _), some (.int k) => some (.cvI k o)
    | some o, some .string, some .string => some (.cvSS o)
    | some o, some (.slice e), some .string => if u8T P e then some (.cvS o) else none
    | some o, some .string, some (.slice e) => if u8T P e then some (.cvB o) else none
    | _, _, _ => none
  | .makeInterface t x => plainD a dst <| match P.underlying t with
    | some (.interface _) => none
    | some _ => (opd G a x).map (.iface t)
    | none => none
  | .makeFunc f fi ca => plainD a dst <| match opds G a fi.toList, opds G a ca.toList with
    | some l, some m => some (.mkfn f l m)
    | _, _ => none
  | .makeMap _ none => plainD a dst <| some .mkmap
  | .makeSlice t l c => plainD a dst <| match P.underlying t, opd G a l, opd G a c with
    | some (.slice e), some x, some y => match zeroOf P e with
      | some z => if smallElem P e && z.cells.length == P.cellsOf e then some (.mkslice (isHp a reg i) z x y) else none
      | none => none
    | _, _, _ => none
  | .slice t x lo hi mx => plainD a dst <| match opd G a x, optO G a lo, optO G a hi, optO G a mx, P.underlying t with
    | some o, some l, some h, some m, some .string => if m.isSome then none else some (.sliceS o l h)
    | some o, some l, some h, some m, some (.slice e) => if decide (1 ≤ P.cellsOf e) && (m.isNone || h.isSome) then some (.sliceV (P.cellsOf e) o l h m) else none
    | _, _, _, _, _ => none
  | .lookup t m k ok => plainD a dst <| match opd G a m, opd G a k, P.underlying t with
    | some x, some y, some (.map kt e) => match zeroOf P e with
      | some z => match kindOf P kt with
        | some kd => some (.lookup kd z ok x y)
        | none => none
      | none => none
    | _, _, _ => none
  | .mapUpdate t m k v | .insert t m k v => if dst.isSome then none else match opd G a m, opd G a k, opd G a v, P.underlying t with
    | some x, some y, some z, some (.map kt _) => match kindOf P kt with
      | some kd => some (.mupd kd x y z)
      | none => none
    | _, _, _, _ => none
  | .range t x => plainD a dst <| match opd G a x, P.underlying t with
    | some o, some .string => some (.rngS o)
    | some o, some (.map _ _) => some (.rngM o)
    | _, _ => none
  | .next it true => plainD a dst <| (opd G a it).map .nextS
  | .entry it => plainD a dst <| (opd G a it).map .entry
  | .extract x k => plainD a dst <| (opd G a x).map (.extract · k)
  | .call { callee := .builtin b, args, argTypes } => plainD a dst <|
    match b, args.toList, argTypes.toList with
    | .len, [x], [t] => match opd G a x, P.underlying t with
      | some o, some .string => some (.lenS o)
      | some o, some (.slice _) => some (.lenV o)
      | some o, some (.map _ _) => some (.lenM o)
      | _, _ => none
    | .min, xs, _ => (opds G a xs).map (.minmax false)
    | .max, xs, _ => (opds G a xs).map (.minmax true)
    | .append, [x, y], t :: u :: _ => match opd G a x, opd G a y, P.underlying t, P.underlying u with
      | some o, some p, some (.slice e), some (.slice e') => if smallElem P e && e == e' then some (.append (P.cellsOf e) (aggT P e) (isHp a reg i) false o p) else none
      | some o, some p, some (.slice e), some .string => if smallElem P e && u8T P e then some (.append (P.cellsOf e) (aggT P e) (isHp a reg i) true o p) else none
      | _, _, _, _ => none
    | .delete, [x, y], t :: _ => match opd G a x, opd G a y, P.underlying t with
      | some o, some p, some (.map kt _) => match kindOf P kt with
        | some kd => some (.mdel kd o p)
        | none => none
      | _, _, _ => none
    | .clear, [x], [t] => match opd G a x, P.underlying t with
      | some o, some (.map _ _) => some (.mclear o)
      | _, _ => none
    | .copy, [x, y], t :: _ => match opd G a x, opd G a y, P.underlying t with
      | some o, some p, some (.slice e) => if smallElem P e then some (.copy (P.cellsOf e) (aggT P e) o p) else none
      | _, _, _ => none
    | _, _, _ => none
  | _ => none

/-- the slot by which an operation is guarded -/
def guardOf (ops : Array Oper) (g : Option (Nat × Bool)) : Option Guard :=
  match g with
  | none => some none
  | some (j, b) => match (ops[j]?).bind (·.dst) with
    | some d => if a.prom.contains d || a.adrs.contains d then none else some (some (d, b))
    | none => none

/-- the local variable that an operation writes -/
def wrI : IOp → List Nat
  | .store _ (.l t) _ | .store _ (.s _ t) _ => [t]
  | _ => []
def wrM : Item → List Nat
  | .op _ _ o => wrI o
  | _ => []

/-- the element's size and shape of a slice that is frozen -/
def frzOf (o : Oper) (at_ : Option Nat) : Nat × Bool :=
  match P.underlying o.type with
  | some (.slice e) => (P.cellsOf e, aggT P e)
  | some (.struct fs) => match at_ with
    | some k => match fs.toList.find? fun f => f.offset == k with
      | some f => match P.underlying f.type with
        | some (.slice e) => (P.cellsOf e, aggT P e)
        | _ => (0, false)
      | none => (0, false)
    | none => (0, false)
  | _ => (0, false)
def plainB (d : Option Nat) : Bool := !(isPd a d) && !(isSd a d)
def frzItems (reg i : Nat) (o : Oper) : List Item :=
  match a.frz.find? (fun x => x.1 == reg && x.2.1 == i), o.dst with
  | some (_, _, at_), some d => let z := frzOf P o at_
    if plainB a (some d) && decide (1 ≤ z.1) then [.op (some d) none (.freeze z.1 z.2 at_ (.t d))] else []
  | _, _ => []

def compMain (reg : Nat) (ops : Array Oper) (i : Nat) (o : Oper) (g : Guard) : Option Item :=
  match o.op with
  | .call { callee := .value f, args, argTypes := _ } =>
    if !plainB a o.dst then none else
    match opds G a args.toList with
    | some l => match f with
      | .func f => some (.call o.dst g (.fn f) l)
      | x => match opd G a x with
        | some x => some (.call o.dst g (.dyn x) l)
        | none => none
    | none => none
  | .next it false => if !plainB a o.dst then none else
    match opd G a it with
    | some x => some (.nextM o.dst g x)
    | none => none
  | op => match compOp P G a reg i o.dst op with
    | some p => some (.op o.dst g p)
    | none => none

def dstOk (o : Oper) : Bool := match o.dst with
  | some d => decide (d < a.ntmps) && (!a.prom.contains d || o.guard.isNone)
  | none => true

def compItem (reg : Nat) (ops : Array Oper) (i : Nat) (o : Oper) : Option (List Item) :=
  if !dstOk a o then none else
  match guardOf a ops o.guard with
  | none => none
  | some g => match compMain P G a reg ops i o g with
    | some m => if (wrM m).all fun t => a.prom.contains t then some (m :: frzItems P a reg i o) else none
    | none => none

def compAll (reg : Nat) (ops : Array Oper) : List Nat → Option (List Item)
  | [] => some []
  | i :: l => match ops[i]? with
    | some o => match compItem P G a reg ops i o, compAll reg ops l with
      | some x, some r => some (x ++ r)
      | _, _ => none
    | none => none

/-! #### regions whose order is drawn -/

/-- must it be carried out again behind an effect? -/
def needChk : IOp → Bool
  | .load _ _ | .lookup _ _ _ _ _ | .lenM _ | .entry _ | .cvS _ | .lalloc _ | .lbox _ => true
  | .nilchk x | .faddr _ x | .iaddrA _ _ x _ => isAdr x
  | _ => false
/-- does it leave memory alone? -/
def pureI : IOp → Bool
  | .mov _ | .pick _ _ _ | .lalloc _ | .lbox _ | .build _ _ | .load _ _ | .nilchk _ | .faddr _ _ | .iaddr _ _ _ | .iaddrA _ _ _ _ | .field _ _ _ | .idxS _ _ | .idxA _ _ _ _ _
  | .bin _ _ _ | .eqB _ _ _ | .eqN _ _ _ | .eqA _ _ _ _ | .un _ _ | .cvI _ _ | .cvSS _ | .cvS _ | .mkfn _ _ _ | .sliceS _ _ _ | .sliceV _ _ _ _ _ | .lookup _ _ _ _ _ | .entry _ | .extract _ _
  | .iface _ _ | .lenS _ | .lenV _ | .lenM _ | .minmax _ _ | .cvB _ => true
  | .bslice hp _ _ _ => !hp
  | _ => false

def sl : Opd → List Nat
  | .t i | .l i => [i]
  | .s i b => [i, b]
  | .c _ => []
def slO : Option Opd → List Nat
  | some x => sl x
  | none => []
/-- the slots that an operation looks at -/
def slotsI : IOp → List Nat
  | .mov x | .hbox x | .lbox x | .load _ x | .nilchk x | .faddr _ x | .field _ _ x | .un _ x | .eqN _ x _ | .cvI _ x | .cvSS x | .cvS x | .cvB x | .mclear x | .rngS x | .rngM x | .nextS x | .entry x | .extract x _ | .iface _ x | .lenS x | .lenV x | .lenM x
  | .freeze _ _ _ x => sl x
  | .pick x y z | .mupd _ x y z | .estore x y z => sl x ++ sl y ++ sl z
  | .halloc _ | .lalloc _ | .mkmap => []
  | .build _ ps => ps.flatMap fun p => sl p.2.2
  | .bslice _ _ _ ps => ps.flatMap fun p => sl p.2
  | .store _ x y | .iaddr _ x y | .iaddrA _ _ x y | .idxS x y | .idxA _ _ _ x y | .bin _ x y | .eqB _ x y | .eqA _ _ x y | .mkslice _ _ x y | .lookup _ _ _ x y | .mdel _ x y | .mentry _ x y | .append _ _ _ _ x y | .copy _ _ x y => sl x ++ sl y
  | .mkfn _ l m => l.flatMap sl ++ m.flatMap sl
  | .sliceS x l h => sl x ++ slO l ++ slO h
  | .sliceV _ x l h m => sl x ++ slO l ++ slO h ++ slO m
  | .minmax _ xs => xs.flatMap sl
def slG : Guard → List Nat
  | some (i, _) => [i]
  | none => []
def slotsM : Item → List Nat
  | .op _ g o | .chk _ g o => slG g ++ slotsI o
  | .call _ g f args => slG g ++ (match f with | .dyn x => sl x | .fn _ => []) ++ args.flatMap sl
  | .nextM _ g it => slG g ++ sl it
def dstM : Item → List Nat
  | .op (some d) _ _ | .call (some d) _ _ _ | .nextM (some d) _ _ => [d]
  | _ => []
def pureM : List Item → Bool
  | [.op d _ p] => pureI p && (d.isSome || !needChk p)
  | _ => false
def chkM : List Item → List Item
  | [.op (some d) g p] => if needChk p then [.chk d g p] else []
  | _ => []

/-- a new object, made empty: it may be made before its turn -/
def lateM : List Item → Bool
  | [.op (some _) none (.halloc _)] => true
  | _ => false

/-- runs, objects made empty, an effect, what is carried out again -/
structure Stage where
  runs : List Nat
  lates : List Nat
  eff : Nat
  again : List Nat
  deriving Inhabited, Repr

section
variable (ops : Array Oper) (up : Array Nat) (its : List (List Item))
def itAt (i : Nat) : List Item := its.getD i []
def dstAt (i : Nat) : Option Nat := match ops[i]? with | some o => o.dst | none => none
def inUp (i j : Nat) : Bool := (up.getD i 0).testBit j
def slotsAt (i : Nat) : List Nat := (itAt its i).flatMap slotsM
def wrAt (i : Nat) : List Nat := (itAt its i).flatMap wrM
def rng : List Nat := List.range ops.size
/-- does an operation write what one before it looks at? -/
def warAt (k : Nat) : Bool := match dstAt ops k with
  | some d => (slotsAt its k).contains d || (rng ops).any fun i => i != k && inUp up k i && (dstAt ops i == some d || (slotsAt its i).contains d)
  | none => false
def lateAt (i : Nat) : Bool := lateM (itAt its i) && !warAt ops up its i
def pureAt (i : Nat) : Bool := pureM (itAt its i) && !warAt ops up its i

def edgeOk (done : List Nat) (i : Nat) : Bool := match ops[i]? with
  | some o => o.after.all fun e => !Region.binds .any e || done.contains e.on
  | none => false
/-- what only reads, as early as it may -/
def proposeRuns : Nat → List Nat → List Nat × List Nat
  | 0, ran => ([], ran)
  | f + 1, ran =>
    match (rng ops).find? fun i => !ran.contains i && pureAt ops up its i && edgeOk ops ran i with
    | some i => let r := proposeRuns f (ran ++ [i])
      (i :: r.1, r.2)
    | none => ([], ran)
/-- a proposal: what only reads as early as it may, effects in their order, behind each effect what was read and may come behind it once more -/
def propose : Nat → List Nat → List Stage × List Nat × List Nat
  | 0, _ => ([], [], [])
  | f + 1, ran =>
    let r := proposeRuns ops up its ops.size ran
    let ran := r.2
    let lates := (rng ops).filter fun i => !ran.contains i && lateAt ops up its i
    match (rng ops).find? fun i => !ran.contains i && !lateAt ops up its i && edgeOk ops (ran ++ lates) i with
    | some i =>
      let lates := lates.filter fun j => inUp up i j
      let again := ran.filter fun j => pureAt ops up its j && !inUp up i j
      let s := propose f (ran ++ lates ++ [i])
      (⟨r.1, lates, i, again⟩ :: s.1, s.2)
    | none => ([], r.1, lates)

/-- `up` holds no more than what follows from the edges -/
def upOk : Bool := (rng ops).all fun i => (rng ops).all fun j => !inUp up i j ||
  (match ops[i]? with | some o => o.after.any fun e => Region.binds .any e && (e.on == j || inUp up e.on j) | none => false)
/-- what comes before stands before -/
def backOk : Bool := (rng ops).all fun i => match ops[i]? with
  | some o => o.after.all fun e => !Region.binds .any e || decide (e.on < i)
  | none => true
/-- a slot that is written and looked at in the region: in which order, is fixed -/
def slotsOk : Bool := (rng ops).all fun k => match dstAt ops k with
  | some d => (rng ops).all fun i => i == k || (dstAt ops i != some d || inUp up i k || inUp up k i) && (!(slotsAt its i).contains d || inUp up i k || inUp up k i)
  | none => true
def runOk (ran : List Nat) (i : Nat) : Bool := pureAt ops up its i && decide (i < ops.size) && !ran.contains i && edgeOk ops ran i
def runsOk : List Nat → List Nat → Bool
  | _, [] => true
  | ran, i :: l => runOk ops up its ran i && runsOk (ran ++ [i]) l
def latesOk : List Nat → List Nat → Bool
  | _, [] => true
  | ran, i :: l => lateAt ops up its i && decide (i < ops.size) && !ran.contains i && edgeOk ops ran i && latesOk (ran ++ [i]) l
/-- nothing but this effect, and empty objects, is ready -/
def frontOk (ran : List Nat) (f : Option Nat) : Bool := (rng ops).all fun j => ran.contains j || f == some j || lateAt ops up its j ||
  (match ops[j]? with | some o => o.after.any fun e => Region.binds .any e && !ran.contains e.on && !lateAt ops up its e.on | none => true)
def effOk (ran : List Nat) (f : Nat) (ag : List Nat) : Bool :=
  decide (f < ops.size) && !ran.contains f && !lateAt ops up its f && edgeOk ops ran f && frontOk ops up its ran (some f) &&
  (ag.all fun j => ran.contains j && pureAt ops up its j) &&
  ran.all fun j => inUp up f j || !pureAt ops up its j || (ag.contains j && !(chkM (itAt its j)).isEmpty) ||
    ((chkM (itAt its j)).isEmpty && (wrAt its f).all fun t => !(slotsAt its j).contains t && dstAt ops j != some t)
def schedOk : List Nat → List Stage → List Nat → List Nat → Bool
  | ran, [], last, lates => runsOk ops up its ran last && latesOk ops up its (ran ++ last) lates && ((rng ops).all fun j => (ran ++ last ++ lates).contains j)
  | ran, s :: st, last, lates => runsOk ops up its ran s.runs && latesOk ops up its (ran ++ s.runs) s.lates && (s.lates.all fun j => inUp up s.eff j) &&
    effOk ops up its (ran ++ s.runs ++ s.lates) s.eff s.again && schedOk (ran ++ s.runs ++ s.lates ++ [s.eff]) st last lates
def schedItems : List Stage → List Nat → List Nat → List Item
  | [], last, lates => last.flatMap (itAt its) ++ lates.flatMap (itAt its)
  | s :: st, last, lates => s.runs.flatMap (itAt its) ++ (s.lates.flatMap (itAt its) ++ (itAt its s.eff ++ (s.again.flatMap (fun j => chkM (itAt its j)) ++ schedItems st last lates)))
end

/-- the items of every operation -/
def itemsOf (reg : Nat) (ops : Array Oper) : Nat → List Oper → Option (List (List Item))
  | _, [] => some []
  | i, o :: l => match compItem P G a reg ops i o, itemsOf reg ops (i + 1) l with
    | some x, some r => some (x :: r)
    | _, _ => none

def killsOf (ops : Array Oper) : List Nat := ops.toList.filterMap fun o => match o.dst with
  | some d => if a.adrs.contains d then some d else none
  | none => none
def newsOf (ops : Array Oper) : List Nat := ops.toList.filterMap fun o => match o.dst with
  | some d => if a.prom.contains d then some d else none
  | none => none
def regionIR (ops : Array Oper) (l : List Item) : IR :=
  match newsOf a ops with
  | [] => .items l (killsOf a ops)
  | k => .seq (.items [] k) (.items l (killsOf a ops))

def compCode : Code → Option IR
  | .skip | .label _ => some .skip
  | .region id ops draw =>
    if draw then match itemsOf P G a id ops 0 ops.toList with
      | some its =>
        let up := Region.before ops
        let s := propose ops up its ops.size []
        if upOk ops up && backOk ops && slotsOk ops up its && schedOk ops up its [] s.1 s.2.1 s.2.2 then some (regionIR a ops (schedItems its s.1 s.2.1 s.2.2)) else none
      | none => none
    else match compAll P G a id ops (List.range ops.size) with
      | some l => some (regionIR a ops l)
      | none => none
  | .seq x y => match compCode x, compCode y with
    | some u, some v => some (.seq u v)
    | _, _ => none
  | .cond c x y => match opd G a c, compCode x, compCode y with
    | some o, some u, some v => some (.cond o u v)
    | _, _, _ => none
  | .block id x => match compCode x with | some u => some (.block id u) | none => none
  | .loop x => match compCode x with | some u => some (.loop u) | none => none
  | .exit id => some (.exit id)
  | .ret => some .ret
  | _ => none

def compRes : List ResultVar → Option (List ResV)
  | [] => some []
  | .tmp t :: l => match compRes l with
    | some r => if a.prom.contains t || a.adrs.contains t then none else some (.tmp t :: r)
    | none => none
  | .cell t ty :: l => match compRes l with
    | some r => if a.adrs.contains t || !cell1 P ty then none else some ((if a.prom.contains t then .loc t (ldN P ty) else .cell t (ldN P ty)) :: r)
    | none => none

def annOk : Bool := (a.adrs.all fun d => !a.prom.contains d) && a.base.all fun x => a.prom.contains x.2

def compFn (fn : Func) : Option IRFn :=
  let n := fn.params.size + fn.nfree
  if !annOk a || a.ntmps != fn.ntmps || fn.name == "runtime.NumGoroutine" || !(a.prom.all fun t => decide (n ≤ t)) || !(a.adrs.all fun t => decide (n ≤ t)) then none else
  match fn.body with
  | some c => match compCode P G a c, compRes P a fn.results.toList with
    | some b, some r => some { body := b, results := r, nargs := n, keepArgs := a.keepArgs, keepRes := a.keepRes }
    | _, _ => none
  | none => none

end
end Go.AM
