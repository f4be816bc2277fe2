/-
  Texts of the proof, joined by program: AmDefs, AmWp, AmSim, AmTab. Own work.
-/
import GoSem.Step
import Derived.Attr
set_option linter.unusedSimpArgs false
set_option linter.unusedVariables false
namespace Go.AM

/-- values: 'lit' is a slice whose content never changes (the content stands in the value); 'sl', 'ptr' lead to objects of the running function -/
inductive V where
  | bool (b : Bool)
  | int (k : IntKind) (n : Int)
  | float (bits : Nat)
  | str (s : List UInt8)
  | agg (cs : List V)
  | tuple (vs : List V)
  | nilp | nilfn | nili
  | fn (f : Nat) (caps : List V)
  | iface (t : Nat) (v : V)
  | nils
  | lit (sz : Nat) (xs : List V)
  | own (sz : Nat) (xs : List V)
  | sl (r g off len : Nat)
  | ptr (r g idx off : Nat)
  | eptr (e : V) (off : Nat)
  | msl (sz : Nat) (es : List V) (off len : Nat)
  | mptr (sz : Nat) (es : List V) (idx off : Nat)
  | any
  deriving Inhabited

def undefV : V := .tuple []

structure Obj where
  gen : Nat
  sz : Nat
  arr : Bool
  fz : Bool
  es : Option (List V)

structure Res where
  val : V
  outs : List (Nat × List V)

inductive AOpd where
  | tmp (t : Nat)
  | const (v : V)

inductive AOp where
  | move (x : AOpd)
  | pick (c a b : AOpd)
  | new (r sz : Nat) (x : AOpd)
  | build (cells : List V) (parts : List (Nat × Nat × AOpd))
  | buildSlice (r sz : Nat) (zero : V) (n : Nat) (parts : List (Nat × AOpd))
  | emptyBuf (r sz : Nat)
  | ren (r : Nat) (x : AOpd)
  | makeSlice (r sz bytes : Nat) (zero : V) (len cap : AOpd)
  | load (agg : Bool) (sz : Nat) (x : AOpd)
  | store (agg : Bool) (sz : Nat) (x v : AOpd)
  | nilCheck (x : AOpd)
  | bin (op : BinOp) (x y : AOpd)
  | eqB (neg : Bool) (x y : AOpd)
  | eqA (neg : Bool) (ks : List Nat) (x y : AOpd)
  | un (op : UnOp) (x : AOpd)
  | convInt (k : IntKind) (x : AOpd)
  | convIF (x : AOpd)
  | convFI (k : IntKind) (x : AOpd)
  | convStr (x : AOpd)
  | mkIface (t : Nat) (x : AOpd)
  | assert (t : Nat) (commaOk : Bool) (zero : V) (x : AOpd)
  | mkFunc (f : Nat) (caps : List AOpd)
  | slice (sz : Nat) (x : AOpd) (lo hi mx : Option AOpd)
  | sliceStr (x : AOpd) (lo hi : Option AOpd)
  | fieldAddr (off : Nat) (x : AOpd)
  | field (agg : Bool) (off sz : Nat) (x : AOpd)
  | indexAddr (sz : Nat) (x i : AOpd)
  | indexArr (n sz : Nat) (x i : AOpd)
  | indexStr (x i : AOpd)
  | indexVal (agg : Bool) (n sz : Nat) (x i : AOpd)
  | len (x : AOpd)
  | lenStr (x : AOpd)
  | min (xs : List AOpd)
  | max (xs : List AOpd)
  | append (r sz lim : Nat) (s x : AOpd)
  | copy (sz : Nat) (d s : AOpd)
  | clear (sz : Nat) (zero : V) (x : AOpd)
  | extract (x : AOpd) (i : Nat)
  | call (r : Nat) (thaw : Bool) (f : AOpd) (args : List AOpd)
  | buildSliceD (i r sz : Nat) (zero : V) (n : Nat) (parts : List (Nat × AOpd))
  | appendK (r sz lim : Nat) (s x : AOpd)
  | deep (x : AOpd)
  | loadW (ks : List Nat) (agg : Bool) (sz : Nat) (x : AOpd)
  | buildSliceK (r sz : Nat) (zero : V) (n : Nat) (parts : List (Nat × AOpd))
  | bad

structure AOper where
  dst : Option Nat
  op : AOp
  guard : Option (Nat × Bool)
  pre : List Nat

inductive ACode where
  | skip
  | region (ops : List AOper)
  | drawn (ops : List AOper)
  | seq (a b : ACode)
  | cond (c : AOpd) (a b : ACode)
  | block (id : Nat) (b : ACode)
  | loop (b : ACode)
  | exit (id : Nat)
  | ret
  | scope (b : ACode)
  | bad

inductive ARes where
  | tmp (t : Nat)
  | cell (t : Nat) (agg : Bool) (sz : Nat)

/-- 'modes': for each parameter: may the callee write what it leads to (with the size of an element)? -/
structure AFunc where
  nparams : Nat
  ntmps : Nat
  modes : List (Option Nat)
  results : List ARes
  body : ACode

structure Env where
  fn : Nat → Option AFunc
  ext : Nat → List V → Option Res

/-! ## Small functions on values -/

def V.cells : V → List V
  | .agg cs => cs
  | v => [v]
def V.isAgg : V → Bool
  | .agg _ => true
  | _ => false
def V.isTuple : V → Bool
  | .tuple _ => true
  | _ => false
/-- fills one cell of memory -/
def V.isCell : V → Bool
  | .agg _ | .tuple _ | .any | .own .. | .msl .. | .mptr .. => false
  | _ => true

mutual
/-- leads to no object that can be written -/
def V.isPure : V → Bool
  | .bool _ | .int .. | .float _ | .str _ | .nilp | .nilfn | .nili | .nils | .lit .. | .eptr .. => true
  | .agg cs => V.arePure cs
  | .tuple cs => V.arePure cs
  | .fn _ caps => V.arePure caps
  | .iface _ v => V.isPure v
  | .own .. | .sl .. | .ptr .. | .msl .. | .mptr .. | .any => false
def V.arePure : List V → Bool
  | [] => true
  | c :: cs => V.isPure c && V.arePure cs
end
mutual
/-- holds no slice at all -/
def V.isScalar : V → Bool
  | .bool _ | .int .. | .float _ | .str _ | .nilp | .nilfn | .nili | .nils => true
  | .agg cs => V.areScalar cs
  | .tuple cs => V.areScalar cs
  | _ => false
def V.areScalar : List V → Bool
  | [] => true
  | c :: cs => V.isScalar c && V.areScalar cs
end

/-- 'sz' cells from 'off' on -/
def part (agg : Bool) (off sz : Nat) (e : V) : Option V :=
  match agg, e with
  | true, .agg cs => if off + sz ≤ cs.length then some (.agg ((cs.drop off).take sz)) else none
  | true, _ => none
  | false, .agg cs => cs[off]?
  | false, v => if v.isCell ∧ off = 0 then some v else none

def putPart (agg : Bool) (off sz : Nat) (e v : V) : Option V :=
  match agg with
  | true => match e, v with
    | .agg cs, .agg vs => if vs.length = sz ∧ off + sz ≤ cs.length then some (.agg (cs.take off ++ vs ++ cs.drop (off + sz))) else none
    | _, _ => none
  | false => if v.isCell ∧ sz = 1 then match e with
      | .agg cs => if off < cs.length then some (.agg (cs.set off v)) else none
      | e => if e.isCell ∧ off = 0 then some v else none
    else none

/-- may lie in memory -/
def V.lies (v : V) : Bool := v.isAgg || v.isCell

def isBlank (v : V) (sz : Nat) : Bool := v.cells.length == sz && v.lies

def window (es : List V) (off len : Nat) : List V := (es.drop off).take len

def overwrite (es : List V) (off : Nat) (ys : List V) : List V := es.take off ++ ys ++ es.drop (off + ys.length)

/-! ## What an operation does, step by step -/

inductive Act where
  | done (v : V)
  | fail
  | getT (t : Nat) (k : V → Act)
  | getO (r : Nat) (k : Obj → Act)
  | setO (r : Nat) (o : Obj) (k : Act)
  | call (f : Nat) (args : List V) (k : Res → Act)

def ev (x : AOpd) (k : V → Act) : Act :=
  match x with
  | .tmp t => .getT t k
  | .const v => k v
def evs : List AOpd → (List V → Act) → Act
  | [], k => k []
  | x :: xs, k => ev x fun v => evs xs fun vs => k (v :: vs)
def evo : Option AOpd → (Option V → Act) → Act
  | none, k => k none
  | some x, k => ev x fun v => k (some v)

def give : Option V → Act
  | some v => .done v
  | none => .fail

/-- what is laid into an array: a slice of the function's own is frozen, its content laid down -/
def frzCell (c : V) (k : V → Act) : Act :=
  match c with
  | .sl r g off len => .getO r fun o => match o.es with
    | some es => if o.gen = g ∧ o.arr = true ∧ off + len ≤ es.length ∧ V.arePure (window es off len) = true then .setO r { o with fz := true } (k (.lit o.sz (window es off len))) else .fail
    | none => .fail
  | .own .. | .msl .. | .mptr .. | .any => .fail
  | c => k c
def frzCells : List V → (List V → Act) → Act
  | [], k => k []
  | c :: cs, k => frzCell c fun c' => frzCells cs fun cs' => k (c' :: cs')
def frz (v : V) (k : V → Act) : Act :=
  if v.isPure then k v else
  match v with
  | .agg cs => frzCells cs fun cs' => k (.agg cs')
  | v => frzCell v k
def frzs (vs : List V) (k : List V → Act) : Act :=
  if V.arePure vs then k vs else go vs k
where
  go : List V → (List V → Act) → Act
  | [], k => k []
  | c :: cs, k => frz c fun c' => go cs fun cs' => k (c' :: cs')

/-- what a callee sees of a value: no object, contents alone; which objects were read -/
def snapL (f : V → (V → List Nat → Act) → Act) : List V → (List V → List Nat → Act) → Act
  | [], k => k [] []
  | c :: cs, k => f c fun c' r => snapL f cs fun cs' rs => k (c' :: cs') (r ++ rs)
def snapAll (f : V → (V → List Nat → Act) → Act) (vs : List V) (k : List V → List Nat → Act) : Act :=
  if V.arePure vs then k vs [] else snapL f vs k
def snapV : Nat → V → (V → List Nat → Act) → Act
  | 0, v, k => if v.isPure then k v [] else .fail
  | d + 1, v, k => if v.isPure then k v [] else
    match v with
    | .agg cs => snapL (snapV d) cs fun cs' rs => k (.agg cs') rs
    | .fn f cs => snapL (snapV d) cs fun cs' rs => k (.fn f cs') rs
    | .iface t x => snapV d x fun x' rs => k (.iface t x') rs
    | .sl r g off len => .getO r fun o => match o.es with
      | some es => if o.gen = g ∧ o.arr = true ∧ off + len ≤ es.length then snapAll (snapV d) (window es off len) fun xs rs => k (.lit o.sz xs) (r :: rs) else .fail
      | none => .fail
    | .ptr r g idx off => .getO r fun o => match o.es with
      | some es => if o.gen = g then match es[idx]? with
          | some e => snapV d e fun e' rs => k (.eptr e' off) (r :: rs)
          | none => .fail
        else .fail
      | none => .fail
    | _ => .fail
def snap (v : V) (k : V → List Nat → Act) : Act := snapV 5 v k

/-- a parameter that the callee may write: its place, the object handed over; 'fresh': there was none -/
structure WRef where
  i : Nat
  r : Nat
  fresh : Option Nat

/-- arguments: 'rs' are the objects read, 'ws' the objects handed over to be written -/
def prepare (r0 : Nat) : List V → List (Option Nat) → Nat → (List V → List Nat → List WRef → Act) → Act
  | [], _, _, k => k [] [] []
  | v :: vs, m :: ms, i, k =>
    match m with
    | some sz => match v with
      | .nils => if 0 < sz then prepare r0 vs ms (i + 1) fun as rs ws => k (.msl sz [] 0 0 :: as) rs (⟨i, r0 + i, some sz⟩ :: ws) else .fail
      | .sl r g off len => .getO r fun o => match o.es with
        | some es => if o.gen = g ∧ o.fz = false ∧ o.sz = sz ∧ off + len ≤ es.length ∧ V.arePure es = true then
            prepare r0 vs ms (i + 1) fun as rs ws => k (.msl sz es off len :: as) rs (⟨i, r, none⟩ :: ws) else .fail
        | none => .fail
      | .ptr r g idx off => .getO r fun o => match o.es with
        | some es => if o.gen = g ∧ o.fz = false ∧ o.sz = sz ∧ V.arePure es = true then
            prepare r0 vs ms (i + 1) fun as rs ws => k (.mptr sz es idx off :: as) rs (⟨i, r, none⟩ :: ws) else .fail
        | none => .fail
      | _ => .fail
    | none => snap v fun v' rs => prepare r0 vs ms (i + 1) fun as rs' ws => k (v' :: as) (rs ++ rs') ws
  | v :: vs, [], i, k => snap v fun v' rs => prepare r0 vs [] (i + 1) fun as rs' ws => k (v' :: as) (rs ++ rs') ws

def freezeAll : List Nat → Act → Act
  | [], k => k
  | r :: rs, k => .getO r fun o => .setO r { o with fz := true } (freezeAll rs k)

/-- what the callee left in what it was handed; the refs with their generations now -/
def putOuts : List WRef → List (Nat × List V) → (List (Nat × Nat × Nat) → Act) → Act
  | [], [], k => k []
  | w :: ws, (bump, es) :: outs, k => .getO w.r fun o => match w.fresh with
    | none => .setO w.r { o with gen := o.gen + bump, es := some es } (putOuts ws outs fun gs => k ((w.i, w.r, o.gen + bump) :: gs))
    | some sz => .setO w.r { gen := o.gen + 1, sz, arr := true, fz := false, es := some es } (putOuts ws outs fun gs => k ((w.i, w.r, o.gen + 1) :: gs))
  | _, _, _ => .fail
def lookRef (i : Nat) : List (Nat × Nat × Nat) → Option (Nat × Nat)
  | [] => none
  | (j, r, g) :: gs => if j = i then some (r, g) else lookRef i gs

/-- a cell of a result: what is fresh becomes an object of the caller's ('thaw'), or a content -/
def importCell (thaw : Bool) (r : Nat) (gs : List (Nat × Nat × Nat)) (c : V) (k : V → Act) : Act :=
  match c with
  | .own sz xs => if thaw then .getO r fun o => .setO r { gen := o.gen + 1, sz, arr := true, fz := false, es := some xs } (k (.sl r (o.gen + 1) 0 xs.length)) else k (.lit sz xs)
  | .sl i _ off len => match lookRef i gs with
    | some (r', g') => k (.sl r' g' off len)
    | none => .fail
  | c => if c.isPure then k c else .fail
def importCells (thaw : Bool) : Nat → List (Nat × Nat × Nat) → List V → (List V → Act) → Act
  | _, _, [], k => k []
  | r, gs, c :: cs, k => importCell thaw r gs c fun c' => importCells thaw (r + 1) gs cs fun cs' => k (c' :: cs')
def importV (thaw : Bool) (r : Nat) (gs : List (Nat × Nat × Nat)) (v : V) (k : V → Act) : Act :=
  if v.isPure then k v else
  match v with
  | .agg cs => importCells thaw r gs cs fun cs' => k (.agg cs')
  | v => importCell thaw r gs v k
def importVs (thaw : Bool) : Nat → List (Nat × Nat × Nat) → List V → (List V → Act) → Act
  | _, _, [], k => k []
  | r, gs, v :: vs, k => importV thaw r gs v fun v' => importVs thaw (r + 8) gs vs fun vs' => k (v' :: vs')
def importRes (thaw : Bool) (r : Nat) (gs : List (Nat × Nat × Nat)) (v : V) (k : V → Act) : Act :=
  if v.isPure then k v else
  match v with
  | .tuple vs => importVs thaw r gs vs fun vs' => k (.tuple vs')
  | v => importV thaw r gs v k

/-- the same place in two lists -/
def apart (rs ws : List Nat) : Bool := ws.all fun w => !rs.contains w
def distinct : List Nat → Bool
  | [] => true
  | w :: ws => !ws.contains w && distinct ws

def doCall (E : Env) (r : Nat) (thaw : Bool) (f : Nat) (args : List V) : Act :=
  let modes := match E.fn f with | some af => af.modes | none => []
  prepare (r + 8) args modes 0 fun as rs ws =>
    if apart rs (ws.map (·.r)) && distinct (ws.map (·.r)) then
      .call f as fun res =>
        let go := putOuts ws res.outs fun gs => importRes thaw r gs res.val .done
        if res.val.isScalar && res.outs.all (fun o => V.areScalar o.2) then go else freezeAll rs go
    else .fail

/-! ### arithmetic -/

def boolV (b : Bool) : Option V := some (.bool b)
def cmpInt (op : BinOp) (a b : Int) : Option V :=
  match op with
  | .eql => some (.bool (a == b))
  | .neq => some (.bool (a != b))
  | .lss => some (.bool (a < b))
  | .leq => some (.bool (a ≤ b))
  | .gtr => some (.bool (b < a))
  | .geq => some (.bool (b ≤ a))
  | _ => none
def bitsInt (op : BinOp) (k : IntKind) (x y : Int) : Option V :=
  let a := BitVec.ofInt k.bits x
  let b := BitVec.ofInt k.bits y
  let back (r : BitVec k.bits) : Option V := some (.int k (k.wrap r.toNat))
  match op with
  | .and => back (a &&& b)
  | .or => back (a ||| b)
  | .xor => back (a ^^^ b)
  | .andNot => back (a &&& ~~~b)
  | _ => none
/-- cells of the kinds 0 (bool), 1 (an integer), 2 (a string): are they equal? -/
def eqK (k : Nat) (a b : V) : Option Bool :=
  match k, a, b with
  | 0, .bool a, .bool b => some (a == b)
  | 1, .int k a, .int k' b => if k = k' then some (a == b) else none
  | 2, .str a, .str b => some (decide (a = b))
  | _, _, _ => none
def eqKs : List Nat → List V → List V → Option Bool
  | [], [], [] => some true
  | k :: ks, a :: as, b :: bs => match eqK k a b, eqKs ks as bs with
    | some x, some y => some (x && y)
    | _, _ => none
  | _, _, _ => none

def binV (op : BinOp) (x y : V) : Option V :=
  match x, y with
  | .int k a, .int k' b =>
    match op with
    | .shl => if b < 0 then none else some (.int k (k.wrap (a * 2 ^ (min b.toNat k.bits))))
    | .shr => if b < 0 then none else some (.int k (a.fdiv (2 ^ (min b.toNat k.bits))))
    | op =>
      if k = k' then
        match op with
        | .add => some (.int k (k.wrap (a + b)))
        | .sub => some (.int k (k.wrap (a - b)))
        | .mul => some (.int k (k.wrap (a * b)))
        | .quo => if b = 0 then none else some (.int k (k.wrap (a.tdiv b)))
        | .rem => if b = 0 then none else some (.int k (a.tmod b))
        | .and | .or | .xor | .andNot => bitsInt op k a b
        | op => cmpInt op a b
      else none
  | .str a, .str b =>
    match op with
    | .add => if a.length + b.length ≤ 9223372036854775807 then some (.str (a ++ b)) else none
    | .eql => some (.bool (decide (a = b)))
    | .neq => some (.bool (!decide (a = b)))
    | .lss => some (.bool (Op.bytesLess a b))
    | .leq => some (.bool (Op.bytesLess a b || decide (a = b)))
    | .gtr => some (.bool (!(Op.bytesLess a b || decide (a = b))))
    | .geq => some (.bool (!Op.bytesLess a b))
    | _ => none
  | _, _ => none

def unV (op : UnOp) (x : V) : Option V :=
  match op, x with
  | .neg, .int k n => some (.int k (k.wrap (0 - n)))
  | .not, .bool b => some (.bool (!b))
  | .xor, .int k n => bitsInt .xor k (if k.signed then -1 else k.max) n
  | _, _ => none

def min2 (x y : V) : Option V :=
  match x, y with
  | .int k a, .int k' b => if k = k' then some (.int k (if b < a then b else a)) else none
  | _, _ => none
def max2 (x y : V) : Option V :=
  match x, y with
  | .int k a, .int k' b => if k = k' then some (.int k (if a < b then b else a)) else none
  | _, _ => none
def foldV1 (f : V → V → Option V) (x : V) : List V → Option V
  | [] => some x
  | y :: ys => match f x y with
    | some z => foldV1 f z ys
    | none => none
def foldV (f : V → V → Option V) : List V → Option V
  | [] => none
  | x :: xs => foldV1 f x xs

def lenV : V → Option V
  | .nils => some (.int .i64 0)
  | .lit _ xs => some (.int .i64 xs.length)
  | .sl _ _ _ len => some (.int .i64 len)
  | _ => none

def boundOf (d : Nat) : Option V → Option Nat
  | none => some d
  | some (.int _ n) => if 0 ≤ n then some n.toNat else none
  | some _ => none

def sliceStrV (x : V) (lo hi : Option V) : Option V :=
  match x with
  | .str s => match boundOf 0 lo, boundOf s.length hi with
    | some l, some h => if l ≤ h ∧ h ≤ s.length then some (.str ((s.drop l).take (h - l))) else none
    | _, _ => none
  | _ => none
def sliceV (sz : Nat) (x : V) (lo hi mx : Option V) : Option V :=
  match x with
  | .nils => match boundOf 0 lo, boundOf 0 hi, boundOf 0 mx with
    | some l, some h, some m => if l ≤ h ∧ h ≤ m ∧ m ≤ 0 ∧ (hi.isSome = true ∨ mx.isNone = true) then some .nils else none
    | _, _, _ => none
  | .lit sz' xs => if sz' = sz then match boundOf 0 lo, boundOf xs.length hi, mx with
      | some l, some h, none => if l ≤ h ∧ h ≤ xs.length then some (.lit sz (window xs l (h - l))) else none
      | some l, some h, some m => match hi, boundOf 0 (some m) with
        | some _, some m => if l ≤ h ∧ h ≤ m ∧ m ≤ xs.length then some (if m = l then .nils else .any) else none
        | _, _ => none
      | _, _, _ => none
    else none
  | _ => none

def fillCells : List V → List (Nat × Nat × V) → Option (List V)
  | cs, [] => some cs
  | cs, (off, sz, v) :: rest => if v.cells.length = sz ∧ off + sz ≤ cs.length ∧ v.lies = true then fillCells (cs.take off ++ v.cells ++ cs.drop (off + sz)) rest else none
def evParts : List (Nat × Nat × AOpd) → (List (Nat × Nat × V) → Act) → Act
  | [], k => k []
  | (o, s, x) :: ps, k => ev x fun v => evParts ps fun vs => k ((o, s, v) :: vs)
def evElems : List (Nat × AOpd) → (List (Nat × V) → Act) → Act
  | [], k => k []
  | (i, x) :: ps, k => ev x fun v => frz v fun v => evElems ps fun vs => k ((i, v) :: vs)
def evElemsK : List (Nat × AOpd) → (List (Nat × V) → Act) → Act
  | [], k => k []
  | (i, x) :: ps, k => ev x fun v => evElemsK ps fun vs => k ((i, v) :: vs)
def fillElems (sz : Nat) : List V → List (Nat × V) → Option (List V)
  | es, [] => some es
  | es, (i, v) :: rest => if i < es.length ∧ isBlank v sz = true then fillElems sz (es.set i v) rest else none

/-- the content of a slice or string that is read -/
def content (sz : Nat) (x : V) (k : List V → Act) : Act :=
  match x with
  | .nils => k []
  | .lit sz' xs => if sz' = sz then k xs else .fail
  | .sl r g off len => .getO r fun o => match o.es with
    | some es => if o.gen = g ∧ o.sz = sz ∧ off + len ≤ es.length then k (window es off len) else .fail
    | none => .fail
  | .str s => if sz = 1 then k (s.map fun b => .int .u8 b.toNat) else .fail
  | _ => .fail

/-- a row under a name that is computed -/
def bsAct (r sz : Nat) (zero : V) (n : Nat) (parts : List (Nat × AOpd)) : Act := evElems parts fun ps => match fillElems sz (List.replicate n zero) ps with
  | some es => if isBlank zero sz && decide (0 < sz ∧ n * sz ≤ 16777216) then .getO r fun o => .setO r { gen := o.gen + 1, sz, arr := true, fz := false, es := some es } (.done (.sl r (o.gen + 1) 0 n)) else .fail
  | none => .fail
/-- what is appended stays as it is -/
def apAct (r sz lim : Nat) (s : V) (ys : List V) : Act :=
    if ys.all (isBlank · sz) && decide (0 < sz) then match s with
    | .nils => if ys.isEmpty then .done .nils else if ys.length ≤ lim then
        .getO r fun o => .setO r { gen := o.gen + 1, sz, arr := true, fz := false, es := some ys } (.done (.sl r (o.gen + 1) 0 ys.length)) else .fail
    | .lit sz' xs => if ys.isEmpty then .done (.lit sz' xs) else .fail
    | .sl r' g off len => .getO r' fun o => match o.es with
      | some es => if o.gen = g ∧ o.arr = true ∧ o.fz = false ∧ o.sz = sz ∧ off + len ≤ es.length ∧ len + ys.length ≤ lim then
            if off + len + ys.length ≤ es.length then
              .setO r' { o with es := some (overwrite es (off + len) ys) } (.done (.sl r' g off (len + ys.length)))
            else
              .setO r' { o with gen := g + 1, es := some (window es off len ++ ys) } (.done (.sl r' (g + 1) 0 (len + ys.length)))
        else .fail
      | none => .fail
    | _ => .fail
    else .fail

/-- a nil slice counts as one without elements: cell by cell -/
def wkC : List Nat → List V → List V
  | k :: ks, c :: cs => (match k, c with
    | (k + 1), .nils => .lit (k + 1) []
    | _, c => c) :: wkC ks cs
  | _, cs => cs
def wkV (ks : List Nat) (v : V) : V := match v with
  | .agg cs => .agg (wkC ks cs)
  | .nils => (match ks with
    | (k + 1) :: _ => .lit (k + 1) []
    | _ => .nils)
  | v => v
/-- what an array's cells lead to is frozen, its content laid down -/
def deepAct (v : V) : Act := match v with
  | .sl r g off len => .getO r fun o => match o.es with
    | some es => frzs es fun es' => .getO r fun o' => if o'.gen = o.gen ∧ o'.es.isSome = true ∧ es'.all (isBlank · o.sz) = true then .setO r { o' with es := some es' } (.done (.sl r g off len)) else .fail
    | none => .fail
  | v => .done v

def opAct (E : Env) : AOp → Act
  | .move x => ev x .done
  | .pick c a b => ev c fun | .bool true => ev a .done | .bool false => ev b .done | _ => .fail
  | .new r sz x => ev x fun v => if isBlank v sz && decide (0 < sz) then .getO r fun o => .setO r { gen := o.gen + 1, sz, arr := false, fz := false, es := some [v] } (.done (.ptr r (o.gen + 1) 0 0)) else .fail
  | .build cells parts => evParts parts fun ps => match fillCells cells ps with
    | some cs => .done (.agg cs)
    | none => .fail
  | .buildSlice r sz zero n parts => evElems parts fun ps => match fillElems sz (List.replicate n zero) ps with
    | some es => if isBlank zero sz && decide (0 < sz ∧ n * sz ≤ 16777216) then .getO r fun o => .setO r { gen := o.gen + 1, sz, arr := true, fz := false, es := some es } (.done (.sl r (o.gen + 1) 0 n)) else .fail
    | none => .fail
  | .emptyBuf r sz => if 0 < sz then .getO r fun o => .setO r { gen := o.gen + 1, sz, arr := true, fz := false, es := some [] } (.done (.sl r (o.gen + 1) 0 0)) else .fail
  | .ren r x => ev x fun
    | .sl r1 g off len => if r1 = r then .done (.sl r1 g off len) else .getO r1 fun o => if o.gen = g then
        .getO r fun o' => .setO r ⟨o'.gen + 1, o.sz, o.arr, o.fz, o.es⟩ (.setO r1 ⟨o.gen + 1, o.sz, o.arr, o.fz, none⟩ (.done (.sl r (o'.gen + 1) off len))) else .fail
    | v => .done v
  | .makeSlice r sz bytes zero len cap => ev len fun l => ev cap fun c => match l, c with
    | .int _ n, .int _ m => if 0 ≤ n ∧ n ≤ m ∧ m * bytes ≤ 140737488355328 ∧ isBlank zero sz ∧ 0 < sz ∧ m ≤ 9223372036854775807 then
        .getO r fun o => .setO r { gen := o.gen + 1, sz, arr := true, fz := false, es := some (List.replicate m.toNat zero) } (.done (.sl r (o.gen + 1) 0 n.toNat)) else .fail
    | _, _ => .fail
  | .load agg sz x => ev x fun
    | .ptr r g idx off => .getO r fun o => match o.es with
      | some es => if o.gen = g then match es[idx]? with
          | some e => give (part agg off sz e)
          | none => .fail
        else .fail
      | none => .fail
    | .eptr e off => give (part agg off sz e)
    | _ => .fail
  | .store agg sz x v => ev x fun
    | .ptr r g idx off => .getO r fun o => if o.arr
      then ev v fun v => frz v fun v => putIn agg sz r g idx off v
      else ev v fun v => putIn agg sz r g idx off v
    | _ => .fail
  | .nilCheck x => ev x fun
    | .ptr r g idx off => .done (.ptr r g idx off)
    | .eptr e off => .done (.eptr e off)
    | .fn f caps => .done (.fn f caps)
    | _ => .fail
  | .bin op x y => ev x fun a => ev y fun b => give (binV op a b)
  | .eqB neg x y => ev x fun a => ev y fun b => match a, b with
    | .bool a, .bool b => .done (.bool ((a == b) != neg))
    | _, _ => .fail
  | .eqA neg ks x y => ev x fun a => ev y fun b => match a, b with
    | .agg as, .agg bs => match eqKs ks as bs with
        | some b => .done (.bool (b != neg))
        | none => .fail
    | _, _ => .fail
  | .un op x => ev x fun a => give (unV op a)
  | .convInt k x => ev x fun | .int _ n => .done (.int k (k.wrap n)) | _ => .fail
  | .convIF x => ev x fun | .int _ n => .done (.float (FloatKind.f64.nearest n)) | _ => .fail
  | .convFI k x => ev x fun
    | .float b => match (FloatKind.f64.decode b).toInt .zero with
      | some n => if k.min ≤ n ∧ n ≤ k.max then .done (.int k n) else .fail
      | none => .fail
    | _ => .fail
  | .convStr x => ev x fun | .str s => .done (.str s) | _ => .fail
  | .mkIface t x => ev x fun v => .done (.iface t v)
  | .assert t ok zero x => ev x fun
    | .nili => if ok then .done (.tuple [zero, .bool false]) else .fail
    | .iface t' v => if t' = t then .done (if ok then .tuple [v, .bool true] else v) else if ok then .done (.tuple [zero, .bool false]) else .fail
    | _ => .fail
  | .mkFunc f caps => evs caps fun vs => .done (.fn f vs)
  | .sliceStr x lo hi => ev x fun v => evo lo fun l => evo hi fun h => give (sliceStrV v l h)
  | .slice sz x lo hi mx => ev x fun v => evo lo fun l => evo hi fun h => evo mx fun m => match v with
    | .sl r g off len => .getO r fun o => match o.es with
      | some es => if o.gen = g ∧ o.sz = sz then
          match boundOf 0 l, boundOf len h, m with
          | some l, some h, none => if l ≤ h ∧ off + h ≤ es.length then .done (.sl r g (off + l) (h - l)) else .fail
          | some l, some h', some m => match h, boundOf 0 (some m) with
            | some _, some m => if l ≤ h' ∧ h' ≤ m ∧ off + m ≤ es.length then .done (if m = l then .nils else .any) else .fail
            | _, _ => .fail
          | _, _, _ => .fail
        else .fail
      | none => .fail
    | v => give (sliceV sz v l h m)
  | .fieldAddr off x => ev x fun
    | .ptr r g idx o => .done (.ptr r g idx (o + off))
    | .eptr e o => .done (.eptr e (o + off))
    | _ => .fail
  | .field agg off sz x => ev x fun v => if v.isAgg then give (part agg off sz v) else .fail
  | .indexAddr sz x i => ev x fun v => ev i fun i => match v, i with
    | .sl r g off len, .int _ n => .getO r fun o => if 0 ≤ n ∧ n < len ∧ o.sz = sz ∧ o.gen = g then .done (.ptr r g (off + n.toNat) 0) else .fail
    | .lit sz' xs, .int _ n => if 0 ≤ n ∧ sz' = sz then match xs[n.toNat]? with
        | some e => .done (.eptr e 0)
        | none => .fail
      else .fail
    | _, _ => .fail
  | .indexArr n sz x i => ev x fun v => ev i fun i => match v, i with
    | .ptr r g idx off, .int _ j => if 0 ≤ j ∧ j < n then .done (.ptr r g idx (off + j.toNat * sz)) else .fail
    | .eptr e off, .int _ j => if 0 ≤ j ∧ j < n then .done (.eptr e (off + j.toNat * sz)) else .fail
    | _, _ => .fail
  | .indexStr x i => ev x fun v => ev i fun i => match v, i with
    | .str s, .int _ n => if 0 ≤ n then match s[n.toNat]? with
        | some b => .done (.int .u8 b.toNat)
        | none => .fail
      else .fail
    | _, _ => .fail
  | .indexVal agg n sz x i => ev x fun v => ev i fun i => match i with
    | .int _ j => if 0 ≤ j ∧ j < n ∧ v.isAgg then give (part agg (j.toNat * sz) sz v) else .fail
    | _ => .fail
  | .len x => ev x fun v => give (lenV v)
  | .lenStr x => ev x fun | .str s => .done (.int .i64 s.length) | _ => .fail
  | .min xs => evs xs fun vs => give (foldV min2 vs)
  | .max xs => evs xs fun vs => give (foldV max2 vs)
  | .append r sz lim s x => ev s fun s => ev x fun x => content sz x fun ys => frzs ys fun ys =>
    if ys.all (isBlank · sz) && decide (0 < sz) then match s with
    | .nils => if ys.isEmpty then .done .nils else if ys.length ≤ lim then
        .getO r fun o => .setO r { gen := o.gen + 1, sz, arr := true, fz := false, es := some ys } (.done (.sl r (o.gen + 1) 0 ys.length)) else .fail
    | .lit sz' xs => if ys.isEmpty then .done (.lit sz' xs) else .fail
    | .sl r' g off len => .getO r' fun o => match o.es with
      | some es => if o.gen = g ∧ o.arr = true ∧ o.fz = false ∧ o.sz = sz ∧ off + len ≤ es.length ∧ len + ys.length ≤ lim then
            if off + len + ys.length ≤ es.length then
              .setO r' { o with es := some (overwrite es (off + len) ys) } (.done (.sl r' g off (len + ys.length)))
            else
              .setO r' { o with gen := g + 1, es := some (window es off len ++ ys) } (.done (.sl r' (g + 1) 0 (len + ys.length)))
        else .fail
      | none => .fail
    | _ => .fail
    else .fail
  | .copy sz d s => ev d fun d => ev s fun s => content sz s fun ys => match d with
    | .nils => .done (.int .i64 0)
    | .sl r g off len => .getO r fun o => match o.es with
      | some es =>
        if o.gen = g ∧ o.arr = true ∧ o.fz = false ∧ o.sz = sz ∧ off + len ≤ es.length ∧ (ys.take len).all (isBlank · sz) = true then
          .setO r { o with es := some (overwrite es off (ys.take len)) } (.done (.int .i64 (ys.take len).length)) else .fail
      | none => .fail
    | _ => .fail
  | .clear sz zero x => ev x fun
    | .nils => .done (.tuple [])
    | .sl r g off len => .getO r fun o => match o.es with
      | some es => if o.gen = g ∧ o.arr = true ∧ o.fz = false ∧ o.sz = sz ∧ off + len ≤ es.length ∧ isBlank zero sz then
          .setO r { o with es := some (overwrite es off (List.replicate len zero)) } (.done (.tuple [])) else .fail
      | none => .fail
    | _ => .fail
  | .extract x i => ev x fun
    | .tuple vs => give vs[i]?
    | _ => .fail
  | .call r thaw f args => ev f fun
    | .fn f caps => evs args fun as => doCall E r thaw f (as ++ caps)
    | _ => .fail
  | .buildSliceD i r sz zero n parts => ev (.tmp i) fun | .int _ j => bsAct (r + 16 * j.toNat) sz zero n parts | _ => .fail
  | .appendK r sz lim s x => ev s fun s => ev x fun x => content sz x fun ys => apAct r sz lim s ys
  | .deep x => ev x deepAct
  | .loadW ks agg sz x => ev x fun
    | .ptr r g idx off => .getO r fun o => match o.es with
      | some es => if o.gen = g then match es[idx]? with
          | some e => give ((part agg off sz e).map (wkV ks))
          | none => .fail
        else .fail
      | none => .fail
    | .eptr e off => give ((part agg off sz e).map (wkV ks))
    | _ => .fail
  | .buildSliceK r sz zero n parts => evElemsK parts fun ps => match fillElems sz (List.replicate n zero) ps with
    | some es => if isBlank zero sz && decide (0 < sz ∧ n * sz ≤ 16777216) then .getO r fun o => .setO r { gen := o.gen + 1, sz, arr := true, fz := false, es := some es } (.done (.sl r (o.gen + 1) 0 n)) else .fail
    | none => .fail
  | .bad => .fail
where
  putIn (agg : Bool) (sz r g idx off : Nat) (v : V) : Act :=
    .getO r fun o => match o.es with
      | some es => if o.gen = g ∧ o.fz = false then match es[idx]? with
          | some e => match putPart agg off sz e v with
            | some e' => .setO r { o with es := some (es.set idx e') } (.done (.tuple []))
            | none => .fail
          | none => .fail
        else .fail
      | none => .fail

def operAct (E : Env) (o : AOper) : Act :=
  match o.guard with
  | none => opAct E o.op
  | some (t, want) => .getT t fun
    | .bool b => if b = want then opAct E o.op else .done undefV
    | .tuple [] => .done undefV
    | _ => .fail

/-! ## The run -/

structure St where
  T : Nat → V
  O : Nat → Obj

def upd {α : Type} (f : Nat → α) (t : Nat) (v : α) : Nat → α := fun n => if n = t then v else f n

abbrev Oracle := Nat → List V → Option Res

def Act.run (C : Oracle) : Act → St → Option (V × St)
  | .done v, σ => some (v, σ)
  | .fail, _ => none
  | .getT t k, σ => (k (σ.T t)).run C σ
  | .getO r k, σ => (k (σ.O r)).run C σ
  | .setO r o k, σ => k.run C { σ with O := upd σ.O r o }
  | .call f as k, σ => match C f as with
    | some res => (k res).run C σ
    | none => none

def St.put (σ : St) (dst : Option Nat) (v : V) : St :=
  match dst with
  | some d => { σ with T := upd σ.T d v }
  | none => σ

def runOp (E : Env) (C : Oracle) (o : AOper) (σ : St) : Option St :=
  match (operAct E o).run C σ with
  | some (v, σ') => some (σ'.put o.dst v)
  | none => none

def runOps (E : Env) (C : Oracle) : List AOper → St → Option St
  | [], σ => some σ
  | o :: os, σ => match runOp E C o σ with
    | some σ' => runOps E C os σ'
    | none => none

/-! ### drawn regions: what is read, what is written -/

inductive Loc where
  | t (n : Nat)
  | o (n : Nat)
  deriving DecidableEq

structure Foot where
  reads : List Loc
  writes : List Loc

def Act.foot (C : Oracle) : Act → St → Foot
  | .done _, _ => ⟨[], []⟩
  | .fail, _ => ⟨[], []⟩
  | .getT t k, σ => let f := (k (σ.T t)).foot C σ; ⟨.t t :: f.reads, f.writes⟩
  | .getO r k, σ => let f := (k (σ.O r)).foot C σ; ⟨.o r :: f.reads, f.writes⟩
  | .setO r o k, σ => let f := k.foot C { σ with O := upd σ.O r o }; ⟨f.reads, .o r :: f.writes⟩
  | .call f as k, σ => match C f as with
    | some res => (k res).foot C σ
    | none => ⟨[], []⟩

def operFoot (E : Env) (C : Oracle) (o : AOper) (σ : St) : Foot :=
  let f := (operAct E o).foot C σ
  ⟨f.reads, (match o.dst with | some d => [.t d] | none => []) ++ f.writes⟩

def meets (a b : List Loc) : Bool := a.any b.contains
def Foot.clash (a b : Foot) : Bool := meets a.writes b.writes || meets a.writes b.reads || meets a.reads b.writes

/-- all operations ahead of one, over the edges: 'before' has those of the operations so far -/
def closure (before : List (List Nat)) (pre : List Nat) : List Nat := pre ++ pre.flatMap fun i => before.getD i []

/-- the next operation against all ahead of it that it need not wait for -/
def fits (feet : List Foot) (wait : List Nat) (f : Foot) : Nat → Bool
  | 0 => true
  | i + 1 => (wait.contains i || !(feet.getD i ⟨[], []⟩).clash f) && fits feet wait f i

def runDrawn (E : Env) (C : Oracle) : List AOper → List Foot → List (List Nat) → St → Option St
  | [], _, _, σ => some σ
  | o :: os, feet, before, σ =>
    let f := operFoot E C o σ
    let wait := closure before o.pre
    if fits feet wait f feet.length && o.pre.all (· < feet.length) then
      match runOp E C o σ with
      | some σ' => runDrawn E C os (feet ++ [f]) (before ++ [wait]) σ'
      | none => none
    else none

inductive AExit where
  | normal
  | exit (id : Nat)
  | ret

def evalOpd (σ : St) : AOpd → V
  | .tmp t => σ.T t
  | .const v => v

def execWith (E : Env) (C : Oracle) (rec : ACode → St → Option (AExit × St)) : ACode → St → Option (AExit × St)
  | .skip, σ => some (.normal, σ)
  | .region ops, σ => (runOps E C ops σ).map fun σ => (.normal, σ)
  | .drawn ops, σ => (runDrawn E C ops [] [] σ).map fun σ => (.normal, σ)
  | .seq a b, σ => match rec a σ with
    | some (.normal, σ') => rec b σ'
    | r => r
  | .cond c a b, σ => match evalOpd σ c with
    | .bool true => rec a σ
    | .bool false => rec b σ
    | _ => none
  | .block id b, σ => match rec b σ with
    | some (.exit id', σ') => if id' = id then some (.normal, σ') else some (.exit id', σ')
    | r => r
  | .loop b, σ => match rec b σ with
    | some (.normal, σ') => rec (.loop b) σ'
    | r => r
  | .exit id, σ => some (.exit id, σ)
  | .ret, σ => some (.ret, σ)
  | .scope b, σ => rec b σ
  | .bad, _ => none

def deadObj : Obj := { gen := 0, sz := 0, arr := false, fz := false, es := none }

/-- parameters 'msl', 'mptr' are objects 0, 1, .. of the callee -/
def enter (args : List V) : St :=
  { T := fun t => match args[t]? with
      | some (.msl _ _ off len) => .sl t 0 off len
      | some (.mptr _ _ idx off) => .ptr t 0 idx off
      | some v => v
      | none => undefV
    O := fun r => match args[r]? with
      | some (.msl sz es _ _) => { gen := 0, sz, arr := true, fz := false, es := some es }
      | some (.mptr sz es _ _) => { gen := 0, sz, arr := false, fz := false, es := some es }
      | _ => deadObj }

/-- a cell of a result: what is the callee's own is handed over -/
def exportCell (n : Nat) (σ : St) (c : V) : Option (V × List Nat) :=
  match c with
  | .sl r g off len => match (σ.O r).es with
    | some es => if (σ.O r).gen = g ∧ off + len ≤ es.length ∧ (σ.O r).arr = true ∧ V.arePure (window es off len) = true then
        if r < n then some (.sl r g off len, [r])
        else if (σ.O r).fz then some (.lit (σ.O r).sz (window es off len), []) else some (.own (σ.O r).sz (window es off len), [r])
      else none
    | none => none
  | c => if c.isPure then some (c, []) else none
def exportCells (n : Nat) (σ : St) : List V → Option (List V × List Nat)
  | [] => some ([], [])
  | c :: cs => match exportCell n σ c, exportCells n σ cs with
    | some (c', r), some (cs', rs) => some (c' :: cs', r ++ rs)
    | _, _ => none
def exportV (n : Nat) (σ : St) (v : V) : Option (V × List Nat) :=
  if v.isPure then some (v, []) else
  match v with
  | .agg cs => match exportCells n σ cs with
    | some (cs', rs) => some (.agg cs', rs)
    | none => none
  | .fn f cs => match exportCells n σ cs with
    | some (cs', rs) => if V.arePure cs' then some (.fn f cs', rs) else none
    | none => none
  | v => exportCell n σ v
def exportVs (n : Nat) (σ : St) : List V → Option (List V × List Nat)
  | [] => some ([], [])
  | c :: cs => match exportV n σ c, exportVs n σ cs with
    | some (c', r), some (cs', rs) => some (c' :: cs', r ++ rs)
    | _, _ => none

def resultOf (σ : St) : ARes → Option V
  | .tmp t => some (σ.T t)
  | .cell t agg sz => match σ.T t with
    | .ptr r g idx off => match (σ.O r).es with
      | some es => if (σ.O r).gen = g then match es[idx]? with
          | some e => part agg off sz e
          | none => none
        else none
      | none => none
    | _ => none
def resultsOf (σ : St) : List ARes → Option (List V)
  | [] => some []
  | r :: rs => match resultOf σ r, resultsOf σ rs with
    | some v, some vs => some (v :: vs)
    | _, _ => none

/-- what is left in the parameters that could be written -/
def outsOf (O : Nat → Obj) : Nat → List V → Option (List (Nat × List V))
  | _, [] => some []
  | i, .msl sz .. :: as | i, .mptr sz .. :: as => match (O i).es, outsOf O (i + 1) as with
    | some es, some outs => if (O i).fz = false ∧ (O i).sz = sz ∧ V.arePure es = true then some (((O i).gen, es) :: outs) else none
    | _, _ => none
  | i, _ :: as => outsOf O (i + 1) as

def leave (af : AFunc) (args : List V) (σ : St) : Option Res :=
  match resultsOf σ af.results, outsOf σ.O 0 args with
  | some vs, some outs => match exportVs args.length σ vs with
    | some ([v], rs) => if distinct rs then some ⟨v, outs⟩ else none
    | some (vs, rs) => if distinct rs then some ⟨.tuple vs, outs⟩ else none
    | none => none
  | _, _ => none

def callWith (E : Env) (rec : ACode → St → Option (AExit × St)) : Oracle := fun f args =>
  match E.ext f args with
  | some r => some r
  | none => match E.fn f with
    | some af => if args.length = af.nparams then match rec af.body (enter args) with
        | some (.normal, σ) | some (.ret, σ) => leave af args σ
        | _ => none
      else none
    | none => none

def exec (E : Env) : Nat → ACode → St → Option (AExit × St)
  | 0 => fun _ _ => none
  | n + 1 => execWith E (callWith E (exec E n)) (exec E n)

def call (E : Env) (n : Nat) : Oracle := callWith E (exec E n)

end Go.AM

namespace Go.AM

/-! ## more fuel, the same answer -/

def OLe (C C' : Oracle) : Prop := ∀ f as r, C f as = some r → C' f as = some r

theorem Act.run_mono {C C' : Oracle} (h : OLe C C') : ∀ (a : Act) (σ : St) (r : V × St), a.run C σ = some r → a.run C' σ = some r
  | .done v, σ, r, e => by simpa [Act.run] using e
  | .fail, σ, r, e => by simp [Act.run] at e
  | .getT t k, σ, r, e => by simp only [Act.run] at e ⊢; exact Act.run_mono h _ _ _ e
  | .getO t k, σ, r, e => by simp only [Act.run] at e ⊢; exact Act.run_mono h _ _ _ e
  | .setO t o k, σ, r, e => by simp only [Act.run] at e ⊢; exact Act.run_mono h _ _ _ e
  | .call f as k, σ, r, e => by
    simp only [Act.run] at e ⊢
    split at e
    · rename_i res hres
      rw [h f as res hres]
      exact Act.run_mono h _ _ _ e
    · simp at e

theorem Act.foot_mono {C C' : Oracle} (h : OLe C C') : ∀ (a : Act) (σ : St) (r : V × St), a.run C σ = some r → a.foot C' σ = a.foot C σ
  | .done v, σ, r, e => by simp [Act.foot]
  | .fail, σ, r, e => by simp [Act.run] at e
  | .getT t k, σ, r, e => by simp only [Act.run] at e; simp only [Act.foot]; rw [Act.foot_mono h _ _ _ e]
  | .getO t k, σ, r, e => by simp only [Act.run] at e; simp only [Act.foot]; rw [Act.foot_mono h _ _ _ e]
  | .setO t o k, σ, r, e => by simp only [Act.run] at e; simp only [Act.foot]; rw [Act.foot_mono h _ _ _ e]
  | .call f as k, σ, r, e => by
    simp only [Act.run] at e
    simp only [Act.foot]
    split at e
    · rename_i res hres
      rw [h f as res hres]
      simp only
      exact Act.foot_mono h _ _ _ e
    · simp at e

theorem runOp_mono {E : Env} {C C' : Oracle} (h : OLe C C') {o : AOper} {σ σ' : St} (e : runOp E C o σ = some σ') : runOp E C' o σ = some σ' := by
  unfold runOp at e ⊢
  split at e
  · rename_i v σ1 hr
    rw [Act.run_mono h _ _ _ hr]; exact e
  · simp at e

theorem runOps_mono {E : Env} {C C' : Oracle} (h : OLe C C') : ∀ {os : List AOper} {σ σ' : St}, runOps E C os σ = some σ' → runOps E C' os σ = some σ'
  | [], _, _, e => by simpa [runOps] using e
  | o :: os, _, _, e => by
    simp only [runOps] at e ⊢
    split at e
    · rename_i σ1 h1
      rw [runOp_mono h h1]
      exact runOps_mono h e
    · simp at e

theorem operFoot_mono {E : Env} {C C' : Oracle} (h : OLe C C') {o : AOper} {σ σ' : St} (e : runOp E C o σ = some σ') : operFoot E C' o σ = operFoot E C o σ := by
  unfold runOp at e
  split at e
  · rename_i v σ1 hr
    simp only [operFoot, Act.foot_mono h _ _ _ hr]
  · simp at e

theorem runDrawn_mono {E : Env} {C C' : Oracle} (h : OLe C C') : ∀ {os : List AOper} {feet : List Foot} {before : List (List Nat)} {σ σ' : St}, runDrawn E C os feet before σ = some σ' → runDrawn E C' os feet before σ = some σ'
  | [], _, _, _, _, e => by simpa [runDrawn] using e
  | o :: os, feet, before, σ, _, e => by
    simp only [runDrawn] at e ⊢
    split at e
    · rename_i hc
      split at e
      · rename_i σ1 h1
        rw [operFoot_mono h h1, runOp_mono h h1, if_pos hc]
        exact runDrawn_mono h e
      · simp at e
    · simp at e

def XLe (r r' : ACode → St → Option (AExit × St)) : Prop := ∀ c σ x, r c σ = some x → r' c σ = some x

theorem callWith_mono {E : Env} {r r' : ACode → St → Option (AExit × St)} (h : XLe r r') : OLe (callWith E r) (callWith E r') := by
  intro f as res e
  unfold callWith at e ⊢
  split at e
  · exact e
  · split at e
    · split at e
      · rename_i hl
        rw [if_pos hl]
        split at e
        · rename_i σ hx; rw [h _ _ _ hx]; exact e
        · rename_i σ hx; rw [h _ _ _ hx]; exact e
        · simp at e
      · simp at e
    · simp at e

theorem execWith_mono {E : Env} {C C' : Oracle} (hC : OLe C C') {r r' : ACode → St → Option (AExit × St)} (h : XLe r r') : XLe (execWith E C r) (execWith E C' r') := by
  intro c σ x e
  cases c with
  | skip => simpa [execWith] using e
  | region ops =>
    simp only [execWith, Option.map_eq_some_iff] at e ⊢
    obtain ⟨σ1, h1, h2⟩ := e
    exact ⟨σ1, runOps_mono hC h1, h2⟩
  | drawn ops =>
    simp only [execWith, Option.map_eq_some_iff] at e ⊢
    obtain ⟨σ1, h1, h2⟩ := e
    exact ⟨σ1, runDrawn_mono hC h1, h2⟩
  | seq a b =>
    simp only [execWith] at e ⊢
    split at e
    · rename_i σ1 h1; rw [h _ _ _ h1]; exact h _ _ _ e
    · rename_i hn
      rw [h _ _ _ e]
      rcases x with ⟨ex, σ1⟩
      cases ex with
      | normal => exact absurd e (by simpa using hn σ1)
      | _ => rfl
  | cond c a b =>
    simp only [execWith] at e ⊢
    split at e
    · exact h _ _ _ e
    · exact h _ _ _ e
    · simp at e
  | block id b =>
    simp only [execWith] at e ⊢
    split at e
    · rename_i id' σ1 h1; rw [h _ _ _ h1]; exact e
    · rename_i hn
      rw [h _ _ _ e]
      rcases x with ⟨ex, σ1⟩
      cases ex with
      | exit id' => exact absurd e (by simpa using hn id' σ1)
      | _ => rfl
  | loop b =>
    simp only [execWith] at e ⊢
    split at e
    · rename_i σ1 h1; rw [h _ _ _ h1]; exact h _ _ _ e
    · rename_i hn
      rw [h _ _ _ e]
      rcases x with ⟨ex, σ1⟩
      cases ex with
      | normal => exact absurd e (by simpa using hn σ1)
      | _ => rfl
  | exit id => simpa [execWith] using e
  | ret => simpa [execWith] using e
  | scope b => simp only [execWith] at e ⊢; exact h _ _ _ e
  | bad => simp [execWith] at e

theorem exec_succ {E : Env} : ∀ n, XLe (exec E n) (exec E (n + 1))
  | 0 => by intro c σ x e; simp [exec] at e
  | n + 1 => by
    have ih := exec_succ (E := E) n
    have := execWith_mono (E := E) (callWith_mono (E := E) ih) ih
    intro c σ x e
    simp only [exec] at e ⊢
    exact this _ _ _ e

theorem exec_mono {E : Env} {n m : Nat} (h : n ≤ m) : XLe (exec E n) (exec E m) := by
  induction h with
  | refl => exact fun _ _ _ e => e
  | step _ ih => exact fun c σ x e => exec_succ _ _ _ _ (ih c σ x e)

theorem call_mono {E : Env} {n m : Nat} (h : n ≤ m) : OLe (call E n) (call E m) := callWith_mono (exec_mono h)

/-! ## the rules -/

/-- a call comes to this -/
def Ev (E : Env) (f : Nat) (args : List V) (res : Res) : Prop := ∃ n, call E n f args = some res

def St.setO (σ : St) (r : Nat) (o : Obj) : St := { σ with O := upd σ.O r o }

/-- simp does not look into what this names -/
inductive Tg {α β : Type} (a : α) (b : β) : Type
  | mk

def wpa (E : Env) (a : Act) (σ : St) (Q : V → St → Prop) (_ : Tg σ Q := .mk) : Prop := ∃ n v σ', a.run (call E n) σ = some (v, σ') ∧ Q v σ'
def wpo (E : Env) (os : List AOper) (σ : St) (Q : St → Prop) (_ : Tg os (σ, Q) := .mk) : Prop := ∃ n σ', runOps E (call E n) os σ = some σ' ∧ Q σ'
def wpc (E : Env) (c : ACode) (σ : St) (Q : AExit → St → Prop) (_ : Tg c (σ, Q) := .mk) : Prop := ∃ n e σ', exec E n c σ = some (e, σ') ∧ Q e σ'
/-- with what is read and written -/
def wpf (E : Env) (a : Act) (σ : St) (Q : V → St → List Loc → List Loc → Prop) (_ : Tg σ Q := .mk) : Prop := ∃ n v σ', a.run (call E n) σ = some (v, σ') ∧ Q v σ' (a.foot (call E n) σ).reads (a.foot (call E n) σ).writes
def wpd (E : Env) (feet : List Foot) (before : List (List Nat)) (os : List AOper) (σ : St) (Q : St → Prop) : Prop := ∃ n σ', runDrawn E (call E n) os feet before σ = some σ' ∧ Q σ'

section
variable {E : Env} {σ : St}

theorem wpa_done {v : V} {Q : V → St → Prop} : wpa E (.done v) σ Q = Q v σ := by
  simp only [wpa, Act.run, eq_iff_iff]
  constructor
  · rintro ⟨_, _, _, h, q⟩; injection h with h; injection h with h1 h2; subst h1 h2; exact q
  · exact fun q => ⟨0, _, _, rfl, q⟩
theorem wpa_fail {Q : V → St → Prop} : wpa E .fail σ Q = False := by
  simp [wpa, Act.run]
theorem wpa_getT {t : Nat} {k : V → Act} {Q : V → St → Prop} : wpa E (.getT t k) σ Q = wpa E (k (σ.T t)) σ Q := by
  simp [wpa, Act.run]
theorem wpa_getO {t : Nat} {k : Obj → Act} {Q : V → St → Prop} : wpa E (.getO t k) σ Q = wpa E (k (σ.O t)) σ Q := by
  simp [wpa, Act.run]
theorem wpa_setO {t : Nat} {o : Obj} {k : Act} {Q : V → St → Prop} : wpa E (.setO t o k) σ Q = wpa E k (σ.setO t o) Q := by
  simp [wpa, Act.run, St.setO]
theorem wpa_call {f : Nat} {as : List V} {k : Res → Act} {Q : V → St → Prop} : wpa E (.call f as k) σ Q = ∃ res, Ev E f as res ∧ wpa E (k res) σ Q := by
  simp only [wpa, Act.run, eq_iff_iff]
  constructor
  · rintro ⟨n, v, σ', h, q⟩
    split at h
    · rename_i res hr; exact ⟨res, ⟨n, hr⟩, n, v, σ', h, q⟩
    · simp at h
  · rintro ⟨res, ⟨n, hn⟩, m, v, σ', h, q⟩
    refine ⟨max n m, v, σ', ?_, q⟩
    rw [call_mono (Nat.le_max_left n m) _ _ _ hn]
    exact Act.run_mono (call_mono (Nat.le_max_right n m)) _ _ _ h
theorem wpa_ite {c : Prop} [Decidable c] {a b : Act} {Q : V → St → Prop} : wpa E (if c then a else b) σ Q = if c then wpa E a σ Q else wpa E b σ Q := by
  split <;> rfl
theorem wpa_give {v : Option V} {Q : V → St → Prop} : wpa E (give v) σ Q = match v with | some v => Q v σ | none => False := by
  cases v <;> simp [give, wpa_done, wpa_fail]
theorem wpa_mono {a : Act} {Q Q' : V → St → Prop} (h : wpa E a σ Q) (k : ∀ v σ', Q v σ' → Q' v σ') : wpa E a σ Q' := by
  obtain ⟨n, v, σ', h1, h2⟩ := h
  exact ⟨n, v, σ', h1, k _ _ h2⟩

theorem wpo_nil {Q : St → Prop} : wpo E [] σ Q = Q σ := by simp [wpo, runOps]
theorem wpo_cons {o : AOper} {os : List AOper} {Q : St → Prop} : wpo E (o :: os) σ Q = wpa E (operAct E o) σ fun v σ' => wpo E os (σ'.put o.dst v) Q := by
  simp only [wpo, wpa, runOps, runOp, eq_iff_iff]
  constructor
  · rintro ⟨n, σ2, h, q⟩
    split at h
    · rename_i σ1 h1
      split at h1
      · rename_i v σ0 h0
        injection h1 with h1; subst h1
        exact ⟨n, v, σ0, h0, n, σ2, h, q⟩
      · simp at h1
    · simp at h
  · rintro ⟨n, v, σ0, h0, m, σ2, h, q⟩
    refine ⟨max n m, σ2, ?_, q⟩
    rw [Act.run_mono (call_mono (Nat.le_max_left n m)) _ _ _ h0]
    exact runOps_mono (call_mono (Nat.le_max_right n m)) h
theorem wpo_mono {os : List AOper} {Q Q' : St → Prop} (h : wpo E os σ Q) (k : ∀ σ', Q σ' → Q' σ') : wpo E os σ Q' := by
  obtain ⟨n, σ', h1, h2⟩ := h
  exact ⟨n, σ', h1, k _ h2⟩

theorem wpf_done {v : V} {Q : V → St → List Loc → List Loc → Prop} : wpf E (.done v) σ Q = Q v σ [] [] := by
  simp only [wpf, Act.run, Act.foot, eq_iff_iff]
  constructor
  · rintro ⟨_, _, _, h, q⟩; injection h with h; injection h with h1 h2; subst h1 h2; exact q
  · exact fun q => ⟨0, _, _, rfl, q⟩
theorem wpf_fail {Q : V → St → List Loc → List Loc → Prop} : wpf E .fail σ Q = False := by
  simp [wpf, Act.run]
theorem wpf_getT {t : Nat} {k : V → Act} {Q : V → St → List Loc → List Loc → Prop} : wpf E (.getT t k) σ Q = wpf E (k (σ.T t)) σ fun v σ' r w => Q v σ' (.t t :: r) w := by
  simp [wpf, Act.run, Act.foot]
theorem wpf_getO {t : Nat} {k : Obj → Act} {Q : V → St → List Loc → List Loc → Prop} : wpf E (.getO t k) σ Q = wpf E (k (σ.O t)) σ fun v σ' r w => Q v σ' (.o t :: r) w := by
  simp [wpf, Act.run, Act.foot]
theorem wpf_setO {t : Nat} {o : Obj} {k : Act} {Q : V → St → List Loc → List Loc → Prop} : wpf E (.setO t o k) σ Q = wpf E k (σ.setO t o) fun v σ' r w => Q v σ' r (.o t :: w) := by
  simp [wpf, Act.run, Act.foot, St.setO]
theorem wpf_call {f : Nat} {as : List V} {k : Res → Act} {Q : V → St → List Loc → List Loc → Prop} : wpf E (.call f as k) σ Q = ∃ res, Ev E f as res ∧ wpf E (k res) σ Q := by
  simp only [wpf, eq_iff_iff]
  constructor
  · rintro ⟨n, v, σ', h, q⟩
    simp only [Act.run, Act.foot] at h q
    split at h
    · rename_i res hr
      simp only [hr] at q
      exact ⟨res, ⟨n, hr⟩, n, v, σ', h, q⟩
    · simp at h
  · rintro ⟨res, ⟨n, hn⟩, m, v, σ', h, q⟩
    have e1 := call_mono (E := E) (Nat.le_max_left n m) _ _ _ hn
    have e2 := Act.run_mono (call_mono (E := E) (Nat.le_max_right n m)) _ _ _ h
    have e3 := Act.foot_mono (call_mono (E := E) (Nat.le_max_right n m)) _ _ _ h
    refine ⟨max n m, v, σ', ?_, ?_⟩
    · simp only [Act.run, e1]; exact e2
    · simp only [Act.foot, e1, e3]; exact q
theorem wpf_ite {c : Prop} [Decidable c] {a b : Act} {Q : V → St → List Loc → List Loc → Prop} : wpf E (if c then a else b) σ Q = if c then wpf E a σ Q else wpf E b σ Q := by
  split <;> rfl
theorem wpf_give {v : Option V} {Q : V → St → List Loc → List Loc → Prop} : wpf E (give v) σ Q = match v with | some v => Q v σ [] [] | none => False := by
  cases v <;> simp [give, wpf_done, wpf_fail]

theorem wpd_nil {feet : List Foot} {before : List (List Nat)} {Q : St → Prop} : wpd E feet before [] σ Q = Q σ := by simp [wpd, runDrawn]
theorem wpd_cons {feet : List Foot} {before : List (List Nat)} {o : AOper} {os : List AOper} {Q : St → Prop} :
    wpd E feet before (o :: os) σ Q = wpf E (operAct E o) σ fun v σ' r w =>
      (fits feet (closure before o.pre) ⟨r, (match o.dst with | some d => [.t d] | none => []) ++ w⟩ feet.length && o.pre.all (· < feet.length)) = true ∧
      wpd E (feet ++ [⟨r, (match o.dst with | some d => [.t d] | none => []) ++ w⟩]) (before ++ [closure before o.pre]) os (σ'.put o.dst v) Q := by
  have key : ∀ n, runDrawn E (call E n) (o :: os) feet before σ = if (fits feet (closure before o.pre) (operFoot E (call E n) o σ) feet.length && o.pre.all (· < feet.length)) = true then
      (match runOp E (call E n) o σ with | some σ' => runDrawn E (call E n) os (feet ++ [operFoot E (call E n) o σ]) (before ++ [closure before o.pre]) σ' | none => none) else none := fun n => rfl
  have key2 : ∀ n v σ0, (operAct E o).run (call E n) σ = some (v, σ0) → runOp E (call E n) o σ = some (σ0.put o.dst v) := fun n v σ0 h => by simp only [runOp, h]
  simp only [wpd, wpf, eq_iff_iff]
  constructor
  · rintro ⟨n, σ2, h, q⟩
    rw [key n] at h
    by_cases hc : (fits feet (closure before o.pre) (operFoot E (call E n) o σ) feet.length && o.pre.all (· < feet.length)) = true
    · rw [if_pos hc] at h
      cases h0 : (operAct E o).run (call E n) σ with
      | none => simp [runOp, h0] at h
      | some p =>
        obtain ⟨v, σ0⟩ := p
        rw [key2 n v σ0 h0] at h
        exact ⟨n, v, σ0, h0, hc, n, σ2, h, q⟩
    · rw [if_neg hc] at h; simp at h
  · rintro ⟨n, v, σ0, h0, hc, m, σ2, h, q⟩
    refine ⟨max n m, σ2, ?_, q⟩
    have e3 : operFoot E (call E (max n m)) o σ = operFoot E (call E n) o σ := by
      simp only [operFoot, Act.foot_mono (call_mono (E := E) (Nat.le_max_left n m)) _ _ _ h0]
    have hc' : (fits feet (closure before o.pre) (operFoot E (call E n) o σ) feet.length && o.pre.all (· < feet.length)) = true := hc
    rw [key, e3, if_pos hc', key2 _ v σ0 (Act.run_mono (call_mono (Nat.le_max_left n m)) _ _ _ h0)]
    exact runDrawn_mono (call_mono (Nat.le_max_right n m)) h

/-! ### code -/

/-- what follows code that ends normally -/
def andThen (Q : AExit → St → Prop) (k : St → Prop) (_ : Tg Q k := .mk) : AExit → St → Prop
  | .normal, σ => k σ
  | .exit id, σ => Q (.exit id) σ
  | .ret, σ => Q .ret σ
/-- the end of a block -/
def outOf (id : Nat) (Q : AExit → St → Prop) (_ : Tg id Q := .mk) : AExit → St → Prop
  | .exit id', σ => if id' = id then Q .normal σ else Q (.exit id') σ
  | .normal, σ => Q .normal σ
  | .ret, σ => Q .ret σ

theorem wpc_mono {c : ACode} {Q Q' : AExit → St → Prop} (h : wpc E c σ Q) (k : ∀ e σ', Q e σ' → Q' e σ') : wpc E c σ Q' := by
  obtain ⟨n, e, σ', h1, h2⟩ := h
  exact ⟨n, e, σ', h1, k _ _ h2⟩

theorem wpc_skip {Q : AExit → St → Prop} : wpc E .skip σ Q = Q .normal σ := by
  simp only [wpc, eq_iff_iff]
  constructor
  · rintro ⟨n, e, σ', h, q⟩
    cases n <;> simp [exec, execWith] at h
    obtain ⟨rfl, rfl⟩ := h; exact q
  · exact fun q => ⟨1, _, _, by simp [exec, execWith], q⟩
theorem wpc_exit {id : Nat} {Q : AExit → St → Prop} : wpc E (.exit id) σ Q = Q (.exit id) σ := by
  simp only [wpc, eq_iff_iff]
  constructor
  · rintro ⟨n, e, σ', h, q⟩
    cases n <;> simp [exec, execWith] at h
    obtain ⟨rfl, rfl⟩ := h; exact q
  · exact fun q => ⟨1, _, _, by simp [exec, execWith], q⟩
theorem wpc_ret {Q : AExit → St → Prop} : wpc E .ret σ Q = Q .ret σ := by
  simp only [wpc, eq_iff_iff]
  constructor
  · rintro ⟨n, e, σ', h, q⟩
    cases n <;> simp [exec, execWith] at h
    obtain ⟨rfl, rfl⟩ := h; exact q
  · exact fun q => ⟨1, _, _, by simp [exec, execWith], q⟩
theorem wpc_scope {b : ACode} {Q : AExit → St → Prop} : wpc E (.scope b) σ Q = wpc E b σ Q := by
  simp only [wpc, eq_iff_iff]
  constructor
  · rintro ⟨n, e, σ', h, q⟩
    cases n with
    | zero => simp [exec] at h
    | succ n => simp only [exec, execWith] at h; exact ⟨n, e, σ', h, q⟩
  · rintro ⟨n, e, σ', h, q⟩
    exact ⟨n + 1, e, σ', by simpa only [exec, execWith] using h, q⟩
theorem wpc_region {ops : List AOper} {Q : AExit → St → Prop} : wpc E (.region ops) σ Q = wpo E ops σ (Q .normal) := by
  simp only [wpc, wpo, eq_iff_iff]
  constructor
  · rintro ⟨n, e, σ', h, q⟩
    cases n with
    | zero => simp [exec] at h
    | succ n =>
      simp only [exec, execWith, Option.map_eq_some_iff] at h
      obtain ⟨σ1, h1, h2⟩ := h
      injection h2 with h2 h3
      subst h2 h3
      exact ⟨n, _, h1, q⟩
  · rintro ⟨n, σ', h, q⟩
    exact ⟨n + 1, _, σ', by simp only [exec, execWith, Option.map_eq_some_iff]; exact ⟨σ', h, rfl⟩, q⟩
theorem wpc_drawn {ops : List AOper} {Q : AExit → St → Prop} : wpc E (.drawn ops) σ Q = wpd E [] [] ops σ (Q .normal) := by
  simp only [wpc, wpd, eq_iff_iff]
  constructor
  · rintro ⟨n, e, σ', h, q⟩
    cases n with
    | zero => simp [exec] at h
    | succ n =>
      simp only [exec, execWith, Option.map_eq_some_iff] at h
      obtain ⟨σ1, h1, h2⟩ := h
      injection h2 with h2 h3
      subst h2 h3
      exact ⟨n, _, h1, q⟩
  · rintro ⟨n, σ', h, q⟩
    exact ⟨n + 1, _, σ', by simp only [exec, execWith, Option.map_eq_some_iff]; exact ⟨σ', h, rfl⟩, q⟩
theorem wpc_seq {a b : ACode} {Q : AExit → St → Prop} : wpc E (.seq a b) σ Q = wpc E a σ (andThen Q fun σ' => wpc E b σ' Q) := by
  simp only [wpc, eq_iff_iff]
  constructor
  · rintro ⟨n, e, σ', h, q⟩
    cases n with
    | zero => simp [exec] at h
    | succ n =>
      simp only [exec, execWith] at h
      split at h
      · rename_i σ1 h1
        exact ⟨n, _, _, h1, n, e, σ', h, q⟩
      · rename_i hn
        refine ⟨n, e, σ', h, ?_⟩
        cases e with
        | normal => exact absurd h (by simpa using hn σ')
        | exit id => exact q
        | ret => exact q
  · rintro ⟨n, e, σ1, h, q⟩
    cases e with
    | normal =>
      obtain ⟨m, e, σ', h', q⟩ := q
      refine ⟨max n m + 1, e, σ', ?_, q⟩
      simp only [exec, execWith, exec_mono (Nat.le_max_left n m) _ _ _ h]
      exact exec_mono (Nat.le_max_right n m) _ _ _ h'
    | exit id => exact ⟨n + 1, _, _, by simp only [exec, execWith, h], q⟩
    | ret => exact ⟨n + 1, _, _, by simp only [exec, execWith, h], q⟩
theorem wpc_cond {c : AOpd} {a b : ACode} {Q : AExit → St → Prop} : wpc E (.cond c a b) σ Q = match evalOpd σ c with | .bool true => wpc E a σ Q | .bool false => wpc E b σ Q | _ => False := by
  simp only [wpc, eq_iff_iff]
  constructor
  · rintro ⟨n, e, σ', h, q⟩
    cases n with
    | zero => simp [exec] at h
    | succ n =>
      simp only [exec, execWith] at h
      split at h
      · rename_i he; simp only [he]; exact ⟨n, e, σ', h, q⟩
      · rename_i he; simp only [he]; exact ⟨n, e, σ', h, q⟩
      · simp at h
  · intro h
    split at h
    · rename_i he
      obtain ⟨n, e, σ', h, q⟩ := h
      exact ⟨n + 1, e, σ', by simp only [exec, execWith, he]; exact h, q⟩
    · rename_i he
      obtain ⟨n, e, σ', h, q⟩ := h
      exact ⟨n + 1, e, σ', by simp only [exec, execWith, he]; exact h, q⟩
    · exact h.elim
theorem wpc_block {id : Nat} {b : ACode} {Q : AExit → St → Prop} : wpc E (.block id b) σ Q = wpc E b σ (outOf id Q) := by
  simp only [wpc, eq_iff_iff]
  constructor
  · rintro ⟨n, e, σ', h, q⟩
    cases n with
    | zero => simp [exec] at h
    | succ n =>
      simp only [exec, execWith] at h
      split at h
      · rename_i id' σ1 h1
        refine ⟨n, _, _, h1, ?_⟩
        simp only [outOf]
        split at h
        · rename_i hi
          simp only [Option.some.injEq, Prod.mk.injEq] at h
          obtain ⟨rfl, rfl⟩ := h
          simp only [hi, if_true]; exact q
        · rename_i hi
          simp only [Option.some.injEq, Prod.mk.injEq] at h
          obtain ⟨rfl, rfl⟩ := h
          simp only [hi, if_false]; exact q
      · rename_i hn
        refine ⟨n, e, σ', h, ?_⟩
        cases e with
        | exit id' => exact absurd h (by simpa using hn id' σ')
        | normal => exact q
        | ret => exact q
  · rintro ⟨n, e, σ1, h, q⟩
    cases e with
    | exit id' =>
      simp only [outOf] at q
      by_cases hi : id' = id
      · simp only [hi, if_true] at q
        exact ⟨n + 1, _, _, by simp only [exec, execWith, h, hi, if_true], q⟩
      · simp only [hi, if_false] at q
        exact ⟨n + 1, _, _, by simp only [exec, execWith, h, hi, if_false], q⟩
    | normal => exact ⟨n + 1, _, _, by simp only [exec, execWith, h], q⟩
    | ret => exact ⟨n + 1, _, _, by simp only [exec, execWith, h], q⟩
theorem wpc_loop {b : ACode} {Q : AExit → St → Prop} : wpc E (.loop b) σ Q = wpc E b σ (andThen Q fun σ' => wpc E (.loop b) σ' Q) := by
  simp only [wpc, eq_iff_iff]
  constructor
  · rintro ⟨n, e, σ', h, q⟩
    cases n with
    | zero => simp [exec] at h
    | succ n =>
      simp only [exec, execWith] at h
      split at h
      · rename_i σ1 h1
        exact ⟨n, _, _, h1, n, e, σ', h, q⟩
      · rename_i hn
        refine ⟨n, e, σ', h, ?_⟩
        cases e with
        | normal => exact absurd h (by simpa using hn σ')
        | exit id => exact q
        | ret => exact q
  · rintro ⟨n, e, σ1, h, q⟩
    cases e with
    | normal =>
      obtain ⟨m, e, σ', h', q⟩ := q
      refine ⟨max n m + 1, e, σ', ?_, q⟩
      simp only [exec, execWith, exec_mono (Nat.le_max_left n m) _ _ _ h]
      exact exec_mono (Nat.le_max_right n m) _ _ _ h'
    | exit id => exact ⟨n + 1, _, _, by simp only [exec, execWith, h], q⟩
    | ret => exact ⟨n + 1, _, _, by simp only [exec, execWith, h], q⟩

/-- a loop, by what holds ahead of each round, and a number that gets less -/
theorem wpc_loop_of {b : ACode} {Q : AExit → St → Prop} (I : Nat → St → Prop) (hI : ∀ k σ, I k σ → wpc E b σ (andThen Q fun σ' => ∃ j, j < k ∧ I j σ')) :
    ∀ (k : Nat) (σ : St), I k σ → wpc E (.loop b) σ Q := by
  intro k
  induction k using Nat.strongRecOn with
  | _ k ih =>
    intro σ h
    rw [wpc_loop]
    refine wpc_mono (hI k σ h) fun e σ' he => ?_
    cases e with
    | normal => obtain ⟨j, hj, h'⟩ := he; exact ih j hj σ' h'
    | exit id => exact he
    | ret => exact he

/-- how a function ends -/
def fin (rs : List ARes) (args : List V) (res : Res) : AExit → St → Prop
  | .exit _, _ => False
  | .normal, σ => leave ⟨0, 0, [], rs, .skip⟩ args σ = some res
  | .ret, σ => leave ⟨0, 0, [], rs, .skip⟩ args σ = some res

theorem Ev.of_wpc {f np nt : Nat} {ms : List (Option Nat)} {rs : List ARes} {b : ACode} {args : List V} {res : Res} (hf : E.fn f = some ⟨np, nt, ms, rs, b⟩) (hx : E.ext f args = none) (hl : args.length = np)
    (h : wpc E b (enter args) (fin rs args res)) : Ev E f args res := by
  obtain ⟨n, e, σ', h1, h2⟩ := h
  refine ⟨n, ?_⟩
  unfold call callWith
  rw [hx]; simp only [hf, hl, if_true, h1]
  cases e with
  | normal => exact h2
  | ret => exact h2
  | exit id => exact h2.elim

/-- how a function ends, where more than one result will do -/
def finE (rs : List ARes) (args : List V) (P : Res → Prop) (e : AExit) (σ : St) : Prop := ∃ res, P res ∧ fin rs args res e σ

theorem Ev.of_wpc_ex {f np nt : Nat} {ms : List (Option Nat)} {rs : List ARes} {b : ACode} {args : List V} {P : Res → Prop} (hf : E.fn f = some ⟨np, nt, ms, rs, b⟩) (hx : E.ext f args = none) (hl : args.length = np)
    (h : wpc E b (enter args) (finE rs args P)) : ∃ res, P res ∧ Ev E f args res := by
  obtain ⟨n, e, σ', h1, res, hp, h2⟩ := h
  exact ⟨res, hp, Ev.of_wpc hf hx hl ⟨n, e, σ', h1, h2⟩⟩

theorem Ev.ext {f : Nat} {args : List V} {res : Res} (h : E.ext f args = some res) : Ev E f args res := ⟨0, by simp [call, callWith, h]⟩

end
end Go.AM

namespace Go.AM

section
variable {E : Env} {σ : St}

/-- a region's operations, with all that is read and written -/
def wpx0 (E : Env) : List AOper → St → (List Foot → St → Prop) → Prop
  | [], σ, Q => Q [] σ
  | o :: os, σ, Q => wpf E (operAct E o) σ fun v σ' r w => wpx0 E os (σ'.put o.dst v) fun fs σ'' => Q (⟨r, (match o.dst with | some d => [.t d] | none => []) ++ w⟩ :: fs) σ''
def wpx (E : Env) (os : List AOper) (σ : St) (Q : List Foot → St → Prop) (_ : Tg os (σ, Q) := .mk) : Prop := wpx0 E os σ Q
def dstLoc (d : Option Nat) (w : List Loc) : List Loc := match d with | some d => .t d :: w | none => w
theorem wpx_nil {Q : List Foot → St → Prop} : wpx E [] σ Q = Q [] σ := rfl
theorem wpx_cons {o : AOper} {os : List AOper} {Q : List Foot → St → Prop} : wpx E (o :: os) σ Q = wpf E (operAct E o) σ fun v σ' r w => wpx E os (σ'.put o.dst v) fun fs σ'' => Q (⟨r, dstLoc o.dst w⟩ :: fs) σ'' := by
  have : ∀ w, (match o.dst with | some d => [Loc.t d] | none => []) ++ w = dstLoc o.dst w := by intro w; cases o.dst <;> rfl
  have h2 : (fun (v : V) (σ' : St) (r w : List Loc) => wpx0 E os (σ'.put o.dst v) fun fs σ'' => Q (⟨r, (match o.dst with | some d => [.t d] | none => []) ++ w⟩ :: fs) σ'') = (fun v σ' r w => wpx0 E os (σ'.put o.dst v) fun fs σ'' => Q (⟨r, dstLoc o.dst w⟩ :: fs) σ'') := by
    funext v σ' r w; rw [this]
  show wpf E (operAct E o) σ (fun (v : V) (σ' : St) (r w : List Loc) => wpx0 E os (σ'.put o.dst v) fun fs σ'' => Q (⟨r, (match o.dst with | some d => [.t d] | none => []) ++ w⟩ :: fs) σ'') = _
  rw [h2]; rfl

def chk : List (List Nat) → List (List Nat) → List Foot → List Foot → Bool
  | [], _, _, _ => true
  | p :: ps, before, feet, f :: rest => (fits feet (closure before p) f feet.length && p.all (· < feet.length)) && chk ps (before ++ [closure before p]) (feet ++ [f]) rest
  | _ :: _, _, _, [] => false

theorem wpf_mono {a : Act} {Q Q' : V → St → List Loc → List Loc → Prop} (h : wpf E a σ Q) (k : ∀ v σ' r w, Q v σ' r w → Q' v σ' r w) : wpf E a σ Q' := by
  obtain ⟨n, v, σ', h1, h2⟩ := h
  exact ⟨n, v, σ', h1, k _ _ _ _ h2⟩

theorem wpx_mono : ∀ {os : List AOper} {σ : St} {Q Q' : List Foot → St → Prop}, wpx0 E os σ Q → (∀ fs σ', Q fs σ' → Q' fs σ') → wpx0 E os σ Q'
  | [], _, _, _, h, k => k _ _ h
  | o :: os, _, _, _, h, k => by
    simp only [wpx0] at h ⊢
    exact wpf_mono h fun v σ' r w h' => wpx_mono h' fun fs σ'' h'' => k _ _ h''

theorem wpd_of {Q : St → Prop} : ∀ {os : List AOper} {σ : St} {feet : List Foot} {before : List (List Nat)},
    wpx0 E os σ (fun fs σ' => chk (os.map (·.pre)) before feet fs = true ∧ Q σ') → wpd E feet before os σ Q
  | [], _, _, _, h => by rw [wpd_nil]; exact h.2
  | o :: os, σ, feet, before, h => by
    rw [wpd_cons]
    simp only [wpx0, List.map_cons, chk, Bool.and_eq_true] at h
    refine wpf_mono h fun v σ' r w h' => ?_
    have h1 : wpx0 E os (σ'.put o.dst v) (fun fs σ'' => (fits feet (closure before o.pre) ⟨r, (match o.dst with | some d => [.t d] | none => []) ++ w⟩ feet.length && o.pre.all (· < feet.length)) = true) :=
      wpx_mono h' fun fs σ'' hh => by
        have := hh.1
        simp only [List.map_cons, chk, Bool.and_eq_true] at this
        simp only [Bool.and_eq_true]; exact this.1
    have const : ∀ {os : List AOper} {σ : St} {p : Prop}, wpx0 E os σ (fun _ _ => p) → p := by
      intro os
      induction os with
      | nil => intro σ p h; exact h
      | cons o os ih =>
        intro σ p h
        simp only [wpx0] at h
        obtain ⟨n, v, σ', _, h2⟩ := h
        exact ih h2
    refine ⟨const h1, wpd_of (wpx_mono h' fun fs σ'' hh => ⟨by have := hh.1; simp only [List.map_cons, chk, Bool.and_eq_true] at this; exact this.2, hh.2⟩)⟩

theorem wpc_drawn_of {ops : List AOper} {Q : AExit → St → Prop} (h : wpx E ops σ (fun fs σ' => chk (ops.map (·.pre)) [] [] fs = true ∧ Q .normal σ')) : wpc E (.drawn ops) σ Q := by
  rw [wpc_drawn]; exact wpd_of h

/-! ### reading the state -/

theorem upd_apply {α : Type} {f : Nat → α} {t n : Nat} {v : α} : upd f t v n = if n = t then v else f n := rfl
theorem put_T {d t : Nat} {v : V} : (σ.put (some d) v).T t = if t = d then v else σ.T t := rfl
theorem put_O {d : Option Nat} {r : Nat} {v : V} : (σ.put d v).O r = σ.O r := by cases d <;> rfl
theorem put_none {v : V} : σ.put none v = σ := rfl
theorem setO_T {r t : Nat} {o : Obj} : (σ.setO r o).T t = σ.T t := rfl
theorem setO_O {r r' : Nat} {o : Obj} : (σ.setO r o).O r' = if r' = r then o else σ.O r' := rfl
theorem put_Of {d : Option Nat} {v : V} : (σ.put d v).O = σ.O := by cases d <;> rfl
theorem evalOpd_tmp {t : Nat} : evalOpd σ (.tmp t) = σ.T t := rfl
theorem evalOpd_const {v : V} : evalOpd σ (.const v) = v := rfl

theorem isPure_of_mem : ∀ {cs : List V}, V.arePure cs = true → ∀ {x : V}, x ∈ cs → x.isPure = true
  | [], _, x, h => by simp at h
  | c :: cs, h, x, hx => by
    simp only [V.arePure, Bool.and_eq_true] at h
    rcases List.mem_cons.1 hx with rfl | hx
    · exact h.1
    · exact isPure_of_mem h.2 hx
theorem arePure_of : ∀ {cs : List V}, (∀ x ∈ cs, V.isPure x = true) → V.arePure cs = true
  | [], _ => rfl
  | c :: cs, h => by
    simp only [V.arePure, Bool.and_eq_true]
    exact ⟨h c (by simp), arePure_of fun x hx => h x (by simp [hx])⟩

theorem enter_pure {args : List V} (h : V.arePure args = true) : enter args = ⟨fun t => args.getD t undefV, fun _ => deadObj⟩ := by
  have key : ∀ (t : Nat) (a : V), args[t]? = some a → a.isPure = true := fun t a ht => isPure_of_mem h (List.mem_of_getElem? ht)
  unfold enter
  congr 1
  · funext t
    cases ha : args[t]? with
    | none => simp [List.getD, ha]
    | some a => have := key t a ha; simp only [List.getD, ha, Option.getD_some]; cases a <;> simp_all [V.isPure]
  · funext t
    cases ha : args[t]? with
    | none => rfl
    | some a => have := key t a ha; cases a <;> simp_all [V.isPure]

/-! ### calls -/

theorem snap_pure {v : V} {k : V → List Nat → Act} (h : v.isPure = true) : snap v k = k v [] := by
  simp [snap, snapV, h]

theorem snapV_pure {d : Nat} {v : V} {k : V → List Nat → Act} (h : v.isPure = true) : snapV d v k = k v [] := by
  cases d <;> simp [snapV, h]

theorem prepare_pure {r0 : Nat} : ∀ {args : List V} {i : Nat} {k : List V → List Nat → List WRef → Act}, V.arePure args = true → prepare r0 args [] i k = k args [] []
  | [], _, _, _ => rfl
  | v :: vs, i, k, h => by
    simp only [V.arePure, Bool.and_eq_true] at h
    simp only [prepare, snap_pure h.1]
    rw [prepare_pure h.2]; rfl

theorem doCall_pure {f r : Nat} {thaw : Bool} {af : AFunc} {args : List V} (hf : E.fn f = some af) (hm : af.modes = []) (hp : V.arePure args = true) :
    doCall E r thaw f args = .call f args fun res => putOuts [] res.outs fun gs => importRes thaw r gs res.val .done := by
  simp only [doCall, hf, hm, prepare_pure hp, apart, List.map_nil, List.all_nil, distinct, Bool.and_self, if_true, freezeAll]
  congr 1; funext res; split <;> rfl
theorem doCall_ext {f r : Nat} {thaw : Bool} {args : List V} (hf : E.fn f = none) (hp : V.arePure args = true) :
    doCall E r thaw f args = .call f args fun res => putOuts [] res.outs fun gs => importRes thaw r gs res.val .done := by
  simp only [doCall, hf, prepare_pure hp, apart, List.map_nil, List.all_nil, distinct, Bool.and_self, if_true, freezeAll]
  congr 1; funext res; split <;> rfl

theorem wpa_pure {f r : Nat} {thaw : Bool} {af : AFunc} {args : List V} {v : V} {Q : V → St → Prop} (hf : E.fn f = some af) (hm : af.modes = []) (hp : V.arePure args = true) (he : Ev E f args ⟨v, []⟩)
    (h : wpa E (importRes thaw r [] v .done) σ Q) : wpa E (doCall E r thaw f args) σ Q := by
  rw [doCall_pure hf hm hp, wpa_call]; exact ⟨_, he, h⟩
theorem wpf_pure {f r : Nat} {thaw : Bool} {af : AFunc} {args : List V} {v : V} {Q : V → St → List Loc → List Loc → Prop} (hf : E.fn f = some af) (hm : af.modes = []) (hp : V.arePure args = true) (he : Ev E f args ⟨v, []⟩)
    (h : wpf E (importRes thaw r [] v .done) σ Q) : wpf E (doCall E r thaw f args) σ Q := by
  rw [doCall_pure hf hm hp, wpf_call]; exact ⟨_, he, h⟩
theorem wpa_ext {f r : Nat} {thaw : Bool} {args : List V} {v : V} {Q : V → St → Prop} (hf : E.fn f = none) (hp : V.arePure args = true) (he : Ev E f args ⟨v, []⟩)
    (h : wpa E (importRes thaw r [] v .done) σ Q) : wpa E (doCall E r thaw f args) σ Q := by
  rw [doCall_ext hf hp, wpa_call]; exact ⟨_, he, h⟩
theorem wpf_ext {f r : Nat} {thaw : Bool} {args : List V} {v : V} {Q : V → St → List Loc → List Loc → Prop} (hf : E.fn f = none) (hp : V.arePure args = true) (he : Ev E f args ⟨v, []⟩)
    (h : wpf E (importRes thaw r [] v .done) σ Q) : wpf E (doCall E r thaw f args) σ Q := by
  rw [doCall_ext hf hp, wpf_call]; exact ⟨_, he, h⟩

/-- a result that leads to nothing new -/
theorem importRes_pure {thaw : Bool} {r : Nat} {gs : List (Nat × Nat × Nat)} {v : V} {k : V → Act} (h : v.isPure = true) : importRes thaw r gs v k = k v := by
  simp [importRes, h]

end

/-! ### functions that are answered by themselves -/
/-- slices.Clone -/
def cloneV (sz lim : Nat) : List V → Option Res
  | [.nils] => some ⟨.own sz [], []⟩
  | [.lit sz' xs] => if sz' = sz ∧ xs.length ≤ lim then some ⟨.own sz xs, []⟩ else none
  | _ => none
/-- math.sqrt -/
def sqrtV : List V → Option Res
  | [.float b] => match FloatKind.f64.format.sqrt b with
    | some r => some ⟨.float r, []⟩
    | none => none
  | _ => none

theorem frz_pure {v : V} {k : V → Act} (h : v.isPure = true) : frz v k = k v := by
  cases v <;> simp_all [frz]
theorem outsOf_pure {O : Nat → Obj} : ∀ {args : List V} {i : Nat}, V.arePure args = true → outsOf O i args = some []
  | [], _, _ => rfl
  | a :: as, i, h => by
    simp only [V.arePure, Bool.and_eq_true] at h
    have := outsOf_pure (O := O) (i := i + 1) h.2
    cases a <;> simp_all [outsOf, V.isPure]
theorem exportV_pure {n : Nat} {σ : St} {v : V} (h : v.isPure = true) : exportV n σ v = some (v, []) := by
  simp [exportV, h]
theorem part_cell {sz : Nat} {v : V} (h : v.isCell = true) : part false 0 sz v = some v := by
  cases v <;> simp_all [part, V.isCell]

/-! ### slices that came in -/

/-- a slice of so many cells an element that holds this -/
def IsSl (sz : Nat) (xs : List V) (v : V) : Prop := v = .lit sz xs ∨ v = .nils ∧ xs = []

theorem IsSl.pure {sz : Nat} {xs : List V} {v : V} (h : IsSl sz xs v) : v.isPure = true := by
  rcases h with rfl | ⟨rfl, _⟩ <;> rfl
theorem IsSl.len {sz : Nat} {xs : List V} {v : V} (h : IsSl sz xs v) : lenV v = some (.int .i64 xs.length) := by
  rcases h with rfl | ⟨rfl, rfl⟩ <;> rfl
theorem IsSl.lit {sz : Nat} {xs : List V} : IsSl sz xs (.lit sz xs) := .inl rfl
theorem IsSl.isCell {sz : Nat} {xs : List V} {v : V} (h : IsSl sz xs v) : v.isCell = true := by
  rcases h with rfl | ⟨rfl, _⟩ <;> rfl

/-- the address of an element -/
def idxAct (sz : Nat) (v i : V) : Act :=
  match v, i with
  | .sl r g off len, .int _ n => .getO r fun o => if 0 ≤ n ∧ n < len ∧ o.sz = sz ∧ o.gen = g then .done (.ptr r g (off + n.toNat) 0) else .fail
  | .lit sz' xs, .int _ n => if 0 ≤ n ∧ sz' = sz then match xs[n.toNat]? with
      | some e => .done (.eptr e 0)
      | none => .fail
    else .fail
  | _, _ => .fail
theorem aop_indexAddr {E : Env} {sz : Nat} {x i : AOpd} : opAct E (.indexAddr sz x i) = ev x fun v => ev i fun i => idxAct sz v i := rfl
theorem idx_sl {sz : Nat} {xs : List V} {v : V} (h : IsSl sz xs v) {K : IntKind} {n : Int} : idxAct sz v (.int K n) = if 0 ≤ n then (match xs[n.toNat]? with
    | some e => .done (.eptr e 0)
    | none => .fail) else .fail := by
  rcases h with rfl | ⟨rfl, rfl⟩
  · simp [idxAct]
  · simp [idxAct]
theorem len_sl {sz : Nat} {xs : List V} {v : V} (h : IsSl sz xs v) : lenV v = some (.int .i64 xs.length) := h.len
theorem content_sl {sz : Nat} {xs : List V} {v : V} (h : IsSl sz xs v) {k : List V → Act} : content sz v k = k xs := by
  rcases h with rfl | ⟨rfl, rfl⟩ <;> simp [content]

/-- a part of a slice -/
def slcAct (sz : Nat) (v : V) (l h m : Option V) : Act :=
  match v with
  | .sl r g off len => .getO r fun o => match o.es with
    | some es => if o.gen = g ∧ o.sz = sz then
        match boundOf 0 l, boundOf len h, m with
        | some l, some h, none => if l ≤ h ∧ off + h ≤ es.length then .done (.sl r g (off + l) (h - l)) else .fail
        | some l, some h', some m => match h, boundOf 0 (some m) with
          | some _, some m => if l ≤ h' ∧ h' ≤ m ∧ off + m ≤ es.length then .done (if m = l then .nils else .any) else .fail
          | _, _ => .fail
        | _, _, _ => .fail
      else .fail
    | none => .fail
  | v => give (sliceV sz v l h m)
theorem aop_slice {E : Env} {sz : Nat} {x : AOpd} {lo hi mx : Option AOpd} : opAct E (.slice sz x lo hi mx) = ev x fun v => evo lo fun l => evo hi fun h => evo mx fun m => slcAct sz v l h m := rfl

/-- what is appended to a slice -/
def appAct (r sz lim : Nat) (s : V) (ys : List V) : Act :=
  if ys.all (isBlank · sz) && decide (0 < sz) then match s with
    | .nils => if ys.isEmpty then .done .nils else if ys.length ≤ lim then
        .getO r fun o => .setO r { gen := o.gen + 1, sz, arr := true, fz := false, es := some ys } (.done (.sl r (o.gen + 1) 0 ys.length)) else .fail
    | .lit sz' xs => if ys.isEmpty then .done (.lit sz' xs) else .fail
    | .sl r' g off len => .getO r' fun o => match o.es with
      | some es => if o.gen = g ∧ o.arr = true ∧ o.fz = false ∧ o.sz = sz ∧ off + len ≤ es.length ∧ len + ys.length ≤ lim then
            if off + len + ys.length ≤ es.length then
              .setO r' { o with es := some (overwrite es (off + len) ys) } (.done (.sl r' g off (len + ys.length)))
            else
              .setO r' { o with gen := g + 1, es := some (window es off len ++ ys) } (.done (.sl r' (g + 1) 0 (len + ys.length)))
        else .fail
      | none => .fail
    | _ => .fail
    else .fail
theorem aop_append {E : Env} {r sz lim : Nat} {s x : AOpd} : opAct E (.append r sz lim s x) = ev s fun s => ev x fun x => content sz x fun ys => frzs ys fun ys => appAct r sz lim s ys := rfl

theorem frzs_pure {ys : List V} {k : List V → Act} (h : V.arePure ys = true) : frzs ys k = k ys := by simp [frzs, h]
theorem app_sl {r sz lim r' g off len : Nat} {ys : List V} (h : ys.all (isBlank · sz) = true) (h0 : 0 < sz) : appAct r sz lim (.sl r' g off len) ys = .getO r' fun o => match o.es with
      | some es => if o.gen = g ∧ o.arr = true ∧ o.fz = false ∧ o.sz = sz ∧ off + len ≤ es.length ∧ len + ys.length ≤ lim then
            if off + len + ys.length ≤ es.length then
              .setO r' { o with es := some (overwrite es (off + len) ys) } (.done (.sl r' g off (len + ys.length)))
            else
              .setO r' { o with gen := g + 1, es := some (window es off len ++ ys) } (.done (.sl r' (g + 1) 0 (len + ys.length)))
        else .fail
      | none => .fail := by
  simp only [appAct]
  rw [h]; simp [h0]
theorem app_nils {r sz lim : Nat} {ys : List V} (h : ys.all (isBlank · sz) = true) (h0 : 0 < sz) : appAct r sz lim .nils ys = if ys.isEmpty then .done .nils else if ys.length ≤ lim then
        .getO r fun o => .setO r { gen := o.gen + 1, sz, arr := true, fz := false, es := some ys } (.done (.sl r (o.gen + 1) 0 ys.length)) else .fail := by
  simp only [appAct]
  rw [h]; simp [h0]
theorem window_map {α : Type} (f : α → V) (l : List α) (a b : Nat) : AM.window (l.map f) a b = ((l.drop a).take b).map f := by
  simp [AM.window, List.map_take, List.map_drop]
theorem window_all {xs : List V} {n : Nat} (h : n = xs.length) : AM.window xs 0 n = xs := by
  subst h; simp [AM.window]

/-! ### the first place -/
def firstIdx {α : Type} (p : α → Bool) (xs : List α) : Int := match xs.findIdx? p with
  | some i => i
  | none => -1
theorem firstIdx_found {α : Type} {p : α → Bool} {xs : List α} {i : Nat} {x : α} (h : ∀ j y, j < i → xs[j]? = some y → p y = false) (hx : xs[i]? = some x) (hp : p x = true) : firstIdx p xs = i := by
  have : xs.findIdx? p = some i := by
    rw [List.findIdx?_eq_some_iff_getElem]
    obtain ⟨hl, hv⟩ := List.getElem?_eq_some_iff.1 hx
    refine ⟨hl, by rw [hv]; exact hp, fun j hj => ?_⟩
    have := h j _ hj (List.getElem?_eq_getElem (by omega))
    simp [this]
  simp [firstIdx, this]
theorem firstIdx_none {α : Type} {p : α → Bool} {xs : List α} (h : ∀ (j : Nat) (y : α), xs[j]? = some y → p y = false) : firstIdx p xs = -1 := by
  have : xs.findIdx? p = none := by
    rw [List.findIdx?_eq_none_iff]
    intro x hx
    obtain ⟨j, hj⟩ := List.mem_iff_getElem?.1 hx
    exact h j x hj
  simp [firstIdx, this]

theorem int_beq (a b : Int) : (a == b) = decide (a = b) := by
  by_cases h : a = b
  · simp [h]
  · simp [h]
theorem int_bne (a b : Int) : (a != b) = !decide (a = b) := by simp [bne, int_beq]
theorem wrap64 {n : Int} (h0 : -9223372036854775808 ≤ n) (h1 : n ≤ 9223372036854775807) : IntKind.i64.wrap n = n := by
  simp [IntKind.wrap, IntKind.bits, IntKind.signed]
  omega

/-! ### the stepping rules -/
attribute [go_sem]
  wpc_seq wpc_region wpc_skip wpc_exit wpc_ret wpc_scope wpc_block wpc_cond
  wpo_cons wpo_nil wpx_cons wpx_nil operAct aop_indexAddr aop_slice aop_append
  opAct.putIn wpa_getT wpa_getO wpa_setO wpa_done wpa_fail wpa_give wpa_ite
  wpf_getT wpf_getO wpf_setO wpf_done wpf_fail wpf_give wpf_ite isBlank
  V.lies V.isPure V.arePure V.isScalar V.areScalar frz_pure outsOf_pure exportV_pure
  importRes_pure part_cell put_T put_O setO_T setO_O put_none dstLoc
  deadObj andThen outOf evalOpd_tmp evalOpd_const boolV undefV Res.mk.injEq
  V.int.injEq V.tuple.injEq List.cons.injEq V.bool.injEq V.str.injEq V.agg.injEq List.getD_cons_zero List.getD_cons_succ
  List.getD_nil List.length_cons List.length_nil List.getElem?_cons_zero List.getElem?_cons_succ List.set_cons_zero List.set_cons_succ List.take_succ_cons
  List.take_zero List.drop_succ_cons List.drop_zero List.take_nil List.drop_nil List.cons_append List.nil_append List.append_nil
  Nat.zero_add Nat.add_zero BEq.rfl Bool.true_or Bool.or_true Bool.false_or Bool.or_false Bool.and_true
  Bool.true_and Bool.and_false Bool.false_and Bool.and_self Bool.or_self Bool.false_eq_true Bool.true_eq_false Bool.not_true
  Bool.not_false Nat.lt_add_one Nat.le_refl decide_true decide_false decide_eq_true_eq if_true if_false
  true_and and_true and_self false_and and_false Nat.sub_zero Option.some.injEq Nat.zero_lt_one
  Nat.lt_irrefl ne_eq not_true_eq_false not_false_eq_true V.cells.eq_1 V.cells.eq_2 V.isAgg.eq_1 V.isAgg.eq_2
  V.isCell.eq_1 V.isCell.eq_2 V.isCell.eq_3 V.isCell.eq_4 V.isCell.eq_5 V.isCell.eq_6 V.isCell.eq_7 V.isTuple.eq_1
  V.isTuple.eq_2 AM.part.eq_1 AM.part.eq_2 AM.part.eq_3 AM.part.eq_4 AM.putPart.eq_1 AM.putPart.eq_2 AM.putPart.eq_3
  AM.putPart.eq_4 lenV.eq_1 lenV.eq_2 lenV.eq_3 lenV.eq_4 boundOf.eq_1 boundOf.eq_2 boundOf.eq_3
  sliceStrV.eq_1 sliceStrV.eq_2 content.eq_1 content.eq_2 content.eq_3 content.eq_4 content.eq_5 fillCells.eq_1
  fillCells.eq_2 fillElems.eq_1 fillElems.eq_2 frz.eq_1 frz.eq_2 frzCell.eq_1 frzCell.eq_2 frzCell.eq_3
  frzCell.eq_4 frzCell.eq_5 frzCell.eq_6 frzCells.eq_1 frzCells.eq_2 frzs.eq_1 frzs.go.eq_1 frzs.go.eq_2
  importRes.eq_1 importRes.eq_2 importV.eq_1 importV.eq_2 importVs.eq_1 importVs.eq_2 importCell.eq_1 importCell.eq_2
  importCell.eq_3 importCells.eq_1 importCells.eq_2 exportCell.eq_1 exportCell.eq_2 exportCells.eq_1 exportCells.eq_2 exportV.eq_1
  exportV.eq_2 exportV.eq_3 exportVs.eq_1 exportVs.eq_2 resultOf.eq_1 resultOf.eq_2 resultsOf.eq_1 resultsOf.eq_2
  outsOf.eq_1 outsOf.eq_2 outsOf.eq_3 outsOf.eq_4 binV.eq_1 binV.eq_2 binV.eq_3 binV.eq_4
  binV.eq_5 binV.eq_6 binV.eq_7 binV.eq_8 binV.eq_9 binV.eq_10 binV.eq_11 binV.eq_12
  binV.eq_13 binV.eq_14 binV.eq_15 binV.eq_16 binV.eq_17 binV.eq_18 binV.eq_19 binV.eq_20
  binV.eq_21 cmpInt.eq_1 cmpInt.eq_2 cmpInt.eq_3 cmpInt.eq_4 cmpInt.eq_5 cmpInt.eq_6 cmpInt.eq_7
  unV.eq_1 unV.eq_2 unV.eq_3 unV.eq_4 min2.eq_1 min2.eq_2 max2.eq_1 max2.eq_2
  foldV.eq_1 foldV.eq_2 foldV1.eq_1 foldV1.eq_2 eqK.eq_1 eqK.eq_2 eqK.eq_3 eqK.eq_4
  eqKs.eq_1 eqKs.eq_2 eqKs.eq_3 evParts.eq_1 evParts.eq_2 evElems.eq_1 evElems.eq_2 ev.eq_1
  ev.eq_2 evs.eq_1 evs.eq_2 evo.eq_1 evo.eq_2 idxAct.eq_1 idxAct.eq_2 idxAct.eq_3
  give.eq_1 give.eq_2 leave.eq_1 distinct.eq_1 distinct.eq_2 fin.eq_1 fin.eq_2 fin.eq_3
  opAct.eq_1 opAct.eq_2 opAct.eq_3 opAct.eq_4 opAct.eq_5 opAct.eq_6 opAct.eq_7 opAct.eq_8
  opAct.eq_9 opAct.eq_10 opAct.eq_11 opAct.eq_12 opAct.eq_13 opAct.eq_14 opAct.eq_15 opAct.eq_16
  opAct.eq_17 opAct.eq_18 opAct.eq_19 opAct.eq_20 opAct.eq_21 opAct.eq_23 opAct.eq_24 opAct.eq_26
  opAct.eq_27 opAct.eq_28 opAct.eq_29 opAct.eq_30 opAct.eq_31 opAct.eq_32 opAct.eq_34 opAct.eq_35
  opAct.eq_36 opAct.eq_37 opAct.eq_38 slcAct.eq_1 apart freezeAll.eq_1 freezeAll.eq_2 putOuts.eq_1
  putOuts.eq_2 putOuts.eq_3 lookRef.eq_1 lookRef.eq_2 List.map_nil List.map_cons List.all_nil List.all_cons
  List.contains_nil List.contains_cons sliceV.eq_1 sliceV.eq_2 Option.isSome_some Option.isSome_none Option.isNone_none Option.isNone_some
  int_beq int_bne bne_self_eq_false Bool.bne_true Bool.bne_false Bool.true_bne Bool.false_bne window_all
  List.isEmpty_cons List.isEmpty_nil eq_self List.replicate_succ List.replicate_zero frzs_pure Int.cast_ofNat_Int Int.toNat_zero
  Int.toNat_one Int.neg_ofNat_le_ofNat Int.natCast_nonneg Int.toNat_natCast Int.toNat_natCast_add_one Int.ofNat_lt wrap64 Int.le_refl

end Go.AM

namespace Go.AM

def fnOf (tab : List (Nat × AFunc)) (f : Nat) : Option AFunc := (tab.find? (·.1 == f)).map (·.2)
def extOf (tab : List (Nat × (List V → Option Res))) (f : Nat) (as : List V) : Option Res := match tab.find? (·.1 == f) with
  | some p => p.2 as
  | none => none
/-! short forms for printed code -/
abbrev od (d : Nat) (x : AOp) : AOper := ⟨some d, x, none, []⟩
abbrev ow (x : AOp) : AOper := ⟨none, x, none, []⟩
abbrev op (d : Nat) (x : AOp) (p : List Nat) : AOper := ⟨some d, x, none, p⟩
abbrev rg (n : Nat) : List Nat := List.range n
abbrev ic (n : Int) : AOpd := .const (.int .i64 n)
abbrev fc (n : Nat) : AOpd := .const (.fn n [])
end Go.AM
