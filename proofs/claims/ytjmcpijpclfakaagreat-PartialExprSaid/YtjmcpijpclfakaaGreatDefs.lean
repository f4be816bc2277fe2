/-
  Texts of the proof, joined by program: AmDefs. Own work.
-/
import GoSem.Step
set_option linter.unusedSimpArgs false
set_option linter.unusedVariables false
namespace Go.AM
inductive V where
  | bool (b : Bool)
  | int (k : IntKind) (n : Int)
  | float (bits : Nat)
  | str (s : List UInt8)
  | agg (cs : List V)
  | tuple (vs : List V)
  | nilp | nilfn | nili
  | fn (f : Nat) (caps : List V)
  | iface (t : Nat) (v : V)
  | nils
  | lit (sz : Nat) (xs : List V)
  | own (sz : Nat) (xs : List V)
  | sl (r g off len : Nat)
  | ptr (r g idx off : Nat)
  | eptr (e : V) (off : Nat)
  | mp (r g : Nat)
  | mlit (es : List V)
  | it (r g : Nat)
  | msl (sz : Nat) (es : List V) (off len : Nat)
  | mptr (sz : Nat) (es : List V) (idx off : Nat)
  | any
  deriving Inhabited
def undefV : V := .tuple []
structure Obj where
  gen : Nat
  sz : Nat
  arr : Bool
  fz : Bool
  es : Option (List V)
structure Res where
  val : V
  outs : List (Nat × List V)
inductive AOpd where
  | tmp (t : Nat)
  | const (v : V)
inductive AOp where
  | move (x : AOpd)
  | pick (c a b : AOpd)
  | new (r sz : Nat) (x : AOpd)
  | build (cells : List V) (parts : List (Nat × Nat × AOpd))
  | buildSlice (r sz : Nat) (zero : V) (n : Nat) (parts : List (Nat × AOpd))
  | emptyBuf (r sz : Nat)
  | ren (r : Nat) (x : AOpd)
  | makeSlice (r sz bytes : Nat) (zero : V) (len cap : AOpd)
  | load (agg : Bool) (sz : Nat) (x : AOpd)
  | store (agg : Bool) (sz : Nat) (x v : AOpd)
  | nilCheck (x : AOpd)
  | bin (op : BinOp) (x y : AOpd)
  | eqB (neg : Bool) (x y : AOpd)
  | eqA (neg : Bool) (ks : List Nat) (x y : AOpd)
  | un (op : UnOp) (x : AOpd)
  | convInt (k : IntKind) (x : AOpd)
  | convIF (x : AOpd)
  | convFI (k : IntKind) (x : AOpd)
  | convStr (x : AOpd)
  | mkIface (t : Nat) (x : AOpd)
  | assert (t : Nat) (commaOk : Bool) (zero : V) (x : AOpd)
  | mkFunc (f : Nat) (caps : List AOpd)
  | slice (sz : Nat) (x : AOpd) (lo hi mx : Option AOpd)
  | sliceStr (x : AOpd) (lo hi : Option AOpd)
  | fieldAddr (off : Nat) (x : AOpd)
  | field (agg : Bool) (off sz : Nat) (x : AOpd)
  | indexAddr (sz : Nat) (x i : AOpd)
  | indexArr (n sz : Nat) (x i : AOpd)
  | indexStr (x i : AOpd)
  | indexVal (agg : Bool) (n sz : Nat) (x i : AOpd)
  | len (x : AOpd)
  | lenStr (x : AOpd)
  | min (xs : List AOpd)
  | max (xs : List AOpd)
  | append (r sz lim : Nat) (s x : AOpd)
  | copy (sz : Nat) (d s : AOpd)
  | clear (sz : Nat) (zero : V) (x : AOpd)
  | extract (x : AOpd) (i : Nat)
  | call (r : Nat) (thaw : Bool) (f : AOpd) (args : List AOpd)
  | buildSliceD (i r sz : Nat) (zero : V) (n : Nat) (parts : List (Nat × AOpd))
  | appendK (r sz lim : Nat) (s x : AOpd)
  | deep (x : AOpd)
  | loadW (ks : List Nat) (agg : Bool) (sz : Nat) (x : AOpd)
  | mkMap (r : Nat)
  | mapUpd (q : Option IntKind) (x k v : AOpd)
  | mapGet (q : Option IntKind) (ok : Bool) (zero : V) (x k : AOpd)
  | frzM (x : AOpd)
  | strIter (r : Nat) (x : AOpd)
  | strNext (x : AOpd)
  | buildSliceK (r sz : Nat) (zero : V) (n : Nat) (parts : List (Nat × AOpd))
  | eqI (neg : Bool) (ks : List (Nat × Nat)) (x y : AOpd)
  | bad
structure AOper where
  dst : Option Nat
  op : AOp
  guard : Option (Nat × Bool)
  pre : List Nat
inductive ACode where
  | skip
  | region (ops : List AOper)
  | drawn (ops : List AOper)
  | seq (a b : ACode)
  | cond (c : AOpd) (a b : ACode)
  | block (id : Nat) (b : ACode)
  | loop (b : ACode)
  | exit (id : Nat)
  | ret
  | scope (b : ACode)
  | bad
inductive ARes where
  | tmp (t : Nat)
  | cell (t : Nat) (agg : Bool) (sz : Nat)
structure AFunc where
  nparams : Nat
  ntmps : Nat
  modes : List (Option Nat)
  results : List ARes
  body : ACode
structure Env where
  fn : Nat → Option AFunc
  ext : Nat → List V → Option Res
def V.cells : V → List V
  | .agg cs => cs
  | v => [v]
def V.isAgg : V → Bool
  | .agg _ => true
  | _ => false
def V.isTuple : V → Bool
  | .tuple _ => true
  | _ => false
def V.isCell : V → Bool
  | .agg _ | .tuple _ | .any | .own .. | .msl .. | .mptr .. => false
  | _ => true
mutual
def V.isPure : V → Bool
  | .bool _ | .int .. | .float _ | .str _ | .nilp | .nilfn | .nili | .nils | .lit .. | .eptr .. => true
  | .agg cs => V.arePure cs
  | .tuple cs => V.arePure cs
  | .mlit es => V.arePure es
  | .fn _ caps => V.arePure caps
  | .iface _ v => V.isPure v
  | .own .. | .sl .. | .ptr .. | .mp .. | .it .. | .msl .. | .mptr .. | .any => false
def V.arePure : List V → Bool
  | [] => true
  | c :: cs => V.isPure c && V.arePure cs
end
mutual
def V.isScalar : V → Bool
  | .bool _ | .int .. | .float _ | .str _ | .nilp | .nilfn | .nili | .nils => true
  | .agg cs => V.areScalar cs
  | .tuple cs => V.areScalar cs
  | _ => false
def V.areScalar : List V → Bool
  | [] => true
  | c :: cs => V.isScalar c && V.areScalar cs
end
def part (agg : Bool) (off sz : Nat) (e : V) : Option V :=
  match agg, e with
  | true, .agg cs => if off + sz ≤ cs.length then some (.agg ((cs.drop off).take sz)) else none
  | true, _ => none
  | false, .agg cs => cs[off]?
  | false, v => if v.isCell ∧ off = 0 then some v else none
def putPart (agg : Bool) (off sz : Nat) (e v : V) : Option V :=
  match agg with
  | true => match e, v with
    | .agg cs, .agg vs => if vs.length = sz ∧ off + sz ≤ cs.length then some (.agg (cs.take off ++ vs ++ cs.drop (off + sz))) else none
    | _, _ => none
  | false => if v.isCell ∧ sz = 1 then match e with
      | .agg cs => if off < cs.length then some (.agg (cs.set off v)) else none
      | e => if e.isCell ∧ off = 0 then some v else none
    else none
def V.lies (v : V) : Bool := v.isAgg || v.isCell
def isBlank (v : V) (sz : Nat) : Bool := v.cells.length == sz && v.lies
def window (es : List V) (off len : Nat) : List V := (es.drop off).take len
def overwrite (es : List V) (off : Nat) (ys : List V) : List V := es.take off ++ ys ++ es.drop (off + ys.length)
inductive Act where
  | done (v : V)
  | fail
  | getT (t : Nat) (k : V → Act)
  | getO (r : Nat) (k : Obj → Act)
  | setO (r : Nat) (o : Obj) (k : Act)
  | call (f : Nat) (args : List V) (k : Res → Act)
def ev (x : AOpd) (k : V → Act) : Act :=
  match x with
  | .tmp t => .getT t k
  | .const v => k v
def evs : List AOpd → (List V → Act) → Act
  | [], k => k []
  | x :: xs, k => ev x fun v => evs xs fun vs => k (v :: vs)
def evo : Option AOpd → (Option V → Act) → Act
  | none, k => k none
  | some x, k => ev x fun v => k (some v)
def give : Option V → Act
  | some v => .done v
  | none => .fail
def frzCell (c : V) (k : V → Act) : Act :=
  match c with
  | .sl r g off len => .getO r fun o => match o.es with
    | some es => if o.gen = g ∧ o.arr = true ∧ off + len ≤ es.length ∧ V.arePure (window es off len) = true then .setO r { o with fz := true } (k (.lit o.sz (window es off len))) else .fail
    | none => .fail
  | .mp r g => .getO r fun o => match o.es with
    | some es => if o.gen = g ∧ o.sz = 0 ∧ V.arePure es = true ∧ es.all V.isTuple = true then .setO r { o with fz := true } (k (.mlit es)) else .fail
    | none => .fail
  | .own .. | .msl .. | .mptr .. | .any | .it .. => .fail
  | c => k c
def frzCells : List V → (List V → Act) → Act
  | [], k => k []
  | c :: cs, k => frzCell c fun c' => frzCells cs fun cs' => k (c' :: cs')
def frz (v : V) (k : V → Act) : Act :=
  if v.isPure then k v else
  match v with
  | .agg cs => frzCells cs fun cs' => k (.agg cs')
  | v => frzCell v k
def frzs (vs : List V) (k : List V → Act) : Act :=
  if V.arePure vs then k vs else go vs k
where
  go : List V → (List V → Act) → Act
  | [], k => k []
  | c :: cs, k => frz c fun c' => go cs fun cs' => k (c' :: cs')
def snapL (f : V → (V → List Nat → Act) → Act) : List V → (List V → List Nat → Act) → Act
  | [], k => k [] []
  | c :: cs, k => f c fun c' r => snapL f cs fun cs' rs => k (c' :: cs') (r ++ rs)
def snapAll (f : V → (V → List Nat → Act) → Act) (vs : List V) (k : List V → List Nat → Act) : Act :=
  if V.arePure vs then k vs [] else snapL f vs k
def snapV : Nat → V → (V → List Nat → Act) → Act
  | 0, v, k => if v.isPure then k v [] else .fail
  | d + 1, v, k => if v.isPure then k v [] else
    match v with
    | .agg cs => snapL (snapV d) cs fun cs' rs => k (.agg cs') rs
    | .fn f cs => snapL (snapV d) cs fun cs' rs => k (.fn f cs') rs
    | .iface t x => snapV d x fun x' rs => k (.iface t x') rs
    | .sl r g off len => .getO r fun o => match o.es with
      | some es => if o.gen = g ∧ o.arr = true ∧ off + len ≤ es.length then snapAll (snapV d) (window es off len) fun xs rs => k (.lit o.sz xs) (r :: rs) else .fail
      | none => .fail
    | .ptr r g idx off => .getO r fun o => match o.es with
      | some es => if o.gen = g then match es[idx]? with
          | some e => snapV d e fun e' rs => k (.eptr e' off) (r :: rs)
          | none => .fail
        else .fail
      | none => .fail
    | _ => .fail
def snap (v : V) (k : V → List Nat → Act) : Act := snapV 5 v k
structure WRef where
  i : Nat
  r : Nat
  fresh : Option Nat
def prepare (r0 : Nat) : List V → List (Option Nat) → Nat → (List V → List Nat → List WRef → Act) → Act
  | [], _, _, k => k [] [] []
  | v :: vs, m :: ms, i, k =>
    match m with
    | some sz => match v with
      | .nils => if 0 < sz then prepare r0 vs ms (i + 1) fun as rs ws => k (.msl sz [] 0 0 :: as) rs (⟨i, r0 + i, some sz⟩ :: ws) else .fail
      | .sl r g off len => .getO r fun o => match o.es with
        | some es => if o.gen = g ∧ o.fz = false ∧ o.sz = sz ∧ off + len ≤ es.length ∧ V.arePure es = true then
            prepare r0 vs ms (i + 1) fun as rs ws => k (.msl sz es off len :: as) rs (⟨i, r, none⟩ :: ws) else .fail
        | none => .fail
      | .ptr r g idx off => .getO r fun o => match o.es with
        | some es => if o.gen = g ∧ o.fz = false ∧ o.sz = sz ∧ V.arePure es = true then
            prepare r0 vs ms (i + 1) fun as rs ws => k (.mptr sz es idx off :: as) rs (⟨i, r, none⟩ :: ws) else .fail
        | none => .fail
      | _ => .fail
    | none => snap v fun v' rs => prepare r0 vs ms (i + 1) fun as rs' ws => k (v' :: as) (rs ++ rs') ws
  | v :: vs, [], i, k => snap v fun v' rs => prepare r0 vs [] (i + 1) fun as rs' ws => k (v' :: as) (rs ++ rs') ws
def freezeAll : List Nat → Act → Act
  | [], k => k
  | r :: rs, k => .getO r fun o => .setO r { o with fz := true } (freezeAll rs k)
def putOuts : List WRef → List (Nat × List V) → (List (Nat × Nat × Nat) → Act) → Act
  | [], [], k => k []
  | w :: ws, (bump, es) :: outs, k => .getO w.r fun o => match w.fresh with
    | none => .setO w.r { o with gen := o.gen + bump, es := some es } (putOuts ws outs fun gs => k ((w.i, w.r, o.gen + bump) :: gs))
    | some sz => .setO w.r { gen := o.gen + 1, sz, arr := true, fz := false, es := some es } (putOuts ws outs fun gs => k ((w.i, w.r, o.gen + 1) :: gs))
  | _, _, _ => .fail
def lookRef (i : Nat) : List (Nat × Nat × Nat) → Option (Nat × Nat)
  | [] => none
  | (j, r, g) :: gs => if j = i then some (r, g) else lookRef i gs
def importCell (thaw : Bool) (r : Nat) (gs : List (Nat × Nat × Nat)) (c : V) (k : V → Act) : Act :=
  match c with
  | .own sz xs => if thaw then .getO r fun o => .setO r { gen := o.gen + 1, sz, arr := true, fz := false, es := some xs } (k (.sl r (o.gen + 1) 0 xs.length)) else k (.lit sz xs)
  | .sl i _ off len => match lookRef i gs with
    | some (r', g') => k (.sl r' g' off len)
    | none => .fail
  | c => if c.isPure then k c else .fail
def importCells (thaw : Bool) : Nat → List (Nat × Nat × Nat) → List V → (List V → Act) → Act
  | _, _, [], k => k []
  | r, gs, c :: cs, k => importCell thaw r gs c fun c' => importCells thaw (r + 1) gs cs fun cs' => k (c' :: cs')
def importV (thaw : Bool) (r : Nat) (gs : List (Nat × Nat × Nat)) (v : V) (k : V → Act) : Act :=
  if v.isPure then k v else
  match v with
  | .agg cs => importCells thaw r gs cs fun cs' => k (.agg cs')
  | v => importCell thaw r gs v k
def importVs (thaw : Bool) : Nat → List (Nat × Nat × Nat) → List V → (List V → Act) → Act
  | _, _, [], k => k []
  | r, gs, v :: vs, k => importV thaw r gs v fun v' => importVs thaw (r + 8) gs vs fun vs' => k (v' :: vs')
def importRes (thaw : Bool) (r : Nat) (gs : List (Nat × Nat × Nat)) (v : V) (k : V → Act) : Act :=
  if v.isPure then k v else
  match v with
  | .tuple vs => importVs thaw r gs vs fun vs' => k (.tuple vs')
  | v => importV thaw r gs v k
def apart (rs ws : List Nat) : Bool := ws.all fun w => !rs.contains w
def distinct : List Nat → Bool
  | [] => true
  | w :: ws => !ws.contains w && distinct ws
def doCall (E : Env) (r : Nat) (thaw : Bool) (f : Nat) (args : List V) : Act :=
  let modes := match E.fn f with | some af => af.modes | none => []
  prepare (r + 8) args modes 0 fun as rs ws =>
    if apart rs (ws.map (·.r)) && distinct (ws.map (·.r)) then
      .call f as fun res =>
        let go := putOuts ws res.outs fun gs => importRes thaw r gs res.val .done
        if res.val.isScalar && res.outs.all (fun o => V.areScalar o.2) then go else freezeAll rs go
    else .fail
def boolV (b : Bool) : Option V := some (.bool b)
def cmpInt (op : BinOp) (a b : Int) : Option V :=
  match op with
  | .eql => some (.bool (a == b))
  | .neq => some (.bool (a != b))
  | .lss => some (.bool (a < b))
  | .leq => some (.bool (a ≤ b))
  | .gtr => some (.bool (b < a))
  | .geq => some (.bool (b ≤ a))
  | _ => none
def bitsInt (op : BinOp) (k : IntKind) (x y : Int) : Option V :=
  let a := BitVec.ofInt k.bits x
  let b := BitVec.ofInt k.bits y
  let back (r : BitVec k.bits) : Option V := some (.int k (k.wrap r.toNat))
  match op with
  | .and => back (a &&& b)
  | .or => back (a ||| b)
  | .xor => back (a ^^^ b)
  | .andNot => back (a &&& ~~~b)
  | _ => none
def eqK (k : Nat) (a b : V) : Option Bool :=
  match k, a, b with
  | 0, .bool a, .bool b => some (a == b)
  | 1, .int k a, .int k' b => if k = k' then some (a == b) else none
  | 2, .str a, .str b => some (decide (a = b))
  | _, _, _ => none
def eqKs : List Nat → List V → List V → Option Bool
  | [], [], [] => some true
  | k :: ks, a :: as, b :: bs => match eqK k a b, eqKs ks as bs with
    | some x, some y => some (x && y)
    | _, _ => none
  | _, _, _ => none
def kindOf (t : Nat) : List (Nat × Nat) → Option Nat
  | [] => none
  | (t', k) :: ks => bif Nat.beq t' t then some k else kindOf t ks
def binV (op : BinOp) (x y : V) : Option V :=
  match x, y with
  | .int k a, .int k' b =>
    match op with
    | .shl => if b < 0 then none else some (.int k (k.wrap (a * 2 ^ (min b.toNat k.bits))))
    | .shr => if b < 0 then none else some (.int k (a.fdiv (2 ^ (min b.toNat k.bits))))
    | op =>
      if k = k' then
        match op with
        | .add => some (.int k (k.wrap (a + b)))
        | .sub => some (.int k (k.wrap (a - b)))
        | .mul => some (.int k (k.wrap (a * b)))
        | .quo => if b = 0 then none else some (.int k (k.wrap (a.tdiv b)))
        | .rem => if b = 0 then none else some (.int k (a.tmod b))
        | .and | .or | .xor | .andNot => bitsInt op k a b
        | op => cmpInt op a b
      else none
  | .str a, .str b =>
    match op with
    | .add => if a.length + b.length ≤ 9223372036854775807 then some (.str (a ++ b)) else none
    | .eql => some (.bool (decide (a = b)))
    | .neq => some (.bool (!decide (a = b)))
    | .lss => some (.bool (Op.bytesLess a b))
    | .leq => some (.bool (Op.bytesLess a b || decide (a = b)))
    | .gtr => some (.bool (!(Op.bytesLess a b || decide (a = b))))
    | .geq => some (.bool (!Op.bytesLess a b))
    | _ => none
  | _, _ => none
def unV (op : UnOp) (x : V) : Option V :=
  match op, x with
  | .neg, .int k n => some (.int k (k.wrap (0 - n)))
  | .not, .bool b => some (.bool (!b))
  | .xor, .int k n => bitsInt .xor k (if k.signed then -1 else k.max) n
  | _, _ => none
def min2 (x y : V) : Option V :=
  match x, y with
  | .int k a, .int k' b => if k = k' then some (.int k (if b < a then b else a)) else none
  | _, _ => none
def max2 (x y : V) : Option V :=
  match x, y with
  | .int k a, .int k' b => if k = k' then some (.int k (if a < b then b else a)) else none
  | _, _ => none
def foldV1 (f : V → V → Option V) (x : V) : List V → Option V
  | [] => some x
  | y :: ys => match f x y with
    | some z => foldV1 f z ys
    | none => none
def foldV (f : V → V → Option V) : List V → Option V
  | [] => none
  | x :: xs => foldV1 f x xs
def lenV : V → Option V
  | .nils => some (.int .i64 0)
  | .lit _ xs => some (.int .i64 xs.length)
  | .sl _ _ _ len => some (.int .i64 len)
  | _ => none
def boundOf (d : Nat) : Option V → Option Nat
  | none => some d
  | some (.int _ n) => if 0 ≤ n then some n.toNat else none
  | some _ => none
def sliceStrV (x : V) (lo hi : Option V) : Option V :=
  match x with
  | .str s => match boundOf 0 lo, boundOf s.length hi with
    | some l, some h => if l ≤ h ∧ h ≤ s.length then some (.str ((s.drop l).take (h - l))) else none
    | _, _ => none
  | _ => none
def sliceV (sz : Nat) (x : V) (lo hi mx : Option V) : Option V :=
  match x with
  | .nils => match boundOf 0 lo, boundOf 0 hi, boundOf 0 mx with
    | some l, some h, some m => if l ≤ h ∧ h ≤ m ∧ m ≤ 0 ∧ (hi.isSome = true ∨ mx.isNone = true) then some .nils else none
    | _, _, _ => none
  | .lit sz' xs => if sz' = sz then match boundOf 0 lo, boundOf xs.length hi, mx with
      | some l, some h, none => if l ≤ h ∧ h ≤ xs.length then some (.lit sz (window xs l (h - l))) else none
      | some l, some h, some m => match hi, boundOf 0 (some m) with
        | some _, some m => if l ≤ h ∧ h ≤ m ∧ m ≤ xs.length then some (if m = l then .nils else .any) else none
        | _, _ => none
      | _, _, _ => none
    else none
  | _ => none
def fillCells : List V → List (Nat × Nat × V) → Option (List V)
  | cs, [] => some cs
  | cs, (off, sz, v) :: rest => if v.cells.length = sz ∧ off + sz ≤ cs.length ∧ v.lies = true then fillCells (cs.take off ++ v.cells ++ cs.drop (off + sz)) rest else none
def evParts : List (Nat × Nat × AOpd) → (List (Nat × Nat × V) → Act) → Act
  | [], k => k []
  | (o, s, x) :: ps, k => ev x fun v => evParts ps fun vs => k ((o, s, v) :: vs)
def evElems : List (Nat × AOpd) → (List (Nat × V) → Act) → Act
  | [], k => k []
  | (i, x) :: ps, k => ev x fun v => frz v fun v => evElems ps fun vs => k ((i, v) :: vs)
def evElemsK : List (Nat × AOpd) → (List (Nat × V) → Act) → Act
  | [], k => k []
  | (i, x) :: ps, k => ev x fun v => evElemsK ps fun vs => k ((i, v) :: vs)
def fillElems (sz : Nat) : List V → List (Nat × V) → Option (List V)
  | es, [] => some es
  | es, (i, v) :: rest => if i < es.length ∧ isBlank v sz = true then fillElems sz (es.set i v) rest else none
def content (sz : Nat) (x : V) (k : List V → Act) : Act :=
  match x with
  | .nils => k []
  | .lit sz' xs => if sz' = sz then k xs else .fail
  | .sl r g off len => .getO r fun o => match o.es with
    | some es => if o.gen = g ∧ o.sz = sz ∧ off + len ≤ es.length then k (window es off len) else .fail
    | none => .fail
  | .str s => if sz = 1 then k (s.map fun b => .int .u8 b.toNat) else .fail
  | _ => .fail
def bsAct (r sz : Nat) (zero : V) (n : Nat) (parts : List (Nat × AOpd)) : Act := evElems parts fun ps => match fillElems sz (List.replicate n zero) ps with
  | some es => if isBlank zero sz && decide (0 < sz ∧ n * sz ≤ 16777216) then .getO r fun o => .setO r { gen := o.gen + 1, sz, arr := true, fz := false, es := some es } (.done (.sl r (o.gen + 1) 0 n)) else .fail
  | none => .fail
def apAct (r sz lim : Nat) (s : V) (ys : List V) : Act :=
    if ys.all (isBlank · sz) && decide (0 < sz) then match s with
    | .nils => if ys.isEmpty then .done .nils else if ys.length ≤ lim then
        .getO r fun o => .setO r { gen := o.gen + 1, sz, arr := true, fz := false, es := some ys } (.done (.sl r (o.gen + 1) 0 ys.length)) else .fail
    | .lit sz' xs => if ys.isEmpty then .done (.lit sz' xs) else .fail
    | .sl r' g off len => .getO r' fun o => match o.es with
      | some es => if o.gen = g ∧ o.arr = true ∧ o.fz = false ∧ o.sz = sz ∧ off + len ≤ es.length ∧ len + ys.length ≤ lim then
            if off + len + ys.length ≤ es.length then
              .setO r' { o with es := some (overwrite es (off + len) ys) } (.done (.sl r' g off (len + ys.length)))
            else
              .setO r' { o with gen := g + 1, es := some (window es off len ++ ys) } (.done (.sl r' (g + 1) 0 (len + ys.length)))
        else .fail
      | none => .fail
    | _ => .fail
    else .fail
def wkC : List Nat → List V → List V
  | k :: ks, c :: cs => (match k, c with
    | (k + 1), .nils => .lit (k + 1) []
    | _, c => c) :: wkC ks cs
  | _, cs => cs
def wkV (ks : List Nat) (v : V) : V := match v with
  | .agg cs => .agg (wkC ks cs)
  | .nils => (match ks with
    | (k + 1) :: _ => .lit (k + 1) []
    | _ => .nils)
  | v => v
def deepAct (v : V) : Act := match v with
  | .sl r g off len => .getO r fun o => match o.es with
    | some es => if o.gen = g then frzs es fun es' => .getO r fun o' => if o'.gen = o.gen ∧ o'.es.isSome = true ∧ es'.all (isBlank · o.sz) = true then .setO r { o' with es := some es' } (.done (.sl r g off len)) else .fail else .fail
    | none => .fail
  | v => .done v
def keyEq : V → V → Option Bool
  | .int k a, .int k' b => if k = k' then some (a == b) else none
  | .str a, .str b => some (decide (a = b))
  | _, _ => none
def mapFind (k : V) : List V → Option (Option V)
  | [] => some none
  | .tuple [k', v] :: es => match keyEq k k' with
    | some true => some (some v)
    | some false => mapFind k es
    | none => none
  | _ :: _ => none
def mapPut (k v : V) : List V → Option (List V)
  | [] => some [.tuple [k, v]]
  | .tuple [k', v'] :: es => match keyEq k k' with
    | some true => some (.tuple [k, v] :: es)
    | some false => (mapPut k v es).map (.tuple [k', v'] :: ·)
    | none => none
  | _ :: _ => none
def isKey (q : Option IntKind) (k : V) : Bool := match q, k with
  | some q, .int k _ => decide (k = q)
  | none, .str _ => true
  | _, _ => false
def mapGetV (ok : Bool) (zero : V) (es : List V) (k : V) : Act :=
  match mapFind k es with
  | some (some v) => .done (if ok then .tuple [v, .bool true] else v)
  | some none => .done (if ok then .tuple [zero, .bool false] else zero)
  | none => .fail
def opAct (E : Env) : AOp → Act
  | .move x => ev x .done
  | .pick c a b => ev c fun | .bool true => ev a .done | .bool false => ev b .done | _ => .fail
  | .new r sz x => ev x fun v => if isBlank v sz && decide (0 < sz) then .getO r fun o => .setO r { gen := o.gen + 1, sz, arr := false, fz := false, es := some [v] } (.done (.ptr r (o.gen + 1) 0 0)) else .fail
  | .build cells parts => evParts parts fun ps => match fillCells cells ps with
    | some cs => .done (.agg cs)
    | none => .fail
  | .buildSlice r sz zero n parts => evElems parts fun ps => match fillElems sz (List.replicate n zero) ps with
    | some es => if isBlank zero sz && decide (0 < sz ∧ n * sz ≤ 16777216) then .getO r fun o => .setO r { gen := o.gen + 1, sz, arr := true, fz := false, es := some es } (.done (.sl r (o.gen + 1) 0 n)) else .fail
    | none => .fail
  | .emptyBuf r sz => if 0 < sz then .getO r fun o => .setO r { gen := o.gen + 1, sz, arr := true, fz := false, es := some [] } (.done (.sl r (o.gen + 1) 0 0)) else .fail
  | .ren r x => ev x fun
    | .sl r1 g off len => if r1 = r then .done (.sl r1 g off len) else .getO r1 fun o => if o.gen = g then
        .getO r fun o' => .setO r ⟨o'.gen + 1, o.sz, o.arr, o.fz, o.es⟩ (.setO r1 ⟨o.gen + 1, o.sz, o.arr, o.fz, none⟩ (.done (.sl r (o'.gen + 1) off len))) else .fail
    | v => .done v
  | .makeSlice r sz bytes zero len cap => ev len fun l => ev cap fun c => match l, c with
    | .int _ n, .int _ m => if 0 ≤ n ∧ n ≤ m ∧ m * bytes ≤ 140737488355328 ∧ isBlank zero sz ∧ 0 < sz ∧ m ≤ 9223372036854775807 then
        .getO r fun o => .setO r { gen := o.gen + 1, sz, arr := true, fz := false, es := some (List.replicate m.toNat zero) } (.done (.sl r (o.gen + 1) 0 n.toNat)) else .fail
    | _, _ => .fail
  | .load agg sz x => ev x fun
    | .ptr r g idx off => .getO r fun o => match o.es with
      | some es => if o.gen = g then match es[idx]? with
          | some e => give (part agg off sz e)
          | none => .fail
        else .fail
      | none => .fail
    | .eptr e off => give (part agg off sz e)
    | _ => .fail
  | .store agg sz x v => ev x fun
    | .ptr r g idx off => .getO r fun o => if o.arr
      then ev v fun v => frz v fun v => putIn agg sz r g idx off v
      else ev v fun v => putIn agg sz r g idx off v
    | _ => .fail
  | .nilCheck x => ev x fun
    | .ptr r g idx off => .done (.ptr r g idx off)
    | .eptr e off => .done (.eptr e off)
    | .fn f caps => .done (.fn f caps)
    | _ => .fail
  | .bin op x y => ev x fun a => ev y fun b => give (binV op a b)
  | .eqB neg x y => ev x fun a => ev y fun b => match a, b with
    | .bool a, .bool b => .done (.bool ((a == b) != neg))
    | _, _ => .fail
  | .eqA neg ks x y => ev x fun a => ev y fun b => match a, b with
    | .agg as, .agg bs => match eqKs ks as bs with
        | some b => .done (.bool (b != neg))
        | none => .fail
    | _, _ => .fail
  | .un op x => ev x fun a => give (unV op a)
  | .convInt k x => ev x fun | .int _ n => .done (.int k (k.wrap n)) | _ => .fail
  | .convIF x => ev x fun | .int _ n => .done (.float (FloatKind.f64.nearest n)) | _ => .fail
  | .convFI k x => ev x fun
    | .float b => match (FloatKind.f64.decode b).toInt .zero with
      | some n => if k.min ≤ n ∧ n ≤ k.max then .done (.int k n) else .fail
      | none => .fail
    | _ => .fail
  | .convStr x => ev x fun | .str s => .done (.str s) | _ => .fail
  | .mkIface t x => ev x fun v => .done (.iface t v)
  | .assert t ok zero x => ev x fun
    | .nili => if ok then .done (.tuple [zero, .bool false]) else .fail
    | .iface t' v => if t' = t then .done (if ok then .tuple [v, .bool true] else v) else if ok then .done (.tuple [zero, .bool false]) else .fail
    | _ => .fail
  | .mkFunc f caps => evs caps fun vs => .done (.fn f vs)
  | .sliceStr x lo hi => ev x fun v => evo lo fun l => evo hi fun h => give (sliceStrV v l h)
  | .slice sz x lo hi mx => ev x fun v => evo lo fun l => evo hi fun h => evo mx fun m => match v with
    | .sl r g off len => .getO r fun o => match o.es with
      | some es => if o.gen = g ∧ o.sz = sz then
          match boundOf 0 l, boundOf len h, m with
          | some l, some h, none => if l ≤ h ∧ off + h ≤ es.length then .done (.sl r g (off + l) (h - l)) else .fail
          | some l, some h', some m => match h, boundOf 0 (some m) with
            | some _, some m => if l ≤ h' ∧ h' ≤ m ∧ off + m ≤ es.length then .done (if m = l then .nils else .any) else .fail
            | _, _ => .fail
          | _, _, _ => .fail
        else .fail
      | none => .fail
    | v => give (sliceV sz v l h m)
  | .fieldAddr off x => ev x fun
    | .ptr r g idx o => .done (.ptr r g idx (o + off))
    | .eptr e o => .done (.eptr e (o + off))
    | _ => .fail
  | .field agg off sz x => ev x fun v => if v.isAgg then give (part agg off sz v) else .fail
  | .indexAddr sz x i => ev x fun v => ev i fun i => match v, i with
    | .sl r g off len, .int _ n => .getO r fun o => if 0 ≤ n ∧ n < len ∧ o.sz = sz ∧ o.gen = g then .done (.ptr r g (off + n.toNat) 0) else .fail
    | .lit sz' xs, .int _ n => if 0 ≤ n ∧ sz' = sz then match xs[n.toNat]? with
        | some e => .done (.eptr e 0)
        | none => .fail
      else .fail
    | _, _ => .fail
  | .indexArr n sz x i => ev x fun v => ev i fun i => match v, i with
    | .ptr r g idx off, .int _ j => if 0 ≤ j ∧ j < n then .done (.ptr r g idx (off + j.toNat * sz)) else .fail
    | .eptr e off, .int _ j => if 0 ≤ j ∧ j < n then .done (.eptr e (off + j.toNat * sz)) else .fail
    | _, _ => .fail
  | .indexStr x i => ev x fun v => ev i fun i => match v, i with
    | .str s, .int _ n => if 0 ≤ n then match s[n.toNat]? with
        | some b => .done (.int .u8 b.toNat)
        | none => .fail
      else .fail
    | _, _ => .fail
  | .indexVal agg n sz x i => ev x fun v => ev i fun i => match i with
    | .int _ j => if 0 ≤ j ∧ j < n ∧ v.isAgg then give (part agg (j.toNat * sz) sz v) else .fail
    | _ => .fail
  | .len x => ev x fun v => give (lenV v)
  | .lenStr x => ev x fun | .str s => .done (.int .i64 s.length) | _ => .fail
  | .min xs => evs xs fun vs => give (foldV min2 vs)
  | .max xs => evs xs fun vs => give (foldV max2 vs)
  | .append r sz lim s x => ev s fun s => ev x fun x => content sz x fun ys => frzs ys fun ys =>
    if ys.all (isBlank · sz) && decide (0 < sz) then match s with
    | .nils => if ys.isEmpty then .done .nils else if ys.length ≤ lim then
        .getO r fun o => .setO r { gen := o.gen + 1, sz, arr := true, fz := false, es := some ys } (.done (.sl r (o.gen + 1) 0 ys.length)) else .fail
    | .lit sz' xs => if ys.isEmpty then .done (.lit sz' xs) else .fail
    | .sl r' g off len => .getO r' fun o => match o.es with
      | some es => if o.gen = g ∧ o.arr = true ∧ o.fz = false ∧ o.sz = sz ∧ off + len ≤ es.length ∧ len + ys.length ≤ lim then
            if off + len + ys.length ≤ es.length then
              .setO r' { o with es := some (overwrite es (off + len) ys) } (.done (.sl r' g off (len + ys.length)))
            else
              .setO r' { o with gen := g + 1, es := some (window es off len ++ ys) } (.done (.sl r' (g + 1) 0 (len + ys.length)))
        else .fail
      | none => .fail
    | _ => .fail
    else .fail
  | .copy sz d s => ev d fun d => ev s fun s => content sz s fun ys => match d with
    | .nils => .done (.int .i64 0)
    | .sl r g off len => .getO r fun o => match o.es with
      | some es =>
        if o.gen = g ∧ o.arr = true ∧ o.fz = false ∧ o.sz = sz ∧ off + len ≤ es.length ∧ (ys.take len).all (isBlank · sz) = true then
          .setO r { o with es := some (overwrite es off (ys.take len)) } (.done (.int .i64 (ys.take len).length)) else .fail
      | none => .fail
    | _ => .fail
  | .clear sz zero x => ev x fun
    | .nils => .done (.tuple [])
    | .sl r g off len => .getO r fun o => match o.es with
      | some es => if o.gen = g ∧ o.arr = true ∧ o.fz = false ∧ o.sz = sz ∧ off + len ≤ es.length ∧ isBlank zero sz then
          .setO r { o with es := some (overwrite es off (List.replicate len zero)) } (.done (.tuple [])) else .fail
      | none => .fail
    | _ => .fail
  | .extract x i => ev x fun
    | .tuple vs => give vs[i]?
    | _ => .fail
  | .call r thaw f args => ev f fun
    | .fn f caps => evs args fun as => doCall E r thaw f (as ++ caps)
    | _ => .fail
  | .buildSliceD i r sz zero n parts => ev (.tmp i) fun | .int _ j => bsAct (r + 16 * j.toNat) sz zero n parts | _ => .fail
  | .appendK r sz lim s x => ev s fun s => ev x fun x => content sz x fun ys => apAct r sz lim s ys
  | .deep x => ev x deepAct
  | .loadW ks agg sz x => ev x fun
    | .ptr r g idx off => .getO r fun o => match o.es with
      | some es => if o.gen = g then match es[idx]? with
          | some e => give ((part agg off sz e).map (wkV ks))
          | none => .fail
        else .fail
      | none => .fail
    | .eptr e off => give ((part agg off sz e).map (wkV ks))
    | _ => .fail
  | .buildSliceK r sz zero n parts => evElemsK parts fun ps => match fillElems sz (List.replicate n zero) ps with
    | some es => if isBlank zero sz && decide (0 < sz ∧ n * sz ≤ 16777216) then .getO r fun o => .setO r { gen := o.gen + 1, sz, arr := true, fz := false, es := some es } (.done (.sl r (o.gen + 1) 0 n)) else .fail
    | none => .fail
  | .mkMap r => .getO r fun o => .setO r { gen := o.gen + 1, sz := 0, arr := false, fz := false, es := some [] } (.done (.mp r (o.gen + 1)))
  | .mapUpd q x k v => ev x fun
    | .mp r g => ev k fun k => ev v fun v => frz v fun v => .getO r fun o => match o.es with
      | some es => if o.gen = g ∧ o.sz = 0 ∧ o.fz = false ∧ isKey q k = true ∧ v.lies = true then (match mapPut k v es with
          | some es' => .setO r { o with es := some es' } (.done (.tuple []))
          | none => .fail) else .fail
      | none => .fail
    | _ => .fail
  | .mapGet q ok zero x k => ev x fun x => ev k fun k => if isKey q k then (match x with
    | .mp r g => .getO r fun o => match o.es with
      | some es => if o.gen = g ∧ o.sz = 0 then mapGetV ok zero es k else .fail
      | none => .fail
    | .mlit es => mapGetV ok zero es k
    | _ => .fail) else .fail
  | .frzM x => ev x fun v => frz v .done
  | .strIter r x => ev x fun
    | .str s => .getO r fun o => .setO r { gen := o.gen + 1, sz := 0, arr := false, fz := false, es := some [.str s, .int .i64 0] } (.done (.it r (o.gen + 1)))
    | _ => .fail
  | .strNext x => ev x fun
    | .it r g => .getO r fun o => match o.es with
      | some [.str s, .int .i64 p] => if o.gen = g ∧ o.sz = 0 ∧ o.fz = false then
          (if p.toNat < s.length then .setO r { o with es := some [.str s, .int .i64 ((p.toNat + (Utf8.decode ⟨s.toArray⟩ p.toNat).2 : Nat) : Int)] }
            (.done (.tuple [.bool true, .int .i64 (p.toNat : Int), .int .i32 ((Utf8.decode ⟨s.toArray⟩ p.toNat).1 : Int)]))
          else .done (.tuple [.bool false])) else .fail
      | _ => .fail
    | _ => .fail
  | .eqI neg ks x y => ev x fun a => ev y fun b => match a, b with
    | .iface t p, .iface t' q => if t = t' then (match kindOf t ks with
        | some k => (match eqK k p q with
          | some b => .done (.bool (b != neg))
          | none => .fail)
        | none => .fail) else .fail
    | .nili, .iface _ _ => .done (.bool neg)
    | .iface _ _, .nili => .done (.bool neg)
    | _, _ => .fail
  | .bad => .fail
where
  putIn (agg : Bool) (sz r g idx off : Nat) (v : V) : Act :=
    .getO r fun o => match o.es with
      | some es => if o.gen = g ∧ o.fz = false then match es[idx]? with
          | some e => match putPart agg off sz e v with
            | some e' => .setO r { o with es := some (es.set idx e') } (.done (.tuple []))
            | none => .fail
          | none => .fail
        else .fail
      | none => .fail
def operAct (E : Env) (o : AOper) : Act :=
  match o.guard with
  | none => opAct E o.op
  | some (t, want) => .getT t fun
    | .bool b => if b = want then opAct E o.op else .done undefV
    | .tuple [] => .done undefV
    | _ => .fail
structure St where
  T : Nat → V
  O : Nat → Obj
def upd {α : Type} (f : Nat → α) (t : Nat) (v : α) : Nat → α := fun n => if n = t then v else f n
abbrev Oracle := Nat → List V → Option Res
def Act.run (C : Oracle) : Act → St → Option (V × St)
  | .done v, σ => some (v, σ)
  | .fail, _ => none
  | .getT t k, σ => (k (σ.T t)).run C σ
  | .getO r k, σ => (k (σ.O r)).run C σ
  | .setO r o k, σ => k.run C { σ with O := upd σ.O r o }
  | .call f as k, σ => match C f as with
    | some res => (k res).run C σ
    | none => none
def St.put (σ : St) (dst : Option Nat) (v : V) : St :=
  match dst with
  | some d => { σ with T := upd σ.T d v }
  | none => σ
def runOp (E : Env) (C : Oracle) (o : AOper) (σ : St) : Option St :=
  match (operAct E o).run C σ with
  | some (v, σ') => some (σ'.put o.dst v)
  | none => none
def runOps (E : Env) (C : Oracle) : List AOper → St → Option St
  | [], σ => some σ
  | o :: os, σ => match runOp E C o σ with
    | some σ' => runOps E C os σ'
    | none => none
inductive Loc where
  | t (n : Nat)
  | o (n : Nat)
  deriving DecidableEq
structure Foot where
  reads : List Loc
  writes : List Loc
def Act.foot (C : Oracle) : Act → St → Foot
  | .done _, _ => ⟨[], []⟩
  | .fail, _ => ⟨[], []⟩
  | .getT t k, σ => let f := (k (σ.T t)).foot C σ; ⟨.t t :: f.reads, f.writes⟩
  | .getO r k, σ => let f := (k (σ.O r)).foot C σ; ⟨.o r :: f.reads, f.writes⟩
  | .setO r o k, σ => let f := k.foot C { σ with O := upd σ.O r o }; ⟨f.reads, .o r :: f.writes⟩
  | .call f as k, σ => match C f as with
    | some res => (k res).foot C σ
    | none => ⟨[], []⟩
def operFoot (E : Env) (C : Oracle) (o : AOper) (σ : St) : Foot :=
  let f := (operAct E o).foot C σ
  ⟨f.reads, (match o.dst with | some d => [.t d] | none => []) ++ f.writes⟩
def meets (a b : List Loc) : Bool := a.any b.contains
def Foot.clash (a b : Foot) : Bool := meets a.writes b.writes || meets a.writes b.reads || meets a.reads b.writes
def closure (before : List (List Nat)) (pre : List Nat) : List Nat := pre ++ pre.flatMap fun i => before.getD i []
def fits (feet : List Foot) (wait : List Nat) (f : Foot) : Nat → Bool
  | 0 => true
  | i + 1 => (wait.contains i || !(feet.getD i ⟨[], []⟩).clash f) && fits feet wait f i
def runDrawn (E : Env) (C : Oracle) : List AOper → List Foot → List (List Nat) → St → Option St
  | [], _, _, σ => some σ
  | o :: os, feet, before, σ =>
    let f := operFoot E C o σ
    let wait := closure before o.pre
    if fits feet wait f feet.length && o.pre.all (· < feet.length) then
      match runOp E C o σ with
      | some σ' => runDrawn E C os (feet ++ [f]) (before ++ [wait]) σ'
      | none => none
    else none
inductive AExit where
  | normal
  | exit (id : Nat)
  | ret
def evalOpd (σ : St) : AOpd → V
  | .tmp t => σ.T t
  | .const v => v
def execWith (E : Env) (C : Oracle) (rec : ACode → St → Option (AExit × St)) : ACode → St → Option (AExit × St)
  | .skip, σ => some (.normal, σ)
  | .region ops, σ => (runOps E C ops σ).map fun σ => (.normal, σ)
  | .drawn ops, σ => (runDrawn E C ops [] [] σ).map fun σ => (.normal, σ)
  | .seq a b, σ => match rec a σ with
    | some (.normal, σ') => rec b σ'
    | r => r
  | .cond c a b, σ => match evalOpd σ c with
    | .bool true => rec a σ
    | .bool false => rec b σ
    | _ => none
  | .block id b, σ => match rec b σ with
    | some (.exit id', σ') => if id' = id then some (.normal, σ') else some (.exit id', σ')
    | r => r
  | .loop b, σ => match rec b σ with
    | some (.normal, σ') => rec (.loop b) σ'
    | r => r
  | .exit id, σ => some (.exit id, σ)
  | .ret, σ => some (.ret, σ)
  | .scope b, σ => rec b σ
  | .bad, _ => none
def deadObj : Obj := { gen := 0, sz := 0, arr := false, fz := false, es := none }
def enter (args : List V) : St :=
  { T := fun t => match args[t]? with
      | some (.msl _ _ off len) => .sl t 0 off len
      | some (.mptr _ _ idx off) => .ptr t 0 idx off
      | some v => v
      | none => undefV
    O := fun r => match args[r]? with
      | some (.msl sz es _ _) => { gen := 0, sz, arr := true, fz := false, es := some es }
      | some (.mptr sz es _ _) => { gen := 0, sz, arr := false, fz := false, es := some es }
      | _ => deadObj }
def exportCell (n : Nat) (σ : St) (c : V) : Option (V × List Nat) :=
  match c with
  | .sl r g off len => match (σ.O r).es with
    | some es => if (σ.O r).gen = g ∧ off + len ≤ es.length ∧ (σ.O r).arr = true ∧ V.arePure (window es off len) = true then
        if r < n then some (.sl r g off len, [r])
        else if (σ.O r).fz then some (.lit (σ.O r).sz (window es off len), []) else some (.own (σ.O r).sz (window es off len), [r])
      else none
    | none => none
  | c => if c.isPure then some (c, []) else none
def exportCells (n : Nat) (σ : St) : List V → Option (List V × List Nat)
  | [] => some ([], [])
  | c :: cs => match exportCell n σ c, exportCells n σ cs with
    | some (c', r), some (cs', rs) => some (c' :: cs', r ++ rs)
    | _, _ => none
def exportV (n : Nat) (σ : St) (v : V) : Option (V × List Nat) :=
  if v.isPure then some (v, []) else
  match v with
  | .agg cs => match exportCells n σ cs with
    | some (cs', rs) => some (.agg cs', rs)
    | none => none
  | .fn f cs => match exportCells n σ cs with
    | some (cs', rs) => if V.arePure cs' then some (.fn f cs', rs) else none
    | none => none
  | v => exportCell n σ v
def exportVs (n : Nat) (σ : St) : List V → Option (List V × List Nat)
  | [] => some ([], [])
  | c :: cs => match exportV n σ c, exportVs n σ cs with
    | some (c', r), some (cs', rs) => some (c' :: cs', r ++ rs)
    | _, _ => none
def resultOf (σ : St) : ARes → Option V
  | .tmp t => some (σ.T t)
  | .cell t agg sz => match σ.T t with
    | .ptr r g idx off => match (σ.O r).es with
      | some es => if (σ.O r).gen = g then match es[idx]? with
          | some e => part agg off sz e
          | none => none
        else none
      | none => none
    | _ => none
def resultsOf (σ : St) : List ARes → Option (List V)
  | [] => some []
  | r :: rs => match resultOf σ r, resultsOf σ rs with
    | some v, some vs => some (v :: vs)
    | _, _ => none
def outsOf (O : Nat → Obj) : Nat → List V → Option (List (Nat × List V))
  | _, [] => some []
  | i, .msl sz .. :: as | i, .mptr sz .. :: as => match (O i).es, outsOf O (i + 1) as with
    | some es, some outs => if (O i).fz = false ∧ (O i).sz = sz ∧ V.arePure es = true then some (((O i).gen, es) :: outs) else none
    | _, _ => none
  | i, _ :: as => outsOf O (i + 1) as
def leave (af : AFunc) (args : List V) (σ : St) : Option Res :=
  match resultsOf σ af.results, outsOf σ.O 0 args with
  | some vs, some outs => match exportVs args.length σ vs with
    | some ([v], rs) => if distinct rs then some ⟨v, outs⟩ else none
    | some (vs, rs) => if distinct rs then some ⟨.tuple vs, outs⟩ else none
    | none => none
  | _, _ => none
def callWith (E : Env) (rec : ACode → St → Option (AExit × St)) : Oracle := fun f args =>
  match E.ext f args with
  | some r => some r
  | none => match E.fn f with
    | some af => if args.length = af.nparams then match rec af.body (enter args) with
        | some (.normal, σ) | some (.ret, σ) => leave af args σ
        | _ => none
      else none
    | none => none
def exec (E : Env) : Nat → ACode → St → Option (AExit × St)
  | 0 => fun _ _ => none
  | n + 1 => execWith E (callWith E (exec E n)) (exec E n)
def call (E : Env) (n : Nat) : Oracle := callWith E (exec E n)
end Go.AM
