/-
  The translation of the model's code into that of the abstract machine: types become sizes and offsets, function numbers become names. Own work.
-/
import Derived.Test.YtnjbmkcbhnkggaaAmDefs
namespace Go.AM

structure Hints where
  modes : List (Option Nat) := []
  thaw : List Nat := []
  name : List (Nat × Nat) := []
  n : Nat := 0

structure TrEnv where
  P : Program
  fnum : FuncId → Option Nat
  tnum : TypeId → Option Nat

variable (X : TrEnv)

def constCell : Value → Option V
  | .bool b => some (.bool b)
  | .int k n => some (.int k n)
  | .float .f64 b => some (.float b)
  | .string s => some (.str s.data.toList)
  | .pointer none => some .nilp
  | .slice none 0 0 => some .nils
  | .nilFunc => some .nilfn
  | .nilIface => some .nili
  | _ => none
def constCells : List Value → Option (List V)
  | [] => some []
  | v :: vs => match constCell v, constCells vs with
    | some c, some cs => some (c :: cs)
    | _, _ => none
def constV : Value → Option V
  | .agg cs => (constCells cs.toList).map .agg
  | v => constCell v

def info (t : TypeId) : Option TypeInfo := X.P.info? t
def sizeT (t : TypeId) : Option Nat := (info X t).map (·.size)
def descT (t : TypeId) : Option TypeDesc := X.P.underlying t
def aggT (t : TypeId) : Option Bool := (descT X t).map fun | .struct _ => true | .array .. => true | _ => false
def zeroT (t : TypeId) : Option V := (info X t).bind fun i => i.zero.bind constV

def trO : Operand → Option AOpd
  | .tmp t => some (.tmp t)
  | .const v => (constV v).map .const
  | .func f => (X.fnum f).map fun n => .const (.fn n [])
  | .global _ => none
def trOs : List Operand → Option (List AOpd)
  | [] => some []
  | o :: os => match trO X o, trOs os with
    | some a, some as => some (a :: as)
    | _, _ => none
def trOo : Option Operand → Option (Option AOpd)
  | none => some none
  | some o => (trO X o).map some

mutual
/-- the kinds of the cells of a type whose values '==' compares place by place -/
def kindsT : Nat → TypeId → Option (List Nat)
  | 0, _ => none
  | d + 1, t => match descT X t with
    | some .bool => if sizeT X t = some 1 then some [0] else none
    | some (.int _) => if sizeT X t = some 1 then some [1] else none
    | some .string => if sizeT X t = some 1 then some [2] else none
    | some (.struct fs) => if X.P.stoodInHeld t = false then (match kindsF d fs.toList 0 with
        | some ks => if sizeT X t = some ks.length then some ks else none
        | none => none) else none
    | _ => none
def kindsF : Nat → List Field → Nat → Option (List Nat)
  | 0, _, _ => none
  | _ + 1, [], _ => some []
  | d + 1, f :: fs, off => if f.name ≠ "_" ∧ f.offset = off then match kindsT d f.type with
      | some ks => match kindsF d fs (off + ks.length) with
        | some ks' => some (ks ++ ks')
        | none => none
      | none => none
    else none
end

def trParts (place : Nat → Option (Nat × Nat)) : List (Nat × Operand) → Option (List (Nat × Nat × AOpd))
  | [] => some []
  | (i, o) :: ps => match place i, trO X o, trParts place ps with
    | some (off, sz), some a, some as => some ((off, sz, a) :: as)
    | _, _, _ => none
def trElems : List (Nat × Operand) → Option (List (Nat × AOpd))
  | [] => some []
  | (i, o) :: ps => match trO X o, trElems ps with
    | some a, some as => some ((i, a) :: as)
    | _, _ => none

def slotRef (t : Nat) : Nat := 16 * (t + 1)
def nameOf (h : Hints) (dst : Nat) : Nat := ((h.name.find? (·.1 == dst)).map (·.2)).getD (slotRef dst)

def limOf (bytes : Nat) : Nat := 140737488355328 / (bytes + 1) - 200

def trCall (h : Hints) (dst : Nat) (c : Call) : Option AOp :=
  match c.callee with
  | .value f => match trO X f, trOs X c.args.toList with
    | some f, some as => some (.call (slotRef dst) (h.thaw.contains dst) f as)
    | _, _ => none
  | .invoke .. => none
  | .builtin b => match b, c.args.toList, c.argTypes.toList with
    | .len, [x], [t] => match trO X x, descT X t with
      | some x, some (.slice _) => some (.len x)
      | some x, some .string => some (.lenStr x)
      | some _, some (.array n _) => some (.move (.const (.int .i64 n)))
      | _, _ => none
    | .min, xs, _ => (trOs X xs).map .min
    | .max, xs, _ => (trOs X xs).map .max
    | .append, [s, x], [t, t'] => match trO X s, trO X x, descT X t, descT X t' with
      | some s, some x, some (.slice e), some d => match sizeT X e, info X e, zeroT X e, d with
        | some sz, some i, some z, .slice _ | some sz, some i, some z, .string => if isBlank z sz then some (.append (nameOf h dst) sz (limOf i.bytes) s x) else none
        | _, _, _, _ => none
      | _, _, _, _ => none
    | .copy, [d, s], [t, _] => match trO X d, trO X s, descT X t with
      | some d, some s, some (.slice e) => (sizeT X e).map fun sz => .copy sz d s
      | _, _, _ => none
    | .clear, [x], [t] => match trO X x, descT X t with
      | some x, some (.slice e) => match sizeT X e, zeroT X e with
        | some sz, some z => some (.clear sz z x)
        | _, _ => none
      | _, _ => none
    | _, _, _ => none

def isEqOp : BinOp → Bool
  | .eql => true
  | .neq => true
  | _ => false
def isNeq : BinOp → Bool
  | .neq => true
  | _ => false
def trBin (op : BinOp) (t : TypeId) (x y : AOpd) : Option AOp :=
  if isEqOp op then match descT X t with
    | some .bool => some (.eqB (isNeq op) x y)
    | some (.int _) | some .string => some (.bin op x y)
    | some (.struct _) => if X.P.eqGuardType X.P.depth t = false then (kindsT X 100 t).map fun ks => .eqA (isNeq op) ks x y else none
    | _ => none
  else some (.bin op x y)

def trOp (h : Hints) (dst : Nat) : Op → Option AOp
  | .move x | .assign x => (trO X x).map .move
  | .pick c a b => match trO X c, trO X a, trO X b with
    | some c, some a, some b => some (.pick c a b)
    | _, _, _ => none
  | .alloc t => match sizeT X t, zeroT X t with
    | some sz, some z => some (.new (slotRef dst) sz (.const z))
    | _, _ => none
  | .box t x => match sizeT X t, trO X x with
    | some sz, some x => some (.new (slotRef dst) sz x)
    | _, _ => none
  | .build t ps => match zeroT X t, descT X t with
    | some (.agg z), some (.struct fs) => if !fs.toList.all (fun f => (sizeT X f.type).isSome) then none else (trParts X (fun i => match fs[i]? with | some f => (sizeT X f.type).map fun s => (f.offset, s) | none => none) ps.toList).map (.build z)
    | some (.agg z), some (.array _ e) => match sizeT X e with
      | some s => (trParts X (fun i => some (i * s, s)) ps.toList).map (.build z)
      | none => none
    | _, _ => none
  | .buildSlice t n ps => match descT X t with
    | some (.slice e) => match sizeT X e, zeroT X e, trElems X ps.toList with
      | some sz, some z, some as => some (.buildSlice (slotRef dst) sz z n as)
      | _, _, _ => none
    | _ => none
  | .load t x => match aggT X t, sizeT X t, trO X x with
    | some a, some sz, some x => some (.load a sz x)
    | _, _, _ => none
  | .store t x v => match aggT X t, sizeT X t, trO X x, trO X v with
    | some a, some sz, some x, some v => some (.store a sz x v)
    | _, _, _, _ => none
  | .nilCheck x => (trO X x).map .nilCheck
  | .binOp op t x y _ => match trO X x, trO X y with
    | some x, some y => trBin X op t x y
    | _, _ => none
  | .unOp op _ x => (trO X x).map (.un op)
  | .convert s d x => match descT X s, descT X d, trO X x with
    | some (.int _), some (.int k), some x => some (.convInt k x)
    | some (.int _), some (.float .f64), some x => some (.convIF x)
    | some (.float .f64), some (.int k), some x => some (.convFI k x)
    | some .string, some .string, some x => some (.convStr x)
    | _, _, _ => none
  | .makeInterface t x => match X.tnum t, trO X x, descT X t with
    | some _, some _, some (.interface _) => none
    | some n, some x, some _ => some (.mkIface n x)
    | _, _, _ => none
  | .typeAssert x _ t ok => match X.tnum t, trO X x, zeroT X t, descT X t with
    | some _, some _, some _, some (.interface _) => none
    | some n, some x, some z, some _ => some (.assert n ok z x)
    | _, _, _, _ => none
  | .makeFunc (.func f) first caps => if first.isEmpty then match X.fnum f, trOs X caps.toList with
      | some n, some cs => some (.mkFunc n cs)
      | _, _ => none
    else none
  | .makeSlice t l c => match descT X t with
    | some (.slice e) => match sizeT X e, info X e, zeroT X e, trO X l, trO X c with
      | some sz, some i, some z, some l, some c => some (.makeSlice (slotRef dst) sz i.bytes z l c)
      | _, _, _, _, _ => none
    | _ => none
  | .slice t x lo hi mx => match descT X t, trO X x, trOo X lo, trOo X hi, trOo X mx with
    | some (.slice e), some x, some lo, some hi, some mx => (sizeT X e).map fun sz => .slice sz x lo hi mx
    | some .string, some x, some lo, some hi, some none => some (.sliceStr x lo hi)
    | _, _, _, _, _ => none
  | .fieldAddr s x i => match descT X s, trO X x with
    | some (.struct fs), some x => match fs[i]? with
      | some f => match sizeT X f.type with
        | some (_ + 1) => some (.fieldAddr f.offset x)
        | _ => none
      | none => none
    | _, _ => none
  | .field s x i => match descT X s, trO X x with
    | some (.struct fs), some x => match fs[i]? with
      | some f => match aggT X f.type, sizeT X f.type with
        | some a, some sz => some (.field a f.offset sz x)
        | _, _ => none
      | none => none
    | _, _ => none
  | .indexAddr t x i => match descT X t, trO X x, trO X i with
    | some (.slice e), some x, some i => (sizeT X e).map fun sz => .indexAddr sz x i
    | some (.array n e), some x, some i => (sizeT X e).map fun sz => .indexArr n sz x i
    | _, _, _ => none
  | .index t x i => match descT X t, trO X x, trO X i with
    | some .string, some x, some i => some (.indexStr x i)
    | some (.array n e), some x, some i => match aggT X e, sizeT X e with
      | some a, some sz => some (.indexVal a n sz x i)
      | _, _ => none
    | _, _, _ => none
  | .extract x i => (trO X x).map fun x => .extract x i
  | .call c => trCall X h dst c
  | _ => none

def Op.noValue : Op → Bool
  | .store .. => true
  | _ => false

def trOper (h : Hints) (ops : Array Oper) (o : Oper) : Option AOper :=
  let g : Option (Option (Nat × Bool)) := match o.guard with
    | none => some none
    | some (j, want) => match (ops[j]?).bind (·.dst) with
      | some d => some (some (d, want))
      | none => none
  match g, o.dst.all (· < h.n) with
  | some g, true => some { dst := o.dst, op := (trOp X h (o.dst.getD 0) o.op).getD .bad, guard := g, pre := (o.after.toList.filter (Region.binds .any)).map (·.on) }
  | _, _ => none
def trOpers (h : Hints) (ops : Array Oper) : List Oper → Option (List AOper)
  | [] => some []
  | o :: os => match trOper X h ops o, trOpers h ops os with
    | some a, some as => some (a :: as)
    | _, _ => none

def trCode (h : Hints) : Code → Option ACode
  | .skip => some .skip
  | .region _ ops false => (trOpers X h ops ops.toList).map fun l => .region (l.map fun o => { o with pre := [] })
  | .region _ ops true => (trOpers X h ops ops.toList).map .drawn
  | .seq a b => match trCode h a, trCode h b with
    | some a, some b => some (.seq a b)
    | _, _ => none
  | .cond c a b => match trO X c, trCode h a, trCode h b with
    | some c, some a, some b => some (.cond c a b)
    | _, _, _ => none
  | .block id b => (trCode h b).map (.block id)
  | .loop b => (trCode h b).map .loop
  | .exit id => some (.exit id)
  | .ret => some .ret
  | .scope b => (trCode h b).map .scope
  | .label _ => some .skip
  | _ => some .bad

def trResult : ResultVar → Option ARes
  | .tmp t => some (.tmp t)
  | .cell a t => match aggT X t, sizeT X t with
    | some g, some sz => some (.cell a g sz)
    | _, _ => none
def trResults : List ResultVar → Option (List ARes)
  | [] => some []
  | r :: rs => match trResult X r, trResults rs with
    | some a, some as => some (a :: as)
    | _, _ => none

def trFunc (h : Hints) (f : Func) : Option AFunc :=
  match f.body with
  | none => none
  | some b => match trCode X { h with n := f.ntmps } b, trResults X f.results.toList with
    | some c, some rs => some { nparams := f.params.size + f.nfree, ntmps := f.ntmps, modes := h.modes, results := rs, body := c }
    | _, _ => none

end Go.AM
