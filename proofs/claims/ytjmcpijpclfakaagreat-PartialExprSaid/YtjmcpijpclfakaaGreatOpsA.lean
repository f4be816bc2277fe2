/-
  Texts of the proof, joined by program: AmTr, AmRel, AmObj, AmOps1, AmEq, AmOps2, AmOps3, AmOps4, AmRow, AmOps5, AmOps6, AmOps7. Own work.
-/
import Derived.Test.YtjmcpijpclfakaaGreatDefs
import Derived.Calls
import Derived.Orders
import Derived.Below
import Derived.Laws.Cells
import Derived.Laws.Rows
import Derived.Laws.Tables
import Derived.Laws.CopyRow
import Derived.ChangeKeysEq
import Derived.Laws.StructEq
import Derived.IntWalk
set_option linter.unusedSimpArgs false
set_option linter.unusedVariables false
namespace Go.AM
structure Hints where
 modes : List (Option Nat) := []
 thaw : List Nat := []
 name : List (Nat × Nat) := []
 lits : List (Nat × List Nat) := []
 bufs : List (Nat × Nat × Nat) := []
 rens : List (Nat × Nat × Nat) := []
 dyn : List (Nat × Nat) := []
 keep : List Nat := []
 deep : List Nat := []
 frzm : List Nat := []
 n : Nat := 0
structure TrEnv where
 P : Program
 fnum : FuncId → Option Nat
 tnum : TypeId → Option Nat
variable (X : TrEnv)
def constCell : Value → Option V
 | .bool b => some (.bool b)
 | .int k n => some (.int k n)
 | .float .f64 b => some (.float b)
 | .string s => some (.str s.data.toList)
 | .pointer none => some .nilp
 | .slice none 0 0 => some .nils
 | .map none => some (.mlit [])
 | .nilFunc => some .nilfn
 | .nilIface => some .nili
 | _ => none
def constCells : List Value → Option (List V)
 | [] => some []
 | v :: vs => match constCell v, constCells vs with
  | some c, some cs => some (c :: cs)
  | _, _ => none
def constV : Value → Option V
 | .agg cs => (constCells cs.toList).map .agg
 | v => constCell v
def info (t : TypeId) : Option TypeInfo := X.P.info? t
def sizeT (t : TypeId) : Option Nat := (info X t).map (·.size)
def descT (t : TypeId) : Option TypeDesc := X.P.underlying t
def aggT (t : TypeId) : Option Bool := (descT X t).map fun | .struct _ => true | .array .. => true | _ => false
def zeroT (t : TypeId) : Option V := (info X t).bind fun i => i.zero.bind constV
def trO : Operand → Option AOpd
 | .tmp t => some (.tmp t)
 | .const v => (constV v).map .const
 | .func f => (X.fnum f).map fun n => .const (.fn n [])
 | .global _ => none
def trOs : List Operand → Option (List AOpd)
 | [] => some []
 | o :: os => match trO X o, trOs os with
  | some a, some as => some (a :: as)
  | _, _ => none
def trOo : Option Operand → Option (Option AOpd)
 | none => some none
 | some o => (trO X o).map some
mutual
def kindsT : Nat → TypeId → Option (List Nat)
 | 0, _ => none
 | d + 1, t => match descT X t with
  | some .bool => if sizeT X t = some 1 then some [0] else none
  | some (.int _) => if sizeT X t = some 1 then some [1] else none
  | some .string => if sizeT X t = some 1 then some [2] else none
  | some (.struct fs) => if X.P.stoodInHeld t = false then (match kindsF d fs.toList 0 with
    | some ks => if sizeT X t = some ks.length then some ks else none
    | none => none) else none
  | _ => none
def kindsF : Nat → List Field → Nat → Option (List Nat)
 | 0, _, _ => none
 | _ + 1, [], _ => some []
 | d + 1, f :: fs, off => if f.name ≠ "_" ∧ f.offset = off then match kindsT d f.type with
   | some ks => match kindsF d fs (off + ks.length) with
    | some ks' => some (ks ++ ks')
    | none => none
   | none => none
  else none
end
def trParts (place : Nat → Option (Nat × Nat)) : List (Nat × Operand) → Option (List (Nat × Nat × AOpd))
 | [] => some []
 | (i, o) :: ps => match place i, trO X o, trParts place ps with
  | some (off, sz), some a, some as => some ((off, sz, a) :: as)
  | _, _, _ => none
def trElems : List (Nat × Operand) → Option (List (Nat × AOpd))
 | [] => some []
 | (i, o) :: ps => match trO X o, trElems ps with
  | some a, some as => some ((i, a) :: as)
  | _, _ => none
def slotRef (t : Nat) : Nat := 16 * (t + 1)
def nameOf (h : Hints) (dst : Nat) : Nat := ((h.name.find? (·.1 == dst)).map (·.2)).getD (slotRef dst)
def wkO (ks : List Nat) : AOpd → AOpd
 | .const v => .const (wkV ks v)
 | x => x
def dynOf (h : Hints) (dst : Nat) : Option Nat := (h.dyn.find? (·.1 == dst)).map (·.2)
def litsOf (h : Hints) (dst : Nat) : List Nat := ((h.lits.find? (·.1 == dst)).map (·.2)).getD []
def bufOf (h : Hints) (dst : Nat) : Option (Nat × Nat) := (h.bufs.find? (·.1 == dst)).map (·.2)
def isNil : Operand → Bool
 | .const (.slice none 0 0) => true
 | _ => false
def renOf (h : Hints) (dst : Nat) (x : Operand) : Option Nat := match x with
 | .tmp t => (h.rens.find? (fun p => p.1 == dst && p.2.1 == t)).map (·.2.2)
 | _ => none
def trMove (h : Hints) (dst : Nat) (x : Operand) : Option AOp :=
 match isNil x, bufOf h dst with
 | true, some (r, sz) => some (.emptyBuf r sz)
 | _, _ => match renOf h dst x with
  | some r => (trO X x).map fun y => .ren r y
  | none => (trO X x).map fun y => .move (wkO (litsOf h dst) y)
def limOf (bytes : Nat) : Nat := 140737488355328 / (bytes + 1) - 200
def trCall (h : Hints) (dst : Nat) (c : Call) : Option AOp :=
 match c.callee with
 | .value f => match trO X f, trOs X c.args.toList with
  | some f, some as => some (.call (slotRef dst) (h.thaw.contains dst) f as)
  | _, _ => none
 | .invoke .. => none
 | .builtin b => match b, c.args.toList, c.argTypes.toList with
  | .len, [x], [t] => match trO X x, descT X t with
   | some x, some (.slice _) => some (.len x)
   | some x, some .string => some (.lenStr x)
   | some _, some (.array n _) => some (.move (.const (.int .i64 n)))
   | _, _ => none
  | .min, xs, _ => (trOs X xs).map .min
  | .max, xs, _ => (trOs X xs).map .max
  | .append, [s, x], [t, t'] => match trO X s, trO X x, descT X t, descT X t' with
   | some s, some x, some (.slice e), some d => match sizeT X e, info X e, zeroT X e, d with
    | some sz, some i, some z, .slice _ | some sz, some i, some z, .string => if isBlank z sz then some (if h.keep.contains dst then .appendK (nameOf h dst) sz (limOf i.bytes) s x else .append (nameOf h dst) sz (limOf i.bytes) s x) else none
    | _, _, _, _ => none
   | _, _, _, _ => none
  | .copy, [d, s], [t, _] => match trO X d, trO X s, descT X t with
   | some d, some s, some (.slice e) => (sizeT X e).map fun sz => .copy sz d s
   | _, _, _ => none
  | .clear, [x], [t] => match trO X x, descT X t with
   | some x, some (.slice e) => match sizeT X e, zeroT X e with
    | some sz, some z => some (.clear sz z x)
    | _, _ => none
   | _, _ => none
  | _, _, _ => none
def isEqOp : BinOp → Bool
 | .eql => true
 | .neq => true
 | _ => false
def isNeq : BinOp → Bool
 | .neq => true
 | _ => false
def ifKinds : List (Nat × Nat) := (List.range 40).filterMap fun T => match X.tnum T, (X.P.info? T).map (·.comparable), descT X T with
 | some t, some true, some .bool => some (t, 0)
 | some t, some true, some (.int _) => some (t, 1)
 | some t, some true, some .string => some (t, 2)
 | _, _, _ => none
def trBin (op : BinOp) (t : TypeId) (x y : AOpd) : Option AOp :=
 if isEqOp op then match descT X t with
  | some .bool => some (.eqB (isNeq op) x y)
  | some (.int _) | some .string => some (.bin op x y)
  | some (.interface _) => some (.eqI (isNeq op) (ifKinds X) x y)
  | some (.struct _) => if X.P.eqGuardType X.P.depth t = false then (kindsT X 100 t).map fun ks => .eqA (isNeq op) ks x y else none
  | _ => none
 else some (.bin op x y)
def keyKind (kt : TypeId) : Option (Option IntKind) := match descT X kt with
 | some (.int k) => some (some k)
 | some .string => some none
 | _ => none
def trOp (h : Hints) (dst : Nat) : Op → Option AOp
 | .move x | .assign x => if h.deep.contains dst then (trO X x).map .deep else if h.frzm.contains dst then (trO X x).map .frzM else trMove X h dst x
 | .pick c a b => match trO X c, trO X a, trO X b with
  | some c, some a, some b => some (.pick c a b)
  | _, _, _ => none
 | .alloc t => match sizeT X t, zeroT X t with
  | some sz, some z => some (.new (slotRef dst) sz (.const (wkV (litsOf h dst) z)))
  | _, _ => none
 | .box t x => match sizeT X t, trO X x with
  | some sz, some x => some (.new (slotRef dst) sz (wkO (litsOf h dst) x))
  | _, _ => none
 | .build t ps => match zeroT X t, descT X t with
  | some (.agg z), some (.struct fs) => if !fs.toList.all (fun f => (sizeT X f.type).isSome) then none else (trParts X (fun i => match fs[i]? with | some f => (sizeT X f.type).map fun s => (f.offset, s) | none => none) ps.toList).map (.build (wkC (litsOf h dst) z))
  | some (.agg z), some (.array _ e) => match sizeT X e with
   | some s => (trParts X (fun i => some (i * s, s)) ps.toList).map (.build (wkC (litsOf h dst) z))
   | none => none
  | _, _ => none
 | .buildSlice t n ps => match descT X t with
  | some (.slice e) => match sizeT X e, zeroT X e, trElems X ps.toList with
   | some sz, some z, some as => some (match dynOf h dst with | some ix => .buildSliceD ix (16000000 + slotRef dst) sz z n as | none => if h.keep.contains dst then .buildSliceK (slotRef dst) sz z n as else .buildSlice (slotRef dst) sz z n as)
   | _, _, _ => none
  | _ => none
 | .load t x => match aggT X t, sizeT X t, trO X x with
  | some a, some sz, some x => some (if (litsOf h dst).isEmpty then .load a sz x else .loadW (litsOf h dst) a sz x)
  | _, _, _ => none
 | .store t x v => match aggT X t, sizeT X t, trO X x, trO X v with
  | some a, some sz, some x, some v => some (.store a sz x v)
  | _, _, _, _ => none
 | .nilCheck x => (trO X x).map .nilCheck
 | .binOp op t x y _ => match trO X x, trO X y with
  | some x, some y => trBin X op t x y
  | _, _ => none
 | .unOp op _ x => (trO X x).map (.un op)
 | .convert s d x => match descT X s, descT X d, trO X x with
  | some (.int _), some (.int k), some x => some (.convInt k x)
  | some (.int _), some (.float .f64), some x => some (.convIF x)
  | some (.float .f64), some (.int k), some x => some (.convFI k x)
  | some .string, some .string, some x => some (.convStr x)
  | _, _, _ => none
 | .makeInterface t x => match X.tnum t, trO X x, descT X t with
  | some _, some _, some (.interface _) => none
  | some n, some x, some _ => some (.mkIface n x)
  | _, _, _ => none
 | .typeAssert x _ t ok => match X.tnum t, trO X x, zeroT X t, descT X t with
  | some _, some _, some _, some (.interface _) => none
  | some n, some x, some z, some _ => some (.assert n ok z x)
  | _, _, _, _ => none
 | .makeFunc (.func f) first caps => if first.isEmpty then match X.fnum f, trOs X caps.toList with
   | some n, some cs => some (.mkFunc n cs)
   | _, _ => none
  else none
 | .makeSlice t l c => match descT X t with
  | some (.slice e) => match sizeT X e, info X e, zeroT X e, trO X l, trO X c with
   | some sz, some i, some z, some l, some c => some (.makeSlice (slotRef dst) sz i.bytes z l c)
   | _, _, _, _, _ => none
  | _ => none
 | .slice t x lo hi mx => match descT X t, trO X x, trOo X lo, trOo X hi, trOo X mx with
  | some (.slice e), some x, some lo, some hi, some mx => (sizeT X e).map fun sz => .slice sz x lo hi mx
  | some .string, some x, some lo, some hi, some none => some (.sliceStr x lo hi)
  | _, _, _, _, _ => none
 | .fieldAddr s x i => match descT X s, trO X x with
  | some (.struct fs), some x => match fs[i]? with
   | some f => match sizeT X f.type with
    | some (_ + 1) => some (.fieldAddr f.offset x)
    | _ => none
   | none => none
  | _, _ => none
 | .field s x i => match descT X s, trO X x with
  | some (.struct fs), some x => match fs[i]? with
   | some f => match aggT X f.type, sizeT X f.type with
    | some a, some sz => some (.field a f.offset sz x)
    | _, _ => none
   | none => none
  | _, _ => none
 | .indexAddr t x i => match descT X t, trO X x, trO X i with
  | some (.slice e), some x, some i => (sizeT X e).map fun sz => .indexAddr sz x i
  | some (.array n e), some x, some i => (sizeT X e).map fun sz => .indexArr n sz x i
  | _, _, _ => none
 | .index t x i => match descT X t, trO X x, trO X i with
  | some .string, some x, some i => some (.indexStr x i)
  | some (.array n e), some x, some i => match aggT X e, sizeT X e with
   | some a, some sz => some (.indexVal a n sz x i)
   | _, _ => none
  | _, _, _ => none
 | .extract x i => (trO X x).map fun x => .extract x i
 | .makeMap _ none => some (.mkMap (slotRef dst))
 | .range t x => match descT X t, trO X x with
  | some .string, some x => some (.strIter (slotRef dst) x)
  | _, _ => none
 | .next x true => (trO X x).map .strNext
 | .lookup t x i ok => match descT X t, trO X x, trO X i with
  | some (.map kt et), some x, some i => match keyKind X kt, zeroT X et with
   | some q, some z => some (.mapGet q ok z x i)
   | _, _ => none
  | _, _, _ => none
 | .mapUpdate t m k v => match descT X t, trO X m, trO X k, trO X v with
  | some (.map kt _), some m, some k, some v => (keyKind X kt).map fun q => .mapUpd q m k v
  | _, _, _, _ => none
 | .insert t m k v => match descT X t, trO X m, trO X k, trO X v with
  | some (.map kt _), some m, some k, some v => (keyKind X kt).map fun q => .mapUpd q m k v
  | _, _, _, _ => none
 | .call c => trCall X h dst c
 | _ => none
def trOper (h : Hints) (ops : Array Oper) (o : Oper) : Option AOper :=
 let g : Option (Option (Nat × Bool)) := match o.guard with
  | none => some none
  | some (j, want) => match (ops[j]?).bind (·.dst) with
   | some d => some (some (d, want))
   | none => none
 match g, o.dst.all (· < h.n) with
 | some g, true => some { dst := o.dst, op := (trOp X h (o.dst.getD 0) o.op).getD .bad, guard := g, pre := (o.after.toList.filter (Region.binds .any)).map (·.on) }
 | _, _ => none
def trOpers (h : Hints) (ops : Array Oper) : List Oper → Option (List AOper)
 | [] => some []
 | o :: os => match trOper X h ops o, trOpers h ops os with
  | some a, some as => some (a :: as)
  | _, _ => none
def trCode (h : Hints) : Code → Option ACode
 | .skip => some .skip
 | .region _ ops false => (trOpers X h ops ops.toList).map fun l => .region (l.map fun o => { o with pre := [] })
 | .region _ ops true => (trOpers X h ops ops.toList).map .drawn
 | .seq a b => match trCode h a, trCode h b with
  | some a, some b => some (.seq a b)
  | _, _ => none
 | .cond c a b => match trO X c, trCode h a, trCode h b with
  | some c, some a, some b => some (.cond c a b)
  | _, _, _ => none
 | .block id b => (trCode h b).map (.block id)
 | .loop b => (trCode h b).map .loop
 | .exit id => some (.exit id)
 | .ret => some .ret
 | .scope b => (trCode h b).map .scope
 | .label _ => some .skip
 | _ => some .bad
def trResult : ResultVar → Option ARes
 | .tmp t => some (.tmp t)
 | .cell a t => match aggT X t, sizeT X t with
  | some g, some sz => some (.cell a g sz)
  | _, _ => none
def trResults : List ResultVar → Option (List ARes)
 | [] => some []
 | r :: rs => match trResult X r, trResults rs with
  | some a, some as => some (a :: as)
  | _, _ => none
def trFunc (h : Hints) (f : Func) : Option AFunc :=
 match f.body with
 | none => none
 | some b => match trCode X { h with n := f.ntmps } b, trResults X f.results.toList with
  | some c, some rs => some { nparams := f.params.size + f.nfree, ntmps := f.ntmps, modes := h.modes, results := rs, body := c }
  | _, _ => none
end Go.AM
namespace Go.AM
open Go Go.RowKit
structure Ctx extends TrEnv where
 ban : Nat → Prop
instance : CoeOut Ctx TrEnv := ⟨Ctx.toTrEnv⟩
structure Row where
 blk : Nat
 base : Nat
 cap : Nat
structure Mu where
 w : World
 φ : Nat → Row
 O : Nat → Obj
def Mu.own (μ : Mu) (b : Nat) : Prop := ∃ r, (μ.O r).es.isSome = true ∧ (μ.O r).fz = false ∧ (μ.φ r).cap ≠ 0 ∧ (μ.φ r).blk = b
def Own (X : Ctx) (μ : Mu) (b : Nat) : Prop := μ.own b ∨ X.ban b
def RowAt (w : World) (b off sz : Nat) (vs : List Value) : Prop :=
 ∀ i v, vs[i]? = some v → v.cells.size = sz ∧ ∀ j c, v.cells[j]? = some c → w.cell? ⟨b, off + i * sz + j, none⟩ = some c
section
variable (X : Ctx) (μ : Mu)
mutual
def VRel : V → Value → Prop
 | .bool b, v => v = .bool b
 | .int k n, v => v = .int k n
 | .float b, v => v = .float .f64 b
 | .str s, v => ∃ bs : ByteArray, v = .string bs ∧ bs.data.toList = s
 | .agg cs, v => cs.all V.isCell = true ∧ ∃ vs, v = .agg vs ∧ VRels cs vs.toList
 | .tuple cs, v => ∃ vs, v = .tuple vs ∧ VRels cs vs.toList
 | .nilp, v => v = .pointer none
 | .nilfn, v => v = .nilFunc
 | .nili, v => v = .nilIface
 | .fn f caps, v => ∃ F cv, v = .func (.func F) #[] cv ∧ X.fnum F = some f ∧ VRels caps cv.toList
 | .iface t x, v => ∃ T y, v = .iface T y ∧ X.tnum T = some t ∧ VRel x y
 | .nils, v => ∃ a, v = .slice a 0 0
 | .lit sz xs, v => V.arePure xs = true ∧ xs.all V.lies = true ∧ ∃ a cap vs, v = .slice a xs.length cap ∧ xs.length ≤ cap ∧ VRels xs vs ∧
   (xs = [] ∨ ∃ b o, a = some ⟨b, o, none⟩ ∧ ¬ Own X μ b ∧ b < μ.w.heap.size ∧ RowAt μ.w b o sz vs)
 | .own .., _ => False
 | .sl r g off len, v => ∃ a cap, v = .slice a len cap ∧ len ≤ cap ∧ g ≤ (μ.O r).gen ∧
   ((μ.O r).gen = g → 0 < (μ.O r).sz ∧ cap + off = (μ.φ r).cap ∧ (cap = 0 ∨ a = some ⟨(μ.φ r).blk, (μ.φ r).base + off * (μ.O r).sz, none⟩))
 | .ptr r g idx off, v => ∃ a, v = .pointer (some a) ∧ g ≤ (μ.O r).gen ∧
   ((μ.O r).gen = g → 0 < (μ.O r).sz ∧ a = ⟨(μ.φ r).blk, (μ.φ r).base + idx * (μ.O r).sz + off, none⟩)
 | .eptr e off, v => V.isPure e = true ∧ V.lies e = true ∧ ∃ b o sz x, v = .pointer (some ⟨b, o + off, none⟩) ∧ ¬ Own X μ b ∧ b < μ.w.heap.size ∧ VRel e x ∧ RowAt μ.w b o sz [x]
 | .mp r g, v => ∃ a, v = .map (some a) ∧ g ≤ (μ.O r).gen ∧ ((μ.O r).gen = g → (μ.O r).sz = 0 ∧ a = (μ.φ r).blk)
 | .mlit es, v => V.arePure es = true ∧ (es = [] ∧ v = .map none ∨ ∃ a ents clock, v = .map (some a) ∧ ¬ Own X μ a ∧ a < μ.w.heap.size ∧ μ.w.heap[a]? = some (.map ents clock) ∧
   VRels es (ents.toList.map fun e => .tuple #[e.key, e.val]))
 | .it r g, v => ∃ a, v = .pointer (some ⟨a, 0, none⟩) ∧ g ≤ (μ.O r).gen ∧ ((μ.O r).gen = g → (μ.O r).sz = 0 ∧ a = (μ.φ r).blk)
 | .msl .., _ => False
 | .mptr .., _ => False
 | .any, _ => True
def VRels : List V → List Value → Prop
 | [], [] => True
 | x :: xs, v :: vs => VRel x v ∧ VRels xs vs
 | _, _ => False
end
end
theorem VRels.length {X : Ctx} {μ : Mu} : ∀ {xs : List V} {vs : List Value}, VRels X μ xs vs → xs.length = vs.length
 | [], [], _ => rfl
 | [], _ :: _, h => by simp [VRels] at h
 | _ :: _, [], h => by simp [VRels] at h
 | _ :: _, _ :: _, h => by simp only [VRels] at h; simp [VRels.length h.2]
theorem VRels.get {X : Ctx} {μ : Mu} : ∀ {xs : List V} {vs : List Value}, VRels X μ xs vs → ∀ {i : Nat} {x : V}, xs[i]? = some x → ∃ v, vs[i]? = some v ∧ VRel X μ x v
 | [], _, _, i, x, hx => by simp at hx
 | _ :: _, [], h, _, _, _ => by simp [VRels] at h
 | y :: ys, v :: vs, h, i, x, hx => by
  simp only [VRels] at h
  cases i with
  | zero => simp at hx; subst hx; exact ⟨v, by simp, h.1⟩
  | succ i => simp at hx; simpa using VRels.get h.2 hx
theorem VRels.of_get {X : Ctx} {μ : Mu} : ∀ {xs : List V} {vs : List Value}, xs.length = vs.length → (∀ (i : Nat) (x : V) (v : Value), xs[i]? = some x → vs[i]? = some v → VRel X μ x v) → VRels X μ xs vs
 | [], [], _, _ => by simp [VRels]
 | [], _ :: _, h, _ => by simp at h
 | _ :: _, [], h, _ => by simp at h
 | x :: xs, v :: vs, h, hg => by
  simp only [VRels]
  exact ⟨hg 0 x v (by simp) (by simp), VRels.of_get (by simpa using h) fun i y u hy hu => hg (i + 1) y u (by simpa using hy) (by simpa using hu)⟩
theorem VRels.append {X : Ctx} {μ : Mu} : ∀ {xs ys : List V} {vs us : List Value}, VRels X μ xs vs → VRels X μ ys us → VRels X μ (xs ++ ys) (vs ++ us)
 | [], _, [], _, _, h => by simpa using h
 | [], _, _ :: _, _, h, _ => by simp [VRels] at h
 | _ :: _, _, [], _, h, _ => by simp [VRels] at h
 | x :: xs, ys, v :: vs, us, h, h' => by
  simp only [VRels] at h
  simp only [List.cons_append, VRels]
  exact ⟨h.1, VRels.append h.2 h'⟩
theorem VRels.take {X : Ctx} {μ : Mu} : ∀ {xs : List V} {vs : List Value} (n : Nat), VRels X μ xs vs → VRels X μ (xs.take n) (vs.take n)
 | _, _, 0, _ => by simp [VRels]
 | [], [], n + 1, _ => by simp [VRels]
 | [], _ :: _, n + 1, h => by simp [VRels] at h
 | _ :: _, [], n + 1, h => by simp [VRels] at h
 | x :: xs, v :: vs, n + 1, h => by
  simp only [VRels] at h
  simp only [List.take_succ_cons, VRels]
  exact ⟨h.1, VRels.take n h.2⟩
theorem VRels.drop {X : Ctx} {μ : Mu} : ∀ {xs : List V} {vs : List Value} (n : Nat), VRels X μ xs vs → VRels X μ (xs.drop n) (vs.drop n)
 | _, _, 0, h => by simpa using h
 | [], [], n + 1, _ => by simp [VRels]
 | [], _ :: _, n + 1, h => by simp [VRels] at h
 | _ :: _, [], n + 1, h => by simp [VRels] at h
 | x :: xs, v :: vs, n + 1, h => by
  simp only [VRels] at h
  simpa using VRels.drop n h.2
theorem VRels.set {X : Ctx} {μ : Mu} {xs : List V} {vs : List Value} (h : VRels X μ xs vs) (i : Nat) {x : V} {v : Value} (hx : VRel X μ x v) : VRels X μ (xs.set i x) (vs.set i v) := by
 refine VRels.of_get (by simpa using h.length) fun j y u hy hu => ?_
 rw [List.getElem?_set] at hy hu
 split at hy
 ·rename_i e
  subst e
  by_cases hl : i < xs.length
  ·have hl' : i < vs.length := by rw [← h.length]; exact hl
   simp [hl] at hy; simp [hl'] at hu
   subst hy hu; exact hx
  ·simp [hl] at hy
 ·rename_i e
  simp [e] at hu
  obtain ⟨u', hu', hr⟩ := h.get hy
  rw [hu] at hu'; injection hu' with hu'; subst hu'; exact hr
structure Le (μ μ' : Mu) : Prop where
 size : μ.w.heap.size ≤ μ'.w.heap.size
 keep : ∀ b, b < μ.w.heap.size → ¬ μ.own b → μ'.w.heap[b]? = μ.w.heap[b]? ∧ ¬ μ'.own b
 gen : ∀ r, (μ.O r).gen ≤ (μ'.O r).gen
 row : ∀ r, (μ'.O r).gen = (μ.O r).gen → μ'.φ r = μ.φ r ∧ (μ'.O r).sz = (μ.O r).sz
 os : μ'.w.os = μ.w.os
 output : μ'.w.output = μ.w.output
 tape : μ'.w.tape = μ.w.tape
 frozen : ∀ a : Addr, a.block < μ.w.heap.size → μ'.w.frozen? a = μ.w.frozen? a
 fresh : ∀ a : Addr, μ.w.heap.size ≤ a.block → μ'.w.frozen? a = false
theorem frozen_out {w : World} {a : Addr} (h : w.heap.size ≤ a.block) : w.frozen? a = false := by
 simp [World.frozen?, Array.getElem?_eq_none h]
theorem Le.refl (μ : Mu) : Le μ μ :=
 ⟨Nat.le_refl _, fun _ _ h => ⟨rfl, h⟩, fun _ => Nat.le_refl _, fun _ _ => ⟨rfl, rfl⟩, rfl, rfl, rfl, fun _ _ => rfl, fun _ h => frozen_out h⟩
theorem Le.trans {a b c : Mu} (h : Le a b) (k : Le b c) : Le a c where
 size := Nat.le_trans h.size k.size
 keep := fun i hi ho => by
  obtain ⟨h1, h2⟩ := h.keep i hi ho
  obtain ⟨k1, k2⟩ := k.keep i (Nat.lt_of_lt_of_le hi h.size) h2
  exact ⟨k1.trans h1, k2⟩
 gen := fun r => Nat.le_trans (h.gen r) (k.gen r)
 row := fun r e => by
  have h1 := h.gen r
  have k1 := k.gen r
  obtain ⟨a1, a2⟩ := h.row r (by omega)
  obtain ⟨b1, b2⟩ := k.row r (by omega)
  exact ⟨b1.trans a1, b2.trans a2⟩
 os := k.os.trans h.os
 output := k.output.trans h.output
 tape := k.tape.trans h.tape
 frozen := fun x hx => (k.frozen x (Nat.lt_of_lt_of_le hx h.size)).trans (h.frozen x hx)
 fresh := fun x hx => by
  by_cases hb : b.w.heap.size ≤ x.block
  ·exact k.fresh x hb
  ·rw [k.frozen x (by omega)]; exact h.fresh x hx
theorem RowAt.keep {w w' : World} {b off sz : Nat} {vs : List Value} (h : RowAt w b off sz vs) (e : w'.heap[b]? = w.heap[b]?) : RowAt w' b off sz vs := by
 intro i v hv
 obtain ⟨h1, h2⟩ := h i v hv
 refine ⟨h1, fun j c hc => ?_⟩
 rw [← h2 j c hc]
 simp [World.cell?, e]
mutual
theorem VRel.mono {X : Ctx} {μ μ' : Mu} (le : Le μ μ') : ∀ {x : V} {v : Value}, VRel X μ x v → VRel X μ' x v
 | .bool _, _, h | .int .., _, h | .float _, _, h | .str _, _, h | .nilp, _, h | .nilfn, _, h | .nili, _, h | .nils, _, h => by simpa [VRel] using h
 | .any, _, _ => by simp [VRel]
 | .own .., _, h | .msl .., _, h | .mptr .., _, h => by simp [VRel] at h
 | .agg cs, _, h => by
  simp only [VRel] at h ⊢
  obtain ⟨h1, vs, rfl, h2⟩ := h
  exact ⟨h1, vs, rfl, VRels.mono le h2⟩
 | .tuple cs, _, h => by
  simp only [VRel] at h ⊢
  obtain ⟨vs, rfl, h2⟩ := h
  exact ⟨vs, rfl, VRels.mono le h2⟩
 | .fn f cs, _, h => by
  simp only [VRel] at h ⊢
  obtain ⟨F, cv, rfl, h1, h2⟩ := h
  exact ⟨F, cv, rfl, h1, VRels.mono le h2⟩
 | .iface t x, _, h => by
  simp only [VRel] at h ⊢
  obtain ⟨T, y, rfl, h1, h2⟩ := h
  exact ⟨T, y, rfl, h1, VRel.mono le h2⟩
 | .lit sz xs, _, h => by
  simp only [VRel] at h ⊢
  obtain ⟨h0, h0', a, cap, vs, rfl, h1, h2, h3⟩ := h
  refine ⟨h0, h0', a, cap, vs, rfl, h1, VRels.mono le h2, h3.imp id ?_⟩
  rintro ⟨b, o, rfl, hb, hs, hr⟩
  obtain ⟨k1, k2⟩ := le.keep b hs (fun h => hb (.inl h))
  exact ⟨b, o, rfl, (fun h => h.elim k2 fun h => hb (.inr h)), Nat.lt_of_lt_of_le hs le.size, hr.keep k1⟩
 | .sl r g off len, _, h => by
  simp only [VRel] at h ⊢
  obtain ⟨a, cap, rfl, h1, h2, h3⟩ := h
  have hg := le.gen r
  refine ⟨a, cap, rfl, h1, by omega, fun e => ?_⟩
  obtain ⟨e1, e2⟩ := le.row r (by omega)
  rw [e1, e2]; exact h3 (by omega)
 | .ptr r g idx off, _, h => by
  simp only [VRel] at h ⊢
  obtain ⟨a, rfl, h2, h3⟩ := h
  have hg := le.gen r
  refine ⟨a, rfl, by omega, fun e => ?_⟩
  obtain ⟨e1, e2⟩ := le.row r (by omega)
  rw [e1, e2]; exact h3 (by omega)
 | .eptr e off, _, h => by
  simp only [VRel] at h ⊢
  obtain ⟨h0, h0', b, o, sz, x, rfl, hb, hs, h1, hr⟩ := h
  obtain ⟨k1, k2⟩ := le.keep b hs (fun h => hb (.inl h))
  exact ⟨h0, h0', b, o, sz, x, rfl, (fun h => h.elim k2 fun h => hb (.inr h)), Nat.lt_of_lt_of_le hs le.size, VRel.mono le h1, hr.keep k1⟩
 | .mp r g, _, h => by
  simp only [VRel] at h ⊢
  obtain ⟨a, rfl, h2, h3⟩ := h
  have hg := le.gen r
  refine ⟨a, rfl, by omega, fun e => ?_⟩
  obtain ⟨e1, e2⟩ := le.row r (by omega)
  rw [e1, e2]; exact h3 (by omega)
 | .it r g, _, h => by
  simp only [VRel] at h ⊢
  obtain ⟨a, rfl, h2, h3⟩ := h
  have hg := le.gen r
  refine ⟨a, rfl, by omega, fun e => ?_⟩
  obtain ⟨e1, e2⟩ := le.row r (by omega)
  rw [e1, e2]; exact h3 (by omega)
 | .mlit es, _, h => by
  simp only [VRel] at h ⊢
  obtain ⟨h0, h⟩ := h
  refine ⟨h0, h.imp id ?_⟩
  rintro ⟨a, ents, clock, rfl, hb, hs, h1, h2⟩
  obtain ⟨k1, k2⟩ := le.keep a hs (fun h => hb (.inl h))
  exact ⟨a, ents, clock, rfl, (fun h => h.elim k2 fun h => hb (.inr h)), Nat.lt_of_lt_of_le hs le.size, by rw [k1]; exact h1, VRels.mono le h2⟩
theorem VRels.mono {X : Ctx} {μ μ' : Mu} (le : Le μ μ') : ∀ {xs : List V} {vs : List Value}, VRels X μ xs vs → VRels X μ' xs vs
 | [], [], _ => by simp [VRels]
 | [], _ :: _, h => by simp [VRels] at h
 | _ :: _, [], h => by simp [VRels] at h
 | x :: xs, v :: vs, h => by
  simp only [VRels] at h ⊢
  exact ⟨VRel.mono le h.1, VRels.mono le h.2⟩
end
def RowOk (X : Ctx) (μ : Mu) (r : Nat) (es : List V) : Prop := 0 < (μ.O r).sz ∧ es.length ≤ (μ.φ r).cap ∧ es.all (isBlank · (μ.O r).sz) = true ∧
 ((μ.φ r).cap = 0 ∨ ∃ c T vs, μ.w.heap[(μ.φ r).blk]? = some (.cells c T (0, 0)) ∧ (μ.φ r).base + (μ.φ r).cap * (μ.O r).sz ≤ c.size ∧ VRels X μ es vs ∧
  RowAt μ.w (μ.φ r).blk (μ.φ r).base (μ.O r).sz vs)
def HeapIs (X : Ctx) (μ : Mu) (ob : Go.Obj) (es : List V) : Prop :=
 (∃ ents clock, ob = .map ents clock ∧ VRels X μ es (ents.toList.map fun e => .tuple #[e.key, e.val])) ∨ ∃ (s : ByteArray) (pos : Nat), ob = .stringIter s pos ∧ es = [.str s.data.toList, .int .i64 (pos : Int)]
theorem HeapIs.mono {X : Ctx} {μ μ' : Mu} (le : Le μ μ') {ob : Go.Obj} {es : List V} (h : HeapIs X μ ob es) : HeapIs X μ' ob es :=
 h.imp (fun ⟨ents, clock, h1, h2⟩ => ⟨ents, clock, h1, VRels.mono le h2⟩) id
theorem HeapIs.live {X : Ctx} {μ : Mu} {ob : Go.Obj} {es : List V} (h : HeapIs X μ ob es) (a : Addr) (w : World) (hw : w.heap[a.block]? = some ob) : w.frozen? a = false := by
 rcases h with ⟨_, _, rfl, _⟩ | ⟨_, _, rfl, _⟩ <;> simp only [World.frozen?, hw]
def MapOk (X : Ctx) (μ : Mu) (r : Nat) (es : List V) : Prop := (μ.O r).sz = 0 ∧ (μ.φ r).cap ≠ 0 ∧
 ∃ ob, μ.w.heap[(μ.φ r).blk]? = some ob ∧ HeapIs X μ ob es
def ObjOk (X : Ctx) (μ : Mu) (r : Nat) : Prop := ∀ es, (μ.O r).es = some es → RowOk X μ r es ∨ MapOk X μ r es
def Inj (μ : Mu) : Prop := ∀ r r', r ≠ r' → (μ.O r).es.isSome = true → (μ.O r').es.isSome = true → (μ.φ r).cap ≠ 0 → (μ.φ r').cap ≠ 0 → (μ.φ r).blk ≠ (μ.φ r').blk
structure Objs (X : Ctx) (μ : Mu) : Prop where
 ok : ∀ r, ObjOk X μ r
 inj : Inj μ
 nob : ∀ r, (μ.O r).es.isSome = true → (μ.φ r).cap ≠ 0 → ¬ X.ban (μ.φ r).blk
 blt : ∀ b, X.ban b → b < μ.w.heap.size
theorem Objs.row {X : Ctx} {μ : Mu} (ho : Objs X μ) (r : Nat) (es : List V) (hes : (μ.O r).es = some es) (h0 : 0 < (μ.O r).sz) : RowOk X μ r es := by
 rcases ho.ok r es hes with h | ⟨h, _⟩
 ·exact h
 ·omega
theorem Objs.map {X : Ctx} {μ : Mu} (ho : Objs X μ) (r : Nat) (es : List V) (hes : (μ.O r).es = some es) (h0 : (μ.O r).sz = 0) : MapOk X μ r es := by
 rcases ho.ok r es hes with ⟨h, _⟩ | h
 ·omega
 ·exact h
theorem Objs.ents {X : Ctx} {μ : Mu} (ho : Objs X μ) (r : Nat) (es : List V) (hes : (μ.O r).es = some es) (h0 : (μ.O r).sz = 0) : ((μ.φ r).cap ≠ 0 ∧ ∃ ents clock, μ.w.heap[(μ.φ r).blk]? = some (.map ents clock) ∧ VRels X μ es (ents.toList.map fun e => .tuple #[e.key, e.val])) ∨
  ((μ.φ r).cap ≠ 0 ∧ ∃ (s : ByteArray) (pos : Nat), μ.w.heap[(μ.φ r).blk]? = some (.stringIter s pos) ∧ es = [.str s.data.toList, .int .i64 (pos : Int)]) := by
 obtain ⟨_, h2, ob, h3, h4⟩ := ho.map r es hes h0
 rcases h4 with ⟨ents, clock, rfl, h⟩ | ⟨s, pos, rfl, h⟩
 ·exact .inl ⟨h2, ents, clock, h3, h⟩
 ·exact .inr ⟨h2, s, pos, h3, h⟩
theorem ObjOk.blk {X : Ctx} {μ : Mu} {r : Nat} {es : List V} (h : RowOk X μ r es ∨ MapOk X μ r es) (hc : (μ.φ r).cap ≠ 0) : (μ.φ r).blk < μ.w.heap.size := by
 rcases h with ⟨_, _, _, h⟩ | ⟨_, _, ob, h, _⟩
 ·rcases h with h | ⟨_, _, _, h, _⟩
  ·exact absurd h hc
  ·exact (Array.getElem?_eq_some_iff.1 h).1
 ·exact (Array.getElem?_eq_some_iff.1 h).1
theorem ObjOk.keep {X : Ctx} {μ μ' : Mu} {r r' : Nat} {es : List V} (le : Le μ μ') (h : RowOk X μ r es ∨ MapOk X μ r es) (hsz : (μ'.O r').sz = (μ.O r).sz) (hφ : μ'.φ r' = μ.φ r)
  (hb : (μ.φ r).cap ≠ 0 → μ'.w.heap[(μ.φ r).blk]? = μ.w.heap[(μ.φ r).blk]?) : RowOk X μ' r' es ∨ MapOk X μ' r' es := by
 rcases h with ⟨h1, h2, h3, h4⟩ | ⟨h1, h2, ob, h3, h4⟩
 ·left
  unfold RowOk
  rw [hsz, hφ]
  by_cases hc : (μ.φ r).cap = 0
  ·exact ⟨h1, h2, h3, .inl hc⟩
  ·rcases h4 with h4 | ⟨c, T, vs, k1, k2, k3, k4⟩
   ·exact absurd h4 hc
   ·exact ⟨h1, h2, h3, .inr ⟨c, T, vs, by rw [hb hc]; exact k1, k2, VRels.mono le k3, k4.keep (hb hc)⟩⟩
 ·right
  unfold MapOk
  rw [hsz, hφ]
  exact ⟨h1, h2, ob, by rw [hb h2]; exact h3, h4.mono le⟩
structure Frame0 (w0 : World) (own0 : Nat → Prop) (μ : Mu) : Prop where
 size : w0.heap.size ≤ μ.w.heap.size
 keep : ∀ b, b < w0.heap.size → ¬ own0 b → μ.w.heap[b]? = w0.heap[b]? ∧ ¬ μ.own b
 os : μ.w.os = w0.os
 output : μ.w.output = w0.output
 tape : μ.w.tape = w0.tape
 frozen : ∀ a : Addr, a.block < w0.heap.size → μ.w.frozen? a = w0.frozen? a
 fresh : ∀ a : Addr, w0.heap.size ≤ a.block → μ.w.frozen? a = false
theorem Frame0.step {w0 : World} {own0 : Nat → Prop} {μ μ' : Mu} (h : Frame0 w0 own0 μ) (k : Le μ μ') : Frame0 w0 own0 μ' where
 size := Nat.le_trans h.size k.size
 keep := fun i hi ho => by
  obtain ⟨h1, h2⟩ := h.keep i hi ho
  obtain ⟨k1, k2⟩ := k.keep i (Nat.lt_of_lt_of_le hi h.size) h2
  exact ⟨k1.trans h1, k2⟩
 os := k.os.trans h.os
 output := k.output.trans h.output
 tape := k.tape.trans h.tape
 frozen := fun x hx => (k.frozen x (Nat.lt_of_lt_of_le hx h.size)).trans (h.frozen x hx)
 fresh := fun x hx => by
  by_cases hb : μ.w.heap.size ≤ x.block
  ·exact k.fresh x hb
  ·rw [k.frozen x (by omega)]; exact h.fresh x hx
theorem VRel.oneCell {X : Ctx} {μ : Mu} {x : V} {v : Value} (h : VRel X μ x v) (hc : x.isCell = true) : v.oneCell' = true ∧ v.cells = #[v] := by
 cases x <;> simp [V.isCell] at hc <;> simp only [VRel] at h
 case bool => subst h; exact ⟨rfl, rfl⟩
 case int => subst h; exact ⟨rfl, rfl⟩
 case float => subst h; exact ⟨rfl, rfl⟩
 case str => obtain ⟨_, rfl, _⟩ := h; exact ⟨rfl, rfl⟩
 case nilp => subst h; exact ⟨rfl, rfl⟩
 case nilfn => subst h; exact ⟨rfl, rfl⟩
 case nili => subst h; exact ⟨rfl, rfl⟩
 case fn => obtain ⟨_, _, rfl, _⟩ := h; exact ⟨rfl, rfl⟩
 case iface => obtain ⟨_, _, rfl, _⟩ := h; exact ⟨rfl, rfl⟩
 case nils => obtain ⟨_, rfl⟩ := h; exact ⟨rfl, rfl⟩
 case lit => obtain ⟨_, _, _, _, _, rfl, _⟩ := h; exact ⟨rfl, rfl⟩
 case sl => obtain ⟨_, _, rfl, _⟩ := h; exact ⟨rfl, rfl⟩
 case ptr => obtain ⟨_, rfl, _⟩ := h; exact ⟨rfl, rfl⟩
 case eptr => obtain ⟨_, _, _, _, _, _, rfl, _⟩ := h; exact ⟨rfl, rfl⟩
 case mp => obtain ⟨_, rfl, _⟩ := h; exact ⟨rfl, rfl⟩
 case it => obtain ⟨_, rfl, _⟩ := h; exact ⟨rfl, rfl⟩
 case mlit => obtain ⟨_, ⟨_, rfl⟩ | ⟨_, _, _, rfl, _⟩⟩ := h <;> exact ⟨rfl, rfl⟩
theorem V.cells_of_isCell {x : V} (h : x.isCell = true) : x.cells = [x] := by
 cases x <;> simp_all [V.isCell, V.cells]
theorem VRel.cells {X : Ctx} {μ : Mu} {x : V} {v : Value} (h : VRel X μ x v) (hl : x.lies = true) : VRels X μ x.cells v.cells.toList := by
 simp only [V.lies, Bool.or_eq_true] at hl
 rcases hl with hl | hl
 ·cases x <;> simp [V.isAgg] at hl
  simp only [VRel] at h
  obtain ⟨_, vs, rfl, h2⟩ := h
  exact h2
 ·rw [(h.oneCell hl).2, V.cells_of_isCell hl]
  simp [VRels, h]
theorem VRel.cells_size {X : Ctx} {μ : Mu} {x : V} {v : Value} (h : VRel X μ x v) (hl : x.lies = true) : v.cells.size = x.cells.length := by
 have := (h.cells hl).length
 simpa using this.symm
theorem VRel.cells_isCell {X : Ctx} {μ : Mu} {x : V} {v : Value} (h : VRel X μ x v) (hl : x.lies = true) : x.cells.all V.isCell = true := by
 simp only [V.lies, Bool.or_eq_true] at hl
 rcases hl with hl | hl
 ·cases x <;> simp [V.isAgg] at hl
  simp only [VRel] at h
  exact h.1
 ·rw [V.cells_of_isCell hl]; simp [hl]
end Go.AM
namespace Go.AM
open Go Go.RowKit
theorem upd_same {α : Type} (f : Nat → α) (t : Nat) (v : α) : upd f t v t = v := by simp [upd]
theorem upd_ne {α : Type} (f : Nat → α) {t n : Nat} (v : α) (h : n ≠ t) : upd f t v n = f n := by simp [upd, h]
theorem RowAt.of_block {w : World} {b off sz : Nat} {vs : List Value} {c : Array Value} {T : TypeId} {fr : Nat × Nat} (hb : w.heap[b]? = some (.cells c T fr))
  (h : ∀ i v, vs[i]? = some v → v.cells.size = sz ∧ ∀ j x, v.cells[j]? = some x → c[off + i * sz + j]? = some x) : RowAt w b off sz vs := by
 intro i v hv
 obtain ⟨h1, h2⟩ := h i v hv
 refine ⟨h1, fun j x hx => ?_⟩
 simp [World.cell?, hb, h2 j x hx]
theorem RowAt.in_block {w : World} {b off sz : Nat} {vs : List Value} {c : Array Value} {T : TypeId} {fr : Nat × Nat} (hb : w.heap[b]? = some (.cells c T fr))
  (h : RowAt w b off sz vs) : ∀ i v, vs[i]? = some v → v.cells.size = sz ∧ ∀ j x, v.cells[j]? = some x → c[off + i * sz + j]? = some x := by
 intro i v hv
 obtain ⟨h1, h2⟩ := h i v hv
 refine ⟨h1, fun j x hx => ?_⟩
 have := h2 j x hx
 simpa [World.cell?, hb] using this
theorem own_upd_sub {μ : Mu} {r : Nat} {o : Obj} {w' : World} (h : o.es.isSome = true → o.fz = false → (μ.O r).es.isSome = true ∧ (μ.O r).fz = false) {b : Nat}
  (hb : (⟨w', μ.φ, upd μ.O r o⟩ : Mu).own b) : μ.own b := by
 obtain ⟨r', h1, h2, h3, h4⟩ := hb
 by_cases e : r' = r
 ·subst e
  simp only [upd_same] at h1 h2
  obtain ⟨k1, k2⟩ := h h1 h2
  exact ⟨r', k1, k2, h3, h4⟩
 ·simp only [upd_ne _ _ e] at h1 h2
  exact ⟨r', h1, h2, h3, h4⟩
theorem Objs.of_le_same {X : Ctx} {μ μ' : Mu} (ho : Objs X μ) (le : Le μ μ') (hO : μ'.O = μ.O) (hφ : μ'.φ = μ.φ)
  (hb : ∀ b, b < μ.w.heap.size → μ'.w.heap[b]? = μ.w.heap[b]?) : Objs X μ' where
 ok := fun r es hes => by
  rw [hO] at hes
  exact ObjOk.keep le (ho.ok r es hes) (by rw [hO]) (by rw [hφ]) fun hc => hb _ (ObjOk.blk (ho.ok r es hes) hc)
 inj := by unfold Inj; rw [hO, hφ]; exact ho.inj
 nob := by rw [hO, hφ]; exact ho.nob
 blt := fun b hb => Nat.lt_of_lt_of_le (ho.blt b hb) le.size
theorem Le.drew {X : Ctx} {μ : Mu} (ho : Objs X μ) : Le μ ⟨μ.w.drew, μ.φ, μ.O⟩ ∧ Objs X ⟨μ.w.drew, μ.φ, μ.O⟩ := by
 have le : Le μ ⟨μ.w.drew, μ.φ, μ.O⟩ :=
  ⟨Nat.le_refl _, fun _ _ h => ⟨rfl, h⟩, fun _ => Nat.le_refl _, fun _ _ => ⟨rfl, rfl⟩, rfl, rfl, rfl, fun _ _ => rfl, fun a h => frozen_out (w := μ.w.drew) h⟩
 exact ⟨le, ho.of_le_same le rfl rfl fun _ _ => rfl⟩
theorem new_obj {X : Ctx} {μ : Mu} (ho : Objs X μ) (r sz cap : Nat) (arr : Bool) {es : List V} {vs : List Value} {c : Array Value} (T : TypeId) (hsz : 0 < sz)
  (hcap : es.length ≤ cap) (hbl : es.all (isBlank · sz) = true) (hrel : VRels X μ es vs) (hc : cap * sz ≤ c.size)
  (hrow : ∀ i v, vs[i]? = some v → v.cells.size = sz ∧ ∀ j x, v.cells[j]? = some x → c[i * sz + j]? = some x) :
  let μ' : Mu := ⟨μ.w.alloc (.cells c T (0, 0)), upd μ.φ r ⟨μ.w.heap.size, 0, cap⟩, upd μ.O r { gen := (μ.O r).gen + 1, sz := sz, arr := arr, fz := false, es := some es }⟩
  Le μ μ' ∧ Objs X μ' := by
 intro μ'
 have hheap : ∀ b, b < μ.w.heap.size → μ'.w.heap[b]? = μ.w.heap[b]? := fun b hb => heap_alloc_old _ _ _ hb
 have hsize : μ'.w.heap.size = μ.w.heap.size + 1 := Array.size_push _
 have hnew : μ'.w.heap[μ.w.heap.size]? = some (.cells c T (0, 0)) := heap_alloc_new _ _
 have le : Le μ μ' := by
  refine ⟨by omega, fun b hb hno => ⟨hheap b hb, ?_⟩, fun r' => ?_, fun r' e => ?_, rfl, rfl, rfl, fun a ha => ?_, fun a ha => ?_⟩
  ·rintro ⟨r', h1, h2, h3, h4⟩
   by_cases e : r' = r
   ·subst e
    simp only [μ', upd_same] at h4
    omega
   ·simp only [μ', upd_ne _ _ e] at h1 h2 h3 h4
    exact hno ⟨r', h1, h2, h3, h4⟩
  ·by_cases e : r' = r
   ·subst e; simp [μ', upd_same]
   ·simp [μ', upd_ne _ _ e]
  ·by_cases e' : r' = r
   ·subst e'; simp [μ', upd_same] at e
   ·simp [μ', upd_ne _ _ e']
  ·simp only [World.frozen?, hheap a.block ha]
  ·by_cases e : a.block = μ.w.heap.size
   ·simp only [World.frozen?, e, hnew]
    simp
   ·exact frozen_out (by omega)
 refine ⟨le, fun r' es' hes' => ?_, fun r1 r2 hne h1 h2 h3 h4 => ?_, fun r' h1 h2 hb => ?_, fun b hb => Nat.lt_of_lt_of_le (ho.blt b hb) le.size⟩
 rotate_left 2
 ·by_cases e : r' = r
  ·subst e
   simp only [μ', upd_same] at hb
   have := ho.blt _ hb
   omega
  ·simp only [μ', upd_ne _ _ e] at h1 h2 hb
   exact ho.nob r' h1 h2 hb
 ·by_cases e : r' = r
  ·subst e
   simp only [μ', upd_same] at hes' ⊢
   injection hes' with hes'
   subst hes'
   refine .inl ?_
   unfold RowOk
   simp only [μ', upd_same]
   refine ⟨hsz, hcap, hbl, .inr ⟨c, T, vs, hnew, by simpa using hc, VRels.mono le hrel, RowAt.of_block hnew ?_⟩⟩
   simpa using hrow
  ·have hO : μ'.O r' = μ.O r' := by simp [μ', upd_ne _ _ e]
   have hφ : μ'.φ r' = μ.φ r' := by simp [μ', upd_ne _ _ e]
   rw [hO] at hes'
   exact ObjOk.keep le (ho.ok r' es' hes') (by rw [hO]) hφ fun hc => hheap _ (ObjOk.blk (ho.ok r' es' hes') hc)
 ·have hold : ∀ r', r' ≠ r → (μ.O r').es.isSome = true → (μ.φ r').cap ≠ 0 → (μ.φ r').blk < μ.w.heap.size := fun r' _ hs hc' => by
   obtain ⟨es', he⟩ := Option.isSome_iff_exists.1 hs
   exact ObjOk.blk (ho.ok r' es' he) hc'
  by_cases e1 : r1 = r
  ·subst e1
   have e2 : r2 ≠ r1 := fun e => hne e.symm
   simp only [μ', upd_same, upd_ne _ _ e2] at h1 h2 h3 h4 ⊢
   have := hold r2 e2 h2 h4
   omega
  ·by_cases e2 : r2 = r
   ·subst e2
    simp only [μ', upd_same, upd_ne _ _ e1] at h1 h2 h3 h4 ⊢
    have := hold r1 e1 h1 h3
    omega
   ·simp only [μ', upd_ne _ _ e1, upd_ne _ _ e2] at h1 h2 h3 h4 ⊢
    exact ho.inj r1 r2 hne h1 h2 h3 h4
theorem empty_obj {X : Ctx} {μ : Mu} (ho : Objs X μ) (r sz : Nat) (hsz : 0 < sz) :
  let μ' : Mu := ⟨μ.w, upd μ.φ r ⟨0, 0, 0⟩, upd μ.O r { gen := (μ.O r).gen + 1, sz := sz, arr := true, fz := false, es := some [] }⟩
  Le μ μ' ∧ Objs X μ' := by
 intro μ'
 have le : Le μ μ' := by
  refine ⟨Nat.le_refl _, fun b hb hno => ⟨rfl, ?_⟩, fun r' => ?_, fun r' e => ?_, rfl, rfl, rfl, fun _ _ => rfl, fun a ha => frozen_out ha⟩
  ·rintro ⟨r', h1, h2, h3, h4⟩
   by_cases e : r' = r
   ·subst e
    simp only [μ', upd_same] at h3
    exact h3 rfl
   ·simp only [μ', upd_ne _ _ e] at h1 h2 h3 h4
    exact hno ⟨r', h1, h2, h3, h4⟩
  ·by_cases e : r' = r
   ·subst e; simp [μ', upd_same]
   ·simp [μ', upd_ne _ _ e]
  ·by_cases e' : r' = r
   ·subst e'; simp [μ', upd_same] at e
   ·simp [μ', upd_ne _ _ e']
 refine ⟨le, fun r' es' hes' => ?_, fun r1 r2 hne h1 h2 h3 h4 => ?_, fun r' h1 h2 hb => ?_, ho.blt⟩
 ·by_cases e : r' = r
  ·subst e
   simp only [μ', upd_same] at hes'
   injection hes' with hes'
   subst hes'
   refine .inl ?_
   unfold RowOk
   simp only [μ', upd_same]
   exact ⟨hsz, Nat.le_refl _, rfl, .inl (by simp)⟩
  ·have hO : μ'.O r' = μ.O r' := by simp [μ', upd_ne _ _ e]
   have hφ : μ'.φ r' = μ.φ r' := by simp [μ', upd_ne _ _ e]
   rw [hO] at hes'
   exact ObjOk.keep le (ho.ok r' es' hes') (by rw [hO]) hφ fun _ => rfl
 ·have e1 : r1 ≠ r := by
   intro e; subst e
   simp only [μ', upd_same] at h3
   exact h3 rfl
  have e2 : r2 ≠ r := by
   intro e; subst e
   simp only [μ', upd_same] at h4
   exact h4 rfl
  simp only [μ', upd_ne _ _ e1, upd_ne _ _ e2] at h1 h2 h3 h4 ⊢
  exact ho.inj r1 r2 hne h1 h2 h3 h4
 ·have e : r' ≠ r := by
   intro e; subst e
   simp only [μ', upd_same] at h2
   exact h2 rfl
  simp only [μ', upd_ne _ _ e] at h1 h2 hb
  exact ho.nob r' h1 h2 hb
theorem ren_obj {X : Ctx} {μ : Mu} (ho : Objs X μ) {r r1 : Nat} (hne : r1 ≠ r) :
  let μ' : Mu := ⟨μ.w, upd μ.φ r (μ.φ r1), upd (upd μ.O r ⟨(μ.O r).gen + 1, (μ.O r1).sz, (μ.O r1).arr, (μ.O r1).fz, (μ.O r1).es⟩) r1 ⟨(μ.O r1).gen + 1, (μ.O r1).sz, (μ.O r1).arr, (μ.O r1).fz, none⟩⟩
  Le μ μ' ∧ Objs X μ' := by
 intro μ'
 have hne' : r ≠ r1 := Ne.symm hne
 have hO1 : μ'.O r1 = ⟨(μ.O r1).gen + 1, (μ.O r1).sz, (μ.O r1).arr, (μ.O r1).fz, none⟩ := by simp [μ', upd_same]
 have hOr : μ'.O r = ⟨(μ.O r).gen + 1, (μ.O r1).sz, (μ.O r1).arr, (μ.O r1).fz, (μ.O r1).es⟩ := by simp [μ', upd_ne _ _ hne', upd_same]
 have hφr : μ'.φ r = μ.φ r1 := by simp [μ', upd_same]
 have hO : ∀ r', r' ≠ r → r' ≠ r1 → μ'.O r' = μ.O r' := fun r' h1 h2 => by simp [μ', upd_ne _ _ h1, upd_ne _ _ h2]
 have hφ : ∀ r', r' ≠ r → μ'.φ r' = μ.φ r' := fun r' h1 => by simp [μ', upd_ne _ _ h1]
 have hown : ∀ b, μ'.own b → μ.own b := by
  rintro b ⟨r', h1, h2, h3, h4⟩
  by_cases e1 : r' = r1
  ·subst e1; rw [hO1] at h1; simp at h1
  ·by_cases e : r' = r
   ·subst e
    rw [hOr] at h1 h2
    rw [hφr] at h3 h4
    exact ⟨r1, h1, h2, h3, h4⟩
   ·rw [hO _ e e1] at h1 h2
    rw [hφ _ e] at h3 h4
    exact ⟨r', h1, h2, h3, h4⟩
 have le : Le μ μ' := by
  refine ⟨Nat.le_refl _, fun b hb hno => ⟨rfl, fun h => hno (hown b h)⟩, fun r' => ?_, fun r' e => ?_, rfl, rfl, rfl, fun _ _ => rfl, fun a ha => frozen_out ha⟩
  ·by_cases e1 : r' = r1
   ·subst e1; rw [hO1]; simp
   ·by_cases e : r' = r
    ·subst e; rw [hOr]; simp
    ·rw [hO _ e e1]; exact Nat.le_refl _
  ·by_cases e1 : r' = r1
   ·subst e1; rw [hO1] at e; simp at e
   ·by_cases e2 : r' = r
    ·subst e2; rw [hOr] at e; simp at e
    ·rw [hO _ e2 e1, hφ _ e2]; exact ⟨rfl, rfl⟩
 refine ⟨le, fun r' es' hes' => ?_, fun r2 r3 hne2 h1 h2 h3 h4 => ?_, fun r' h1 h2 hb => ?_, ho.blt⟩
 ·by_cases e1 : r' = r1
  ·subst e1; rw [hO1] at hes'; simp at hes'
  ·by_cases e : r' = r
   ·subst e
    rw [hOr] at hes'
    exact ObjOk.keep (r := r1) le (ho.ok r1 es' hes') (by rw [hOr]) hφr fun _ => rfl
   ·rw [hO _ e e1] at hes'
    exact ObjOk.keep le (ho.ok r' es' hes') (by rw [hO _ e e1]) (hφ _ e) fun _ => rfl
 ·have ne1 : r2 ≠ r1 := by intro e; subst e; rw [hO1] at h1; simp at h1
  have ne2 : r3 ≠ r1 := by intro e; subst e; rw [hO1] at h2; simp at h2
  by_cases e2 : r2 = r
  ·subst e2
   have e3 : r3 ≠ r2 := Ne.symm hne2
   rw [hOr] at h1
   rw [hO _ e3 ne2] at h2
   rw [hφr] at h3 ⊢
   rw [hφ _ e3] at h4 ⊢
   exact ho.inj r1 r3 (Ne.symm ne2) h1 h2 h3 h4
  ·rw [hO _ e2 ne1] at h1
   rw [hφ _ e2] at h3 ⊢
   by_cases e3 : r3 = r
   ·subst e3
    rw [hOr] at h2
    rw [hφr] at h4 ⊢
    exact ho.inj r2 r1 ne1 h1 h2 h3 h4
   ·rw [hO _ e3 ne2] at h2
    rw [hφ _ e3] at h4 ⊢
    exact ho.inj r2 r3 hne2 h1 h2 h3 h4
 ·have ne1 : r' ≠ r1 := by intro e; subst e; rw [hO1] at h1; simp at h1
  by_cases e : r' = r
  ·subst e
   rw [hOr] at h1
   rw [hφr] at h2 hb
   exact ho.nob r1 h1 h2 hb
  ·rw [hO _ e ne1] at h1
   rw [hφ _ e] at h2 hb
   exact ho.nob r' h1 h2 hb
theorem write_obj {X : Ctx} {μ : Mu} (ho : Objs X μ) (r : Nat) {es : List V} {c : Array Value} {T : TypeId} (hes : (μ.O r).es = some es) (hfz : (μ.O r).fz = false)
  (hb : μ.w.heap[(μ.φ r).blk]? = some (.cells c T (0, 0))) (hc0 : (μ.φ r).cap ≠ 0)
  {c' : Array Value} (hc : c'.size = c.size) (gen' base' cap' : Nat) {es' : List V} {vs' : List Value}
  (hg : (gen' = (μ.O r).gen ∧ base' = (μ.φ r).base ∧ cap' = (μ.φ r).cap) ∨ (μ.O r).gen < gen') (hcap' : cap' ≠ 0)
  (hlen : es'.length ≤ cap') (hbl : es'.all (isBlank · (μ.O r).sz) = true) (hrel : VRels X μ es' vs') (hroom : base' + cap' * (μ.O r).sz ≤ c.size)
  (hrow : ∀ i v, vs'[i]? = some v → v.cells.size = (μ.O r).sz ∧ ∀ j x, v.cells[j]? = some x → c'[base' + i * (μ.O r).sz + j]? = some x) :
  let μ' : Mu := ⟨μ.w.setRow (μ.φ r).blk c', upd μ.φ r ⟨(μ.φ r).blk, base', cap'⟩, upd μ.O r { μ.O r with gen := gen', es := some es' }⟩
  Le μ μ' ∧ Objs X μ' := by
 intro μ'
 have hnew : μ'.w.heap[(μ.φ r).blk]? = some (.cells c' T (0, 0)) := setRow_heap _ _ _ _ _ _ hb
 have hother : ∀ b, b ≠ (μ.φ r).blk → μ'.w.heap[b]? = μ.w.heap[b]? := fun b hne => setRow_other _ _ _ _ hne
 have hsize : μ'.w.heap.size = μ.w.heap.size := by simp [μ', World.setRow]
 have hlt : (μ.φ r).blk < μ.w.heap.size := (Array.getElem?_eq_some_iff.1 hb).1
 have hown : μ.own (μ.φ r).blk := ⟨r, by simp [hes], hfz, hc0, rfl⟩
 have le : Le μ μ' := by
  refine ⟨by omega, fun b hb' hno => ⟨hother b (fun e => hno (e ▸ hown)), ?_⟩, fun r' => ?_, fun r' e => ?_, rfl, rfl, rfl, fun a ha => ?_, fun a ha => frozen_out (by omega)⟩
  ·rintro ⟨r', h1, h2, h3, h4⟩
   by_cases e : r' = r
   ·subst e
    simp only [μ', upd_same] at h4
    exact hno (h4 ▸ hown)
   ·simp only [μ', upd_ne _ _ e] at h1 h2 h3 h4
    exact hno ⟨r', h1, h2, h3, h4⟩
  ·by_cases e : r' = r
   ·subst e; simp only [μ', upd_same]; omega
   ·simp [μ', upd_ne _ _ e]
  ·by_cases e' : r' = r
   ·subst e'
    simp only [μ', upd_same] at e ⊢
    rcases hg with ⟨_, g2, g3⟩ | hg
    ·subst g2; subst g3; exact ⟨rfl, trivial⟩
    ·omega
   ·simp [μ', upd_ne _ _ e']
  ·by_cases e : a.block = (μ.φ r).blk
   ·simp only [World.frozen?, e, hnew, hb]
   ·simp only [World.frozen?, hother _ e]
 refine ⟨le, fun r' es2 hes2 => ?_, fun r1 r2 hne h1 h2 h3 h4 => ?_, fun r' h1 h2 hb => ?_, fun b hb => Nat.lt_of_lt_of_le (ho.blt b hb) le.size⟩
 rotate_left 2
 ·by_cases e : r' = r
  ·subst e
   simp only [μ', upd_same] at hb
   exact ho.nob r' (by simp [hes]) hc0 hb
  ·simp only [μ', upd_ne _ _ e] at h1 h2 hb
   exact ho.nob r' h1 h2 hb
 ·by_cases e : r' = r
  ·subst e
   have hsz : 0 < (μ.O r').sz := by
    rcases ho.ok r' es hes with ⟨h, _⟩ | ⟨_, _, ob, hm, hob⟩
    ·exact h
    ·rw [hb] at hm; injection hm with hm; subst hm
     rcases hob with ⟨_, _, h, _⟩ | ⟨_, _, h, _⟩ <;> cases h
   simp only [μ', upd_same] at hes2
   injection hes2 with hes2
   subst hes2
   refine .inl ?_
   unfold RowOk
   simp only [μ', upd_same]
   exact ⟨hsz, hlen, hbl, .inr ⟨c', T, vs', hnew, by omega, VRels.mono le hrel, RowAt.of_block hnew hrow⟩⟩
  ·have hO : μ'.O r' = μ.O r' := by simp [μ', upd_ne _ _ e]
   have hφ : μ'.φ r' = μ.φ r' := by simp [μ', upd_ne _ _ e]
   rw [hO] at hes2
   exact ObjOk.keep le (ho.ok r' es2 hes2) (by rw [hO]) hφ fun hcr => hother _ (ho.inj r' r e (by simp [hes2]) (by simp [hes]) hcr hc0)
 ·have hs : ∀ x, (μ'.O x).es.isSome = true → (μ.O x).es.isSome = true := fun x hx => by
   by_cases e : x = r
   ·subst e; simp [hes]
   ·simpa [μ', upd_ne _ _ e] using hx
  have hc1 : ∀ x, (μ'.φ x).cap ≠ 0 → (μ.φ x).cap ≠ 0 := fun x hx => by
   by_cases e : x = r
   ·subst e; exact hc0
   ·simpa [μ', upd_ne _ _ e] using hx
  have hb1 : ∀ x, (μ'.φ x).blk = (μ.φ x).blk := fun x => by
   by_cases e : x = r
   ·subst e; simp [μ', upd_same]
   ·simp [μ', upd_ne _ _ e]
  rw [hb1, hb1]
  exact ho.inj r1 r2 hne (hs _ h1) (hs _ h2) (hc1 _ h3) (hc1 _ h4)
theorem freeze_obj {X : Ctx} {μ : Mu} (ho : Objs X μ) (r : Nat) :
  let μ' : Mu := ⟨μ.w, μ.φ, upd μ.O r { μ.O r with fz := true }⟩
  Le μ μ' ∧ Objs X μ' := by
 intro μ'
 have hgen : ∀ x, (μ'.O x).gen = (μ.O x).gen ∧ (μ'.O x).sz = (μ.O x).sz ∧ (μ'.O x).es = (μ.O x).es := fun x => by
  by_cases e : x = r
  ·subst e; simp [μ', upd_same]
  ·simp [μ', upd_ne _ _ e]
 have le : Le μ μ' :=
  ⟨Nat.le_refl _, fun b hb h => ⟨rfl, fun hb' => h (own_upd_sub (r := r) (w' := μ.w) (by simp) hb')⟩, fun x => by rw [(hgen x).1]; exact Nat.le_refl _, fun x _ => ⟨rfl, (hgen x).2.1⟩, rfl, rfl, rfl, fun _ _ => rfl, fun a h => frozen_out (w := μ.w) h⟩
 refine ⟨le, fun x es hes => ?_, fun r1 r2 hne h1 h2 h3 h4 => ?_, fun x h1 h2 hb => ho.nob x (by rw [(hgen x).2.2] at h1; exact h1) h2 hb, ho.blt⟩
 ·rw [(hgen x).2.2] at hes
  exact ObjOk.keep le (ho.ok x es hes) (hgen x).2.1 rfl fun _ => rfl
 ·rw [(hgen r1).2.2] at h1
  rw [(hgen r2).2.2] at h2
  exact ho.inj r1 r2 hne h1 h2 h3 h4
theorem reset_obj {X : Ctx} {μ : Mu} (ho : Objs X μ) (r : Nat) {es' : List V} (h0 : (μ.O r).es.isSome = true) (hsz : 0 < (μ.O r).sz) (hl : es'.length ≤ (μ.φ r).cap) (hbl : es'.all (isBlank · (μ.O r).sz) = true)
  (hc : (μ.φ r).cap = 0 ∨ ∃ c T vs, μ.w.heap[(μ.φ r).blk]? = some (.cells c T (0, 0)) ∧ (μ.φ r).base + (μ.φ r).cap * (μ.O r).sz ≤ c.size ∧ VRels X μ es' vs ∧
   RowAt μ.w (μ.φ r).blk (μ.φ r).base (μ.O r).sz vs) :
  let μ' : Mu := ⟨μ.w, μ.φ, upd μ.O r { μ.O r with es := some es' }⟩
  Le μ μ' ∧ Objs X μ' := by
 intro μ'
 have hgen : ∀ x, (μ'.O x).gen = (μ.O x).gen ∧ (μ'.O x).sz = (μ.O x).sz ∧ (μ'.O x).es.isSome = (μ.O x).es.isSome ∧ (μ'.O x).fz = (μ.O x).fz := fun x => by
  by_cases e : x = r
  ·subst e; simp [μ', upd_same, h0]
  ·simp [μ', upd_ne _ _ e]
 have hown : ∀ b, μ'.own b → μ.own b := by
  rintro b ⟨r', h1, h2, h3, h4⟩
  rw [(hgen r').2.2.1] at h1
  rw [(hgen r').2.2.2] at h2
  exact ⟨r', h1, h2, h3, h4⟩
 have le : Le μ μ' :=
  ⟨Nat.le_refl _, fun b hb h => ⟨rfl, fun hb' => h (hown b hb')⟩, fun x => by rw [(hgen x).1]; exact Nat.le_refl _, fun x _ => ⟨rfl, (hgen x).2.1⟩, rfl, rfl, rfl, fun _ _ => rfl, fun a h => frozen_out (w := μ.w) h⟩
 refine ⟨le, fun x es hes => ?_, fun r1 r2 hne h1 h2 h3 h4 => ?_, fun x h1 h2 hb => ho.nob x (by rw [(hgen x).2.2.1] at h1; exact h1) h2 hb, ho.blt⟩
 ·by_cases e : x = r
  ·subst e
   have : es = es' := by simp [μ', upd_same] at hes; exact hes.symm
   subst this
   refine .inl ?_
   unfold RowOk
   rw [(hgen x).2.1]
   refine ⟨hsz, hl, hbl, hc.imp id ?_⟩
   rintro ⟨c, T, vs, q1, q2, q3, q4⟩
   exact ⟨c, T, vs, q1, q2, VRels.mono le q3, q4⟩
  ·have hx : μ'.O x = μ.O x := by simp [μ', upd_ne _ _ e]
   rw [hx] at hes
   exact ObjOk.keep le (ho.ok x es hes) (by rw [hx]) rfl fun _ => rfl
 ·rw [(hgen r1).2.2.1] at h1
  rw [(hgen r2).2.2.1] at h2
  exact ho.inj r1 r2 hne h1 h2 h3 h4
theorem new_cell {X : Ctx} {μ : Mu} (ho : Objs X μ) (r : Nat) (ob : Go.Obj) (es : List V) (hob : HeapIs X μ ob es) :
  let μ' : Mu := ⟨μ.w.alloc ob, upd μ.φ r ⟨μ.w.heap.size, 0, 1⟩, upd μ.O r { gen := (μ.O r).gen + 1, sz := 0, arr := false, fz := false, es := some es }⟩
  Le μ μ' ∧ Objs X μ' := by
 intro μ'
 have hheap : ∀ b, b < μ.w.heap.size → μ'.w.heap[b]? = μ.w.heap[b]? := fun b hb => heap_alloc_old _ _ _ hb
 have hsize : μ'.w.heap.size = μ.w.heap.size + 1 := Array.size_push _
 have hnew : μ'.w.heap[μ.w.heap.size]? = some ob := heap_alloc_new _ _
 have le : Le μ μ' := by
  refine ⟨by omega, fun b hb hno => ⟨hheap b hb, ?_⟩, fun r' => ?_, fun r' e => ?_, rfl, rfl, rfl, fun a ha => ?_, fun a ha => ?_⟩
  ·rintro ⟨r', h1, h2, h3, h4⟩
   by_cases e : r' = r
   ·subst e
    simp only [μ', upd_same] at h4
    omega
   ·simp only [μ', upd_ne _ _ e] at h1 h2 h3 h4
    exact hno ⟨r', h1, h2, h3, h4⟩
  ·by_cases e : r' = r
   ·subst e; simp [μ', upd_same]
   ·simp [μ', upd_ne _ _ e]
  ·by_cases e' : r' = r
   ·subst e'; simp [μ', upd_same] at e
   ·simp [μ', upd_ne _ _ e']
  ·simp only [World.frozen?, hheap a.block ha]
  ·by_cases e : a.block = μ.w.heap.size
   ·exact hob.live a μ'.w (by rw [e]; exact hnew)
   ·exact frozen_out (by omega)
 refine ⟨le, fun r' es' hes' => ?_, fun r1 r2 hne h1 h2 h3 h4 => ?_, fun r' h1 h2 hb => ?_, fun b hb => Nat.lt_of_lt_of_le (ho.blt b hb) le.size⟩
 rotate_left 2
 ·by_cases e : r' = r
  ·subst e
   simp only [μ', upd_same] at hb
   have := ho.blt _ hb
   omega
  ·simp only [μ', upd_ne _ _ e] at h1 h2 hb
   exact ho.nob r' h1 h2 hb
 ·by_cases e : r' = r
  ·subst e
   simp only [μ', upd_same] at hes'
   injection hes' with hes'
   subst hes'
   refine .inr ?_
   unfold MapOk
   simp only [μ', upd_same]
   exact ⟨trivial, by simp, ob, hnew, hob.mono le⟩
  ·have hO : μ'.O r' = μ.O r' := by simp [μ', upd_ne _ _ e]
   have hφ : μ'.φ r' = μ.φ r' := by simp [μ', upd_ne _ _ e]
   rw [hO] at hes'
   exact ObjOk.keep le (ho.ok r' es' hes') (by rw [hO]) hφ fun hc => hheap _ (ObjOk.blk (ho.ok r' es' hes') hc)
 ·have hold : ∀ r', r' ≠ r → (μ.O r').es.isSome = true → (μ.φ r').cap ≠ 0 → (μ.φ r').blk < μ.w.heap.size := fun r' _ hs hc' => by
   obtain ⟨es', he⟩ := Option.isSome_iff_exists.1 hs
   exact ObjOk.blk (ho.ok r' es' he) hc'
  by_cases e1 : r1 = r
  ·subst e1
   have e2 : r2 ≠ r1 := fun e => hne e.symm
   simp only [μ', upd_same, upd_ne _ _ e2] at h1 h2 h3 h4 ⊢
   have := hold r2 e2 h2 h4
   omega
  ·by_cases e2 : r2 = r
   ·subst e2
    simp only [μ', upd_same, upd_ne _ _ e1] at h1 h2 h3 h4 ⊢
    have := hold r1 e1 h1 h3
    omega
   ·simp only [μ', upd_ne _ _ e1, upd_ne _ _ e2] at h1 h2 h3 h4 ⊢
    exact ho.inj r1 r2 hne h1 h2 h3 h4
theorem write_cell {X : Ctx} {μ : Mu} (ho : Objs X μ) (r : Nat) {es es' : List V} {ob ob' : Go.Obj} (hes : (μ.O r).es = some es) (hfz : (μ.O r).fz = false) (hsz : (μ.O r).sz = 0)
  (hb : μ.w.heap[(μ.φ r).blk]? = some ob) (hc0 : (μ.φ r).cap ≠ 0) (hob : HeapIs X μ ob es) (hob' : HeapIs X μ ob' es') :
  let μ' : Mu := ⟨{ μ.w with heap := μ.w.heap.set! (μ.φ r).blk ob' }, μ.φ, upd μ.O r { μ.O r with es := some es' }⟩
  Le μ μ' ∧ Objs X μ' := by
 intro μ'
 have hlt : (μ.φ r).blk < μ.w.heap.size := (Array.getElem?_eq_some_iff.1 hb).1
 have hnew : μ'.w.heap[(μ.φ r).blk]? = some ob' := by simp [μ', Array.getElem?_setIfInBounds, hlt]
 have hother : ∀ b, b ≠ (μ.φ r).blk → μ'.w.heap[b]? = μ.w.heap[b]? := fun b hne => by simp [μ', Array.getElem?_setIfInBounds, Ne.symm hne]
 have hsize : μ'.w.heap.size = μ.w.heap.size := by simp [μ']
 have hown : μ.own (μ.φ r).blk := ⟨r, by simp [hes], hfz, hc0, rfl⟩
 have hsame : ∀ x, (μ'.O x).gen = (μ.O x).gen ∧ (μ'.O x).sz = (μ.O x).sz ∧ (μ'.O x).fz = (μ.O x).fz ∧ (μ'.O x).es.isSome = (μ.O x).es.isSome := fun x => by
  by_cases e : x = r
  ·subst e; simp [μ', upd_same, hes]
  ·simp [μ', upd_ne _ _ e]
 have hsub : ∀ b, μ'.own b → μ.own b := by
  rintro b ⟨r', h1, h2, h3, h4⟩
  rw [(hsame r').2.2.2] at h1
  rw [(hsame r').2.2.1] at h2
  exact ⟨r', h1, h2, h3, h4⟩
 have le : Le μ μ' := by
  refine ⟨by omega, fun b hb' hno => ⟨hother b (fun e => hno (e ▸ hown)), fun h => hno (hsub b h)⟩, fun r' => by rw [(hsame r').1]; exact Nat.le_refl _, fun r' _ => ⟨rfl, (hsame r').2.1⟩, rfl, rfl, rfl, fun a ha => ?_, fun a ha => frozen_out (by omega)⟩
  by_cases e : a.block = (μ.φ r).blk
  ·rw [hob'.live a μ'.w (by rw [e]; exact hnew), hob.live a μ.w (by rw [e]; exact hb)]
  ·simp only [World.frozen?, hother _ e]
 refine ⟨le, fun r' es2 hes2 => ?_, fun r1 r2 hne h1 h2 h3 h4 => ?_, fun r' h1 h2 hb => ?_, fun b hb => Nat.lt_of_lt_of_le (ho.blt b hb) le.size⟩
 ·by_cases e : r' = r
  ·subst e
   simp only [μ', upd_same] at hes2
   injection hes2 with hes2
   subst hes2
   refine .inr ?_
   unfold MapOk
   rw [(hsame r').2.1]
   exact ⟨hsz, hc0, ob', hnew, hob'.mono le⟩
  ·have hO : μ'.O r' = μ.O r' := by simp [μ', upd_ne _ _ e]
   rw [hO] at hes2
   exact ObjOk.keep le (ho.ok r' es2 hes2) (by rw [hO]) rfl fun hcr => hother _ (ho.inj r' r e (by simp [hes2]) (by simp [hes]) hcr hc0)
 ·rw [(hsame r1).2.2.2] at h1
  rw [(hsame r2).2.2.2] at h2
  exact ho.inj r1 r2 hne h1 h2 h3 h4
 ·rw [(hsame r').2.2.2] at h1
  exact ho.nob r' h1 h2 hb
end Go.AM
namespace Go.AM
open Go Go.RowKit
structure Rel (X : Ctx) (T : Nat → V) (a : Go.Act) (μ : Mu) : Prop where
 tmps : ∀ t, VRel X μ (T t) (a.tmps.getD t undef)
 objs : Objs X μ
def Done (X : Ctx) (o : Oper) (a : Go.Act) (μ : Mu) (O' : Nat → Obj) (v : V) : Prop :=
 ∃ val w' φ', ((execOp a.eval o).run X.P μ.w = .ok (.value val) w' ∨ ((execOp a.eval o).run X.P μ.w = .ok .skip w' ∧ val = undef)) ∧
  VRel X ⟨w', φ', O'⟩ v val ∧ Le μ ⟨w', φ', O'⟩ ∧ Objs X ⟨w', φ', O'⟩
theorem done_pure {X : Ctx} {o : Oper} {a : Go.Act} {μ : Mu} {v : V} {val : Value} (ho : Objs X μ) (hrun : (execOp a.eval o).run X.P μ.w = .ok (.value val) μ.w)
  (hv : VRel X μ v val) : Done X o a μ μ.O v :=
 ⟨val, μ.w, μ.φ, .inl hrun, hv, Le.refl μ, ho⟩
theorem run_v {P : Program} {s : Sem Value} {w w' : World} {val : Value} (h : s.run P w = .ok val w') : (do pure (Next.value (← s)) : Sem Next).run P w = .ok (.value val) w' := by
 simp [Sem.run_bind, h]
theorem run_u {P : Program} {s : Sem Unit} {w w' : World} (h : s.run P w = .ok () w') : (do s; pure Next.skip : Sem Next).run P w = .ok .skip w' := by
 simp [Sem.run_bind, h]
theorem run_ev (C : Oracle) (x : AOpd) (k : V → Act) (σ : St) : (ev x k).run C σ = (k (evalOpd σ x)).run C σ := by cases x <;> rfl
theorem run_evs (C : Oracle) : ∀ (xs : List AOpd) (k : List V → Act) (σ : St), (evs xs k).run C σ = (k (xs.map (evalOpd σ))).run C σ
 | [], _, _ => rfl
 | x :: xs, k, σ => by simp only [evs, run_ev, run_evs C xs, List.map_cons]
theorem run_evo (C : Oracle) (x : Option AOpd) (k : Option V → Act) (σ : St) : (evo x k).run C σ = (k (x.map (evalOpd σ))).run C σ := by
 cases x with
 | none => rfl
 | some x => exact run_ev C x _ σ
theorem run_give {C : Oracle} {r : Option V} {σ σ' : St} {v : V} (h : (give r).run C σ = some (v, σ')) : r = some v ∧ σ' = σ := by
 cases r with
 | none => simp [give, Act.run] at h
 | some u => simp only [give, Act.run, Option.some.injEq, Prod.mk.injEq] at h; exact ⟨by rw [h.1], h.2.symm⟩
theorem run_done {C : Oracle} {u v : V} {σ σ' : St} (h : (Act.done u).run C σ = some (v, σ')) : u = v ∧ σ' = σ := by
 simp only [Act.run, Option.some.injEq, Prod.mk.injEq] at h; exact ⟨h.1, h.2.symm⟩
theorem run_fail {C : Oracle} {p : V × St} {σ : St} : (Act.fail).run C σ ≠ some p := by simp [Act.run]
theorem constCell_rel {X : Ctx} {μ : Mu} {v : Value} {c : V} (h : constCell v = some c) : VRel X μ c v ∧ c.isCell = true := by
 unfold constCell at h
 split at h <;> first
  | (injection h with h; subst h; simp [VRel, V.isCell, V.arePure])
  | simp at h
theorem constCells_rel {X : Ctx} {μ : Mu} : ∀ {vs : List Value} {cs : List V}, constCells vs = some cs → VRels X μ cs vs ∧ cs.all V.isCell = true
 | [], cs, h => by simp [constCells] at h; subst h; simp [VRels]
 | v :: vs, cs, h => by
  simp only [constCells] at h
  split at h
  ·rename_i c cs' h1 h2
   injection h with h; subst h
   obtain ⟨a1, a2⟩ := constCell_rel (X := X) (μ := μ) h1
   obtain ⟨b1, b2⟩ := constCells_rel (X := X) (μ := μ) h2
   simp [VRels, a1, a2, b1, b2]
  ·simp at h
theorem constV_rel {X : Ctx} {μ : Mu} {v : Value} {c : V} (h : constV v = some c) : VRel X μ c v ∧ c.lies = true := by
 unfold constV at h
 split at h
 ·rename_i cs
  simp only [Option.map_eq_some_iff] at h
  obtain ⟨l, h1, rfl⟩ := h
  obtain ⟨a1, a2⟩ := constCells_rel (X := X) (μ := μ) h1
  simp [VRel, V.lies, V.isAgg, a1, a2]
 ·obtain ⟨a1, a2⟩ := constCell_rel (X := X) (μ := μ) h
  exact ⟨a1, by simp [V.lies, a2]⟩
theorem trO_rel {X : Ctx} {μ : Mu} {T : Nat → V} {a : Go.Act} {x : Operand} {y : AOpd} (hr : Rel X T a μ) (h : trO X x = some y) (O : Nat → Obj) : VRel X μ (evalOpd ⟨T, O⟩ y) (a.eval x) := by
 cases x with
 | tmp t => simp [trO] at h; subst h; exact hr.tmps t
 | const v =>
  simp only [trO, Option.map_eq_some_iff] at h
  obtain ⟨c, h1, rfl⟩ := h
  exact (constV_rel h1).1
 | global g => simp [trO] at h
 | func f =>
  simp only [trO, Option.map_eq_some_iff] at h
  obtain ⟨n, h1, rfl⟩ := h
  simp only [evalOpd, Go.Act.eval, VRel]
  exact ⟨f, #[], rfl, h1, by simp [VRels]⟩
theorem trOs_rel {X : Ctx} {μ : Mu} {T : Nat → V} {a : Go.Act} (hr : Rel X T a μ) (O : Nat → Obj) : ∀ {xs : List Operand} {ys : List AOpd}, trOs X xs = some ys →
  VRels X μ (ys.map (evalOpd ⟨T, O⟩)) (xs.map a.eval)
 | [], ys, h => by simp [trOs] at h; subst h; simp [VRels]
 | x :: xs, ys, h => by
  simp only [trOs] at h
  split at h
  ·rename_i b bs h1 h2
   injection h with h; subst h
   simp only [List.map_cons, VRels]
   exact ⟨trO_rel hr h1 O, trOs_rel hr O h2⟩
  ·simp at h
theorem part_agg_rel {X : Ctx} {μ : Mu} {e u : V} {x : Value} {off sz : Nat} (h : VRel X μ e x) (hp : part true off sz e = some u) :
  ∃ cs, x = .agg cs ∧ off + sz ≤ cs.size ∧ VRel X μ u (.agg (cs.extract off (off + sz))) := by
 cases e <;> simp [part] at hp
 rename_i cs
 obtain ⟨h1, h2⟩ := hp
 subst h2
 simp only [VRel] at h
 obtain ⟨h0, vs, rfl, hv⟩ := h
 have hl := hv.length
 simp at hl
 refine ⟨vs, rfl, by omega, ?_⟩
 simp only [VRel]
 refine ⟨?_, _, rfl, ?_⟩
 ·simp only [List.all_eq_true] at h0 ⊢
  intro c hc
  exact h0 c (List.mem_of_mem_drop (List.mem_of_mem_take hc))
 ·have := VRels.take sz (VRels.drop off hv)
  simpa [Array.toList_extract, List.extract_eq_take_drop] using this
theorem part_cell_rel {X : Ctx} {μ : Mu} {e u : V} {x : Value} {off sz : Nat} (h : VRel X μ e x) (hp : part false off sz e = some u) :
  e.lies = true ∧ ∃ c, x.cells[off]? = some c ∧ VRel X μ u c := by
 by_cases ha : ∃ cs, e = .agg cs
 ·obtain ⟨cs, rfl⟩ := ha
  simp only [part] at hp
  simp only [VRel] at h
  obtain ⟨h0, vs, rfl, hv⟩ := h
  obtain ⟨c, h1, h2⟩ := hv.get hp
  exact ⟨by simp [V.lies, V.isAgg], c, by simpa [Value.cells] using h1, h2⟩
 ·have : part false off sz e = if e.isCell ∧ off = 0 then some e else none := by
   cases e <;> first | rfl | exact absurd ⟨_, rfl⟩ ha
  rw [this] at hp
  split at hp
  ·rename_i hc
   injection hp with hp; subst hp
   refine ⟨by simp [V.lies, hc.1], x, ?_, h⟩
   rw [(h.oneCell hc.1).2, hc.2]; simp
  ·simp at hp
section
variable {X : Ctx} {h : Hints} {dst : Nat} {E : Env} {C : Oracle} {o : Oper} {a : Go.Act} {T : Nat → V} {μ : Mu} {v : V} {σ' : St}
theorem VRels.wkC {X : Ctx} {μ : Mu} : ∀ (ks : List Nat) {cs : List V} {vs : List Value}, VRels X μ cs vs → VRels X μ (AM.wkC ks cs) vs
 | [], cs, vs, h => by simpa [AM.wkC] using h
 | k :: ks, [], vs, h => by simpa [AM.wkC] using h
 | k :: ks, c :: cs, [], h => by simp [VRels] at h
 | k :: ks, c :: cs, v :: vs, h => by
  simp only [VRels] at h
  simp only [AM.wkC, VRels]
  refine ⟨?_, VRels.wkC ks h.2⟩
  split
  ·obtain ⟨a, rfl⟩ := by simpa [VRel] using h.1
   simp only [VRel]
   exact ⟨rfl, rfl, a, 0, [], rfl, Nat.le_refl _, by simp [VRels], .inl trivial⟩
  ·exact h.1
theorem wkC_isCell : ∀ (ks : List Nat) {cs : List V}, cs.all V.isCell = true → (AM.wkC ks cs).all V.isCell = true
 | [], cs, h => by simpa [AM.wkC] using h
 | k :: ks, [], h => by simp [AM.wkC]
 | k :: ks, c :: cs, h => by
  simp only [List.all_cons, Bool.and_eq_true] at h
  simp only [AM.wkC, List.all_cons, Bool.and_eq_true]
  refine ⟨?_, wkC_isCell ks h.2⟩
  split
  ·rfl
  ·exact h.1
theorem VRel.wkV {X : Ctx} {μ : Mu} (ks : List Nat) {v : V} {val : Value} (h : VRel X μ v val) : VRel X μ (AM.wkV ks v) val := by
 unfold AM.wkV
 split
 ·simp only [VRel] at h ⊢
  obtain ⟨h1, vs, rfl, h2⟩ := h
  exact ⟨wkC_isCell ks h1, vs, rfl, h2.wkC ks⟩
 ·split
  ·obtain ⟨a, rfl⟩ := by simpa [VRel] using h
   simp only [VRel]
   exact ⟨rfl, rfl, a, 0, [], rfl, Nat.le_refl _, by simp [VRels], .inl trivial⟩
  ·exact h
 ·exact h
theorem VRel.wkO {X : Ctx} {μ : Mu} (ks : List Nat) {σ : St} {y : AOpd} {val : Value} (h : VRel X μ (evalOpd σ y) val) : VRel X μ (evalOpd σ (AM.wkO ks y)) val := by
 cases y with
 | tmp t => exact h
 | const v => exact VRel.wkV ks h
theorem op_mvO {x : Operand} {y : AOpd} (ks : List Nat) (hr : Rel X T a μ) (ho : o.op = .move x ∨ o.op = .assign x) (ht : trO X x = some y) (hrun : (opAct E (.move (wkO ks y))).run C ⟨T, μ.O⟩ = some (v, σ')) :
  σ'.T = T ∧ Done X o a μ σ'.O v := by
 simp only [opAct, run_ev] at hrun
 obtain ⟨rfl, rfl⟩ := run_done hrun
 refine ⟨rfl, done_pure hr.objs ?_ (VRel.wkO ks (trO_rel hr ht _))⟩
 rcases ho with ho | ho <;> simp [execOp, ho]
theorem op_mv {h : Hints} {dst : Nat} {x : Operand} {aop : AOp} (hr : Rel X T a μ) (ho : o.op = .move x ∨ o.op = .assign x) (ht : trMove X h dst x = some aop) (hrun : (opAct E aop).run C ⟨T, μ.O⟩ = some (v, σ')) :
  σ'.T = T ∧ Done X o a μ σ'.O v := by
 unfold trMove at ht
 split at ht
 ·rename_i r sz hn hb
  injection ht with ht; subst ht
  simp only [opAct] at hrun
  split at hrun
  ·rename_i hsz
   simp only [Act.run, Option.some.injEq, Prod.mk.injEq] at hrun
   obtain ⟨rfl, rfl⟩ := hrun
   have hx : x = .const (.slice none 0 0) := by
    unfold isNil at hn
    split at hn
    ·rfl
    ·simp at hn
   subst hx
   obtain ⟨le, ho'⟩ := empty_obj hr.objs r sz hsz
   refine ⟨rfl, .slice none 0 0, μ.w, upd μ.φ r ⟨0, 0, 0⟩, .inl ?_, ?_, le, ho'⟩
   ·rcases ho with ho | ho <;> simp [execOp, ho, Go.Act.eval]
   ·simp only [VRel, upd_same]
    exact ⟨_, 0, rfl, Nat.le_refl _, Nat.le_refl _, fun _ => ⟨hsz, rfl, .inl rfl⟩⟩
  ·exact absurd hrun run_fail
 ·split at ht
  ·rename_i r hrn
   simp only [Option.map_eq_some_iff] at ht
   obtain ⟨y, h1, rfl⟩ := ht
   simp only [opAct, run_ev] at hrun
   have hrel := trO_rel hr h1 μ.O
   have hexec : (execOp a.eval o).run X.P μ.w = .ok (.value (a.eval x)) μ.w := by rcases ho with ho | ho <;> simp [execOp, ho]
   split at hrun
   ·rename_i r1 g off len he
    rw [he] at hrel
    split at hrun
    ·obtain ⟨rfl, rfl⟩ := run_done hrun
     exact ⟨rfl, done_pure hr.objs hexec hrel⟩
    ·rename_i hne
     simp only [Act.run] at hrun
     split at hrun
     ·rename_i hg
      simp only [Act.run, Option.some.injEq, Prod.mk.injEq] at hrun
      obtain ⟨rfl, rfl⟩ := hrun
      obtain ⟨le, ho'⟩ := ren_obj hr.objs (r := r) (r1 := r1) hne
      refine ⟨rfl, a.eval x, μ.w, upd μ.φ r (μ.φ r1), .inl hexec, ?_, le, ho'⟩
      simp only [VRel] at hrel ⊢
      obtain ⟨ad, cap, k1, k2, k3, k4⟩ := hrel
      obtain ⟨k5, k6⟩ := k4 hg
      have hne' : r ≠ r1 := fun e => hne e.symm
      simp only [upd_ne _ _ hne', upd_same]
      exact ⟨ad, cap, k1, k2, Nat.le_refl _, fun _ => ⟨k5, k6⟩⟩
     ·simp [Act.run] at hrun
   ·obtain ⟨rfl, rfl⟩ := run_done hrun
    exact ⟨rfl, done_pure hr.objs hexec hrel⟩
  ·simp only [Option.map_eq_some_iff] at ht
   obtain ⟨y, h1, rfl⟩ := ht
   exact op_mvO _ hr ho h1 hrun
theorem op_pick {c p q : Operand} {c' p' q' : AOpd} (hr : Rel X T a μ) (ho : o.op = .pick c p q) (h1 : trO X c = some c') (h2 : trO X p = some p') (h3 : trO X q = some q')
  (hrun : (opAct E (.pick c' p' q')).run C ⟨T, μ.O⟩ = some (v, σ')) : σ'.T = T ∧ Done X o a μ σ'.O v := by
 simp only [opAct, run_ev] at hrun
 have hc := trO_rel hr h1 μ.O
 split at hrun
 ·rename_i e
  rw [e] at hc
  simp only [VRel] at hc
  rw [run_ev] at hrun
  obtain ⟨rfl, rfl⟩ := run_done hrun
  refine ⟨rfl, done_pure hr.objs ?_ (trO_rel hr h2 _)⟩
  simp [execOp, ho, hc, asBool, Sem.run_bind]
 ·rename_i e
  rw [e] at hc
  simp only [VRel] at hc
  rw [run_ev] at hrun
  obtain ⟨rfl, rfl⟩ := run_done hrun
  refine ⟨rfl, done_pure hr.objs ?_ (trO_rel hr h3 _)⟩
  simp [execOp, ho, hc, asBool, Sem.run_bind]
 ·exact absurd hrun run_fail
theorem op_nilCheck {x : Operand} {y : AOpd} (hr : Rel X T a μ) (ho : o.op = .nilCheck x) (ht : trO X x = some y) (hrun : (opAct E (.nilCheck y)).run C ⟨T, μ.O⟩ = some (v, σ')) :
  σ'.T = T ∧ Done X o a μ σ'.O v := by
 simp only [opAct, run_ev] at hrun
 have hx := trO_rel hr ht μ.O
 split at hrun
 ·rename_i e
  obtain ⟨rfl, rfl⟩ := run_done hrun
  refine ⟨rfl, done_pure hr.objs ?_ (e ▸ hx)⟩
  rw [e] at hx
  simp only [VRel] at hx
  obtain ⟨p, hp, _⟩ := hx
  simp [execOp, ho, hp]
 ·rename_i e
  obtain ⟨rfl, rfl⟩ := run_done hrun
  refine ⟨rfl, done_pure hr.objs ?_ (e ▸ hx)⟩
  rw [e] at hx
  simp only [VRel] at hx
  obtain ⟨_, _, b, o', sz, q, hp, _⟩ := hx
  simp [execOp, ho, hp]
 ·rename_i e
  obtain ⟨rfl, rfl⟩ := run_done hrun
  refine ⟨rfl, done_pure hr.objs ?_ (e ▸ hx)⟩
  rw [e] at hx
  simp only [VRel] at hx
  obtain ⟨F, cv, hp, _⟩ := hx
  simp [execOp, ho, hp]
 ·exact absurd hrun run_fail
theorem op_fieldAddr {s : TypeId} {x : Operand} {i : Nat} {y : AOpd} {fs : Array Field} {f : Field} {n : Nat} (hr : Rel X T a μ) (ho : o.op = .fieldAddr s x i) (ht : trO X x = some y)
  (hd : descT X s = some (.struct fs)) (hf : fs[i]? = some f) (hn : sizeT X f.type = some (n + 1)) (hrun : (opAct E (.fieldAddr f.offset y)).run C ⟨T, μ.O⟩ = some (v, σ')) :
  σ'.T = T ∧ Done X o a μ σ'.O v := by
 simp only [opAct, run_ev] at hrun
 have hx := trO_rel hr ht μ.O
 have hi : ∃ inf, X.P.info? f.type = some inf ∧ inf.size = n + 1 := by
  simpa [sizeT, info] using hn
 obtain ⟨inf, hi1, hi2⟩ := hi
 have hsz : X.P.cellsOf f.type = n + 1 := by simp [Program.cellsOf, hi1, hi2]
 have key : ∀ p : Addr, a.eval x = .pointer (some p) → (execOp a.eval o).run X.P μ.w = .ok (.value (.pointer (some (p.add f.offset)))) μ.w := fun p hp => by
  simp only [execOp, ho]
  refine run_v ?_
  simp [Instr.fieldAt, Sem.run_bind, run_underlying hd, hf, Instr.sureAddr, hp, fieldPlace, run_sizeOf (w := μ.w) hi1, hsz]
 have hadd : ∀ (b q : Nat), (⟨b, q, none⟩ : Addr).add f.offset = ⟨b, q + f.offset, none⟩ := fun b q => by unfold Addr.add; split <;> simp_all
 split at hrun
 ·rename_i e
  obtain ⟨rfl, rfl⟩ := run_done hrun
  rw [e] at hx
  simp only [VRel] at hx
  obtain ⟨p, hp, h1, h2⟩ := hx
  refine ⟨rfl, done_pure hr.objs (key p hp) ?_⟩
  simp only [VRel]
  refine ⟨_, rfl, h1, fun eg => ⟨(h2 eg).1, ?_⟩⟩
  rw [(h2 eg).2, hadd]; simp [Nat.add_assoc]
 ·rename_i e
  obtain ⟨rfl, rfl⟩ := run_done hrun
  rw [e] at hx
  simp only [VRel] at hx
  obtain ⟨h0, h0', b, o', sz, q, hp, h1, h2, h3, h4⟩ := hx
  refine ⟨rfl, done_pure hr.objs (key _ hp) ?_⟩
  simp only [VRel]
  exact ⟨h0, h0', b, o', sz, q, by rw [hadd]; simp [Nat.add_assoc], h1, h2, h3, h4⟩
 ·exact absurd hrun run_fail
theorem op_extract {x : Operand} {i : Nat} {y : AOpd} (hr : Rel X T a μ) (ho : o.op = .extract x i) (ht : trO X x = some y) (hrun : (opAct E (.extract y i)).run C ⟨T, μ.O⟩ = some (v, σ')) :
  σ'.T = T ∧ Done X o a μ σ'.O v := by
 simp only [opAct, run_ev] at hrun
 have hx := trO_rel hr ht μ.O
 split at hrun
 ·rename_i vs e
  obtain ⟨h1, rfl⟩ := run_give hrun
  rw [e] at hx
  simp only [VRel] at hx
  obtain ⟨us, hu, hv⟩ := hx
  obtain ⟨c, h2, h3⟩ := hv.get h1
  refine ⟨rfl, done_pure hr.objs ?_ h3⟩
  simp only [execOp, ho]
  refine run_v ?_
  have h2' : us[i]? = some c := by simpa using h2
  simp [Instr.extract, hu, h2']
 ·exact absurd hrun run_fail
theorem op_makeFunc {f : FuncId} {first caps : Array Operand} {n : Nat} {cs : List AOpd} (hr : Rel X T a μ) (ho : o.op = .makeFunc (.func f) first caps) (hfi : first.isEmpty = true)
  (hn : X.fnum f = some n) (ht : trOs X caps.toList = some cs) (hrun : (opAct E (.mkFunc n cs)).run C ⟨T, μ.O⟩ = some (v, σ')) : σ'.T = T ∧ Done X o a μ σ'.O v := by
 simp only [opAct, run_evs] at hrun
 obtain ⟨rfl, rfl⟩ := run_done hrun
 have hx := trOs_rel hr μ.O ht
 obtain rfl : first = #[] := by simpa using hfi
 refine ⟨rfl, done_pure (val := .func (.func f) #[] (caps.map a.eval)) hr.objs ?_ ?_⟩
 ·simp [execOp, ho, Instr.makeFunc, Sem.run_bind]
 ·simp only [VRel]
  exact ⟨f, _, rfl, hn, by simpa using hx⟩
theorem op_makeInterface {t : TypeId} {x : Operand} {n : Nat} {y : AOpd} (hr : Rel X T a μ) (ho : o.op = .makeInterface t x) (hn : X.tnum t = some n) (ht : trO X x = some y)
  (hd : ∃ d, descT X t = some d ∧ ∀ ms, d ≠ .interface ms) (hrun : (opAct E (.mkIface n y)).run C ⟨T, μ.O⟩ = some (v, σ')) : σ'.T = T ∧ Done X o a μ σ'.O v := by
 simp only [opAct, run_ev] at hrun
 obtain ⟨rfl, rfl⟩ := run_done hrun
 have hx := trO_rel hr ht μ.O
 obtain ⟨d, hd1, hd2⟩ := hd
 refine ⟨rfl, done_pure (val := .iface t (a.eval x)) hr.objs ?_ ?_⟩
 ·simp only [execOp, ho]
  refine run_v ?_
  simp only [Instr.makeInterface, Sem.run_bind, run_underlying hd1, Result.andThen_ok]
  cases d <;> first | rfl | exact absurd rfl (hd2 _)
 ·simp only [VRel]
  exact ⟨t, _, rfl, hn, hx⟩
theorem op_field {t : TypeId} {x : Operand} {i : Nat} {y : AOpd} {fs : Array Field} {f : Field} {g : Bool} {sz : Nat} (hr : Rel X T a μ) (ho : o.op = .field t x i) (ht : trO X x = some y)
  (hd : descT X t = some (.struct fs)) (hf : fs[i]? = some f) (hg : aggT X f.type = some g) (hn : sizeT X f.type = some sz)
  (hrun : (opAct E (.field g f.offset sz y)).run C ⟨T, μ.O⟩ = some (v, σ')) : σ'.T = T ∧ Done X o a μ σ'.O v := by
 simp only [opAct, run_ev] at hrun
 split at hrun
 case isFalse => exact absurd hrun run_fail
 rename_i hagg
 obtain ⟨hp, rfl⟩ := run_give hrun
 have hx := trO_rel hr ht μ.O
 obtain ⟨inf, hi1, hi2⟩ : ∃ inf, X.P.info? f.type = some inf ∧ inf.size = sz := by simpa [sizeT, info] using hn
 have hsz : X.P.cellsOf f.type = sz := by simp [Program.cellsOf, hi1, hi2]
 obtain ⟨d, hdd⟩ : ∃ d, X.P.underlying f.type = some d := by
  simp only [aggT, descT, Option.map_eq_some_iff] at hg
  obtain ⟨d, h1, _⟩ := hg; exact ⟨d, h1⟩
 have hisagg : (isAgg f.type).run X.P μ.w = .ok g μ.w := by
  simp only [aggT, descT, hdd, Option.map_some, Option.some.injEq] at hg
  simp only [isAgg, Sem.run_bind, run_underlying hdd, Result.andThen_ok]
  subst hg
  cases d <;> rfl
 cases g with
 | true =>
  obtain ⟨cs, hc, hle, hv⟩ := part_agg_rel hx hp
  refine ⟨rfl, done_pure hr.objs ?_ hv⟩
  simp only [execOp, ho]
  refine run_v ?_
  simp [Instr.field, Sem.run_bind, run_underlying hd, hf, part, hisagg, hc, asAgg, run_sizeOf (w := μ.w) hi1, hsz, Go.part]
 | false =>
  obtain ⟨_, c, hc, hv⟩ := part_cell_rel hx hp
  cases hy : evalOpd ⟨T, μ.O⟩ y <;> rw [hy] at hagg <;> simp [V.isAgg] at hagg
  rw [hy] at hx
  simp only [VRel] at hx
  obtain ⟨_, cs, hcs, _⟩ := hx
  rw [hcs] at hc
  refine ⟨rfl, done_pure hr.objs ?_ hv⟩
  simp only [execOp, ho]
  refine run_v ?_
  have hc' : cs[f.offset]? = some c := by simpa [Value.cells] using hc
  simp [Instr.field, Sem.run_bind, run_underlying hd, hf, hisagg, hcs, asAgg, Go.part, hc']
end
end Go.AM
namespace Go.AM
open Go Go.RowKit
theorem run_isAgg {X : Ctx} {t : TypeId} {g : Bool} (hg : aggT X t = some g) (w : World) : (isAgg t).run X.P w = .ok g w := by
 simp only [aggT, descT, Option.map_eq_some_iff] at hg
 obtain ⟨d, hdd, hg⟩ := hg
 simp only [isAgg, Sem.run_bind, run_underlying hdd, Result.andThen_ok]
 subst hg
 cases d <;> rfl
theorem run_sizeT {X : Ctx} {t : TypeId} {sz : Nat} (hn : sizeT X t = some sz) (w : World) : (sizeOf t).run X.P w = .ok sz w := by
 obtain ⟨inf, hi1, hi2⟩ : ∃ inf, X.P.info? t = some inf ∧ inf.size = sz := by simpa [sizeT, info] using hn
 have hsz : X.P.cellsOf t = sz := by simp [Program.cellsOf, hi1, hi2]
 rw [run_sizeOf (w := w) hi1, hsz]
theorem run_part_agg {X : Ctx} {t : TypeId} {sz : Nat} (hg : aggT X t = some true) (hn : sizeT X t = some sz) (cs : Array Value) (off : Nat) (w : World) :
  (Go.part t cs off).run X.P w = .ok (.agg (cs.extract off (off + sz))) w := by
 simp [Go.part, Sem.run_bind, run_isAgg hg, run_sizeT hn]
theorem run_part_cell {X : Ctx} {t : TypeId} (hg : aggT X t = some false) (cs : Array Value) (off : Nat) (c : Value) (hc : cs[off]? = some c) (w : World) :
  (Go.part t cs off).run X.P w = .ok c w := by
 simp [Go.part, Sem.run_bind, run_isAgg hg, hc]
theorem eqKs_split : ∀ (ks : List Nat) {ks' : List Nat} {cs ds : List V} {b : Bool}, eqKs (ks ++ ks') cs ds = some b →
  ∃ b1 b2, eqKs ks (cs.take ks.length) (ds.take ks.length) = some b1 ∧ eqKs ks' (cs.drop ks.length) (ds.drop ks.length) = some b2 ∧ b = (b1 && b2)
 | [], ks', cs, ds, b, h => ⟨true, b, by simp [eqKs], by simpa using h, by simp⟩
 | k :: ks, ks', [], _, b, h => by simp [eqKs] at h
 | k :: ks, ks', _ :: _, [], b, h => by simp [eqKs] at h
 | k :: ks, ks', c :: cs, d :: ds, b, h => by
  simp only [List.cons_append, eqKs] at h
  split at h
  ·rename_i x y hx hy
   injection h with h; subst h
   obtain ⟨b1, b2, h1, h2, h3⟩ := eqKs_split ks hy
   refine ⟨x && b1, b2, ?_, by simpa using h2, by rw [h3, Bool.and_assoc]⟩
   simp [eqKs, hx, h1]
  ·simp at h
theorem eqKs_length : ∀ {ks : List Nat} {cs ds : List V} {b : Bool}, eqKs ks cs ds = some b → cs.length = ks.length ∧ ds.length = ks.length
 | [], [], [], _, _ => ⟨rfl, rfl⟩
 | [], [], _ :: _, _, h => by simp [eqKs] at h
 | [], _ :: _, _, _, h => by simp [eqKs] at h
 | _ :: _, [], _, _, h => by simp [eqKs] at h
 | _ :: _, _ :: _, [], _, h => by simp [eqKs] at h
 | k :: ks, c :: cs, d :: ds, b, h => by
  simp only [eqKs] at h
  split at h
  ·rename_i x y hx hy
   obtain ⟨h1, h2⟩ := eqKs_length hy
   simp [h1, h2]
  ·simp at h
theorem eqK_rel {X : Ctx} {μ : Mu} {t : TypeId} {m k : Nat} {c e : V} {x y : Value} {b : Bool} {D : TypeDesc} (hd : descT X t = some D)
  (hk : (k = 0 ∧ D = .bool) ∨ (k = 1 ∧ ∃ q, D = .int q) ∨ (k = 2 ∧ D = .string))
  (hc : VRel X μ c x) (he : VRel X μ e y) (hb : eqK k c e = some b) (w : World) : (Op.equalIn (m + 1) t x y).run X.P w = .ok b w := by
 unfold eqK at hb
 split at hb
 ·injection hb with hb; subst hb
  simp only [VRel] at hc he
  subst hc; subst he
  rcases hk with ⟨_, rfl⟩ | ⟨h, _⟩ | ⟨h, _⟩
  ·exact run_equalIn_bool' w m t _ _ hd
  ·cases h
  ·cases h
 ·split at hb
  ·injection hb with hb; subst hb
   simp only [VRel] at hc he
   subst hc; subst he
   rename_i hkk
   subst hkk
   rcases hk with ⟨h, _⟩ | ⟨_, q, rfl⟩ | ⟨h, _⟩
   ·cases h
   ·exact run_equalIn_int w m t _ _ _ _ hd
   ·cases h
  ·simp at hb
 ·injection hb with hb; subst hb
  simp only [VRel] at hc he
  obtain ⟨p, rfl, hp⟩ := hc
  obtain ⟨q, rfl, hq⟩ := he
  rcases hk with ⟨h, _⟩ | ⟨h, _⟩ | ⟨_, rfl⟩
  ·cases h
  ·cases h
  ·rw [run_equalIn_string w m t _ _ hd]
   congr 1
   rw [ByteArray.toList_eq, ByteArray.toList_eq, hp, hq]
   rw [Bool.eq_iff_iff]; simp
 ·simp at hb
theorem eq_rel {X : Ctx} {μ : Mu} (w : World) : ∀ d : Nat,
  (∀ t ks cs ds xs ys b m, kindsT X d t = some ks → d ≤ m → VRels X μ cs xs → VRels X μ ds ys → eqKs ks cs ds = some b →
   sizeT X t = some ks.length ∧ ((aggT X t = some true ∧ (Op.equalIn m t (.agg xs.toArray) (.agg ys.toArray)).run X.P w = .ok b w) ∨
    (aggT X t = some false ∧ ks.length = 1 ∧ ∃ x y, xs = [x] ∧ ys = [y] ∧ (Op.equalIn m t x y).run X.P w = .ok b w))) ∧
  (∀ fs off ks cs ds xs ys b m, kindsF X d fs off = some ks → d ≤ m → VRels X μ cs xs → VRels X μ ds ys → eqKs ks (cs.drop off) (ds.drop off) = some b →
   (Op.eqFields m xs.toArray ys.toArray fs).run X.P w = .ok b w) := by
 intro d
 induction d with
 | zero => exact ⟨fun _ _ _ _ _ _ _ _ h => by simp [kindsT] at h, fun _ _ _ _ _ _ _ _ _ h => by simp [kindsF] at h⟩
 | succ d ih =>
  refine ⟨fun t ks cs ds xs ys b m hk hm hx hy hb => ?_, fun fs off ks cs ds xs ys b m hk hm hx hy hb => ?_⟩
  ·obtain ⟨m, rfl⟩ : ∃ m', m = m' + 1 := ⟨m - 1, by omega⟩
   have scalar : ∀ (D : TypeDesc) (k : Nat), descT X t = some D → ((k = 0 ∧ D = .bool) ∨ (k = 1 ∧ ∃ q, D = .int q) ∨ (k = 2 ∧ D = .string)) → sizeT X t = some 1 → ks = [k] →
     sizeT X t = some ks.length ∧ ((aggT X t = some true ∧ (Op.equalIn (m + 1) t (.agg xs.toArray) (.agg ys.toArray)).run X.P w = .ok b w) ∨
    (aggT X t = some false ∧ ks.length = 1 ∧ ∃ x y, xs = [x] ∧ ys = [y] ∧ (Op.equalIn (m + 1) t x y).run X.P w = .ok b w)) := by
    intro D k hd hD hs e
    subst e
    obtain ⟨l1, l2⟩ := eqKs_length hb
    have lx := hx.length
    have ly := hy.length
    match cs, ds, xs, ys, l1, l2, lx, ly with
    | [c], [e], [x], [y], _, _, _, _ =>
     simp only [VRels, and_true] at hx hy
     simp only [eqKs, Bool.and_true] at hb
     have hb' : eqK k c e = some b := by
      cases hq : eqK k c e <;> rw [hq] at hb <;> simp at hb; rw [hb]
     refine ⟨by simpa using hs, .inr ⟨?_, rfl, x, y, rfl, rfl, eqK_rel hd hD hx hy hb' w⟩⟩
     simp only [aggT, hd, Option.map_some]
     rcases hD with ⟨_, rfl⟩ | ⟨_, q, rfl⟩ | ⟨_, rfl⟩ <;> rfl
   simp only [kindsT] at hk
   split at hk
   ·split at hk <;> simp at hk
    rename_i hd hs
    exact scalar _ 0 hd (by simp) hs hk.symm
   ·split at hk <;> simp at hk
    rename_i hd hs
    exact scalar _ 1 hd (by simp) hs hk.symm
   ·split at hk <;> simp at hk
    rename_i hd hs
    exact scalar _ 2 hd (by simp) hs hk.symm
   ·rename_i fs hd
    split at hk
    ·rename_i hst
     split at hk
     ·rename_i ks' hkf
      split at hk
      ·rename_i hs
       injection hk with hk; subst hk
       refine ⟨hs, .inl ⟨by simp [aggT, hd], ?_⟩⟩
       have hfo : X.P.fieldsOf t = fs := by
        have hd' : X.P.underlying t = some (.struct fs) := hd
        simp [Program.fieldsOf, hd']
       rw [run_equalIn_struct w m t _ _ (by rw [hfo]; exact hd) hst, hfo]
       exact ih.2 _ 0 _ cs ds xs ys b m hkf (by omega) hx hy (by simpa using hb)
      ·simp at hk
     ·simp at hk
    ·simp at hk
   ·simp at hk
  ·obtain ⟨m, rfl⟩ : ∃ m', m = m' + 1 := ⟨m - 1, by omega⟩
   cases fs with
   | nil =>
    simp only [kindsF, Option.some.injEq] at hk
    subst hk
    cases hc : cs.drop off <;> cases he : ds.drop off <;> rw [hc, he] at hb <;> simp [eqKs] at hb
    subst hb
    simp [Op.eqFields]
   | cons f fs =>
    simp only [kindsF] at hk
    split at hk
    ·rename_i hn
     split at hk
     ·rename_i k1 hk1
      split at hk
      ·rename_i k2 hk2
       injection hk with hk; subst hk
       obtain ⟨b1, b2, e1, e2, e3⟩ := eqKs_split k1 hb
       obtain ⟨hs, ha⟩ := ih.1 f.type k1 _ _ _ _ b1 (m + 1) hk1 (by omega) (VRels.take k1.length (VRels.drop off hx)) (VRels.take k1.length (VRels.drop off hy)) e1
       have hrest := ih.2 fs (off + k1.length) k2 cs ds xs ys b2 (m + 1) hk2 (by omega) hx hy (by simpa [List.drop_drop] using e2)
       have hoff := hn.2
       have head : (do let a ← Go.part f.type xs.toArray f.offset; let c ← Go.part f.type ys.toArray f.offset; Op.equalIn (m + 1) f.type a c : Sem Bool).run X.P w = .ok b1 w := by
        rcases ha with ⟨hg, hq⟩ | ⟨hg, h1, x, y, hx1, hy1, hq⟩
        ·simp only [Sem.run_bind, run_part_agg hg hs, Result.andThen_ok, hoff]
         rw [← hq]
         congr 3 <;> (apply Array.ext'; simp [Array.toList_extract, List.extract_eq_take_drop])
        ·have gx : xs.toArray[f.offset]? = some x := by
          have := congrArg (fun l => l[0]?) hx1
          simpa [List.getElem?_take, h1, hoff] using this
         have gy : ys.toArray[f.offset]? = some y := by
          have := congrArg (fun l => l[0]?) hy1
          simpa [List.getElem?_take, h1, hoff] using this
         simp only [Sem.run_bind, run_part_cell hg _ _ _ gx, run_part_cell hg _ _ _ gy, Result.andThen_ok]
         exact hq
       simp only [Op.eqFields, Sem.run_ite, if_pos hn.1]
       simp only [Sem.run_bind] at head ⊢
       generalize (Go.part f.type xs.toArray f.offset).run X.P w = r1 at head ⊢
       cases r1 with
       | halt _ _ => simp [Result.andThen] at head
       | ok a1 w1 =>
        simp only [Result.andThen_ok] at head ⊢
        generalize (Go.part f.type ys.toArray f.offset).run X.P w1 = r2 at head ⊢
        cases r2 with
        | halt _ _ => simp [Result.andThen] at head
        | ok a2 w2 =>
         simp only [Result.andThen_ok] at head ⊢
         rw [head]
         simp only [Result.andThen_ok, Sem.run_ite]
         subst e3
         cases b1
         ·simp
         ·simpa using hrest
      ·simp at hk
     ·simp at hk
    ·simp at hk
end Go.AM
namespace Go.AM
open Go Go.RowKit
theorem trOo_rel {X : Ctx} {μ : Mu} {T : Nat → V} {a : Go.Act} {x : Option Operand} {y : Option AOpd} (hr : Rel X T a μ) (h : trOo X x = some y) (O : Nat → Obj) :
  (x = none ∧ y = none) ∨ ∃ x' y', x = some x' ∧ y = some y' ∧ VRel X μ (evalOpd ⟨T, O⟩ y') (a.eval x') := by
 cases x with
 | none => simp [trOo] at h; exact .inl ⟨rfl, h.symm⟩
 | some x =>
  simp only [trOo, Option.map_eq_some_iff] at h
  obtain ⟨c, h1, rfl⟩ := h
  exact .inr ⟨x, c, rfl, rfl, trO_rel hr h1 O⟩
section
variable {X : Ctx} {E : Env} {C : Oracle} {o : Oper} {a : Go.Act} {T : Nat → V} {μ : Mu} {v : V} {σ' : St}
theorem binV_rel {op : BinOp} {t : TypeId} {x y : V} {xv yv : Value} {u : V} (hx : VRel X μ x xv) (hy : VRel X μ y yv) (h : binV op x y = some u) (p q : Operand) :
  ∃ val, (do eqGuard op t p q xv yv; Go.binOp op t xv yv : Sem Value).run X.P μ.w = .ok val μ.w ∧ VRel X μ u val := by
 unfold binV at h
 split at h
 ·rename_i k n k' n'
  simp only [VRel] at hx hy
  subst hx; subst hy
  have hg : (eqGuard op t p q (.int k n) (.int k' n')).run X.P μ.w = .ok () μ.w := by
   cases op <;> simp [eqGuard]
  simp only [Sem.run_bind, hg, Result.andThen_ok]
  cases op with
  | shl =>
   simp only at h
   split at h <;> simp at h
   subst h
   rename_i hb
   exact ⟨.int k (k.wrap (n * 2 ^ min n'.toNat k.bits)), by simp [Go.binOp, Op.shift, hb], by simp [VRel]⟩
  | shr =>
   simp only at h
   split at h <;> simp at h
   subst h
   rename_i hb
   exact ⟨.int k (n.fdiv (2 ^ min n'.toNat k.bits)), by simp [Go.binOp, Op.shift, hb], by simp [VRel]⟩
  | quo =>
   simp only at h
   split at h
   ·rename_i hk; subst hk
    split at h <;> simp at h
    subst h
    rename_i hb
    exact ⟨.int k (k.wrap (n.tdiv n')), by simp [Go.binOp, Op.intDiv, hb], by simp [VRel]⟩
   ·simp at h
  | rem =>
   simp only at h
   split at h
   ·rename_i hk; subst hk
    split at h <;> simp at h
    subst h
    rename_i hb
    exact ⟨.int k (n.tmod n'), by simp [Go.binOp, Op.intDiv, hb], by simp [VRel]⟩
   ·simp at h
  | _ =>
   simp only at h
   split at h
   ·rename_i hk; subst hk
    simp only [bitsInt, cmpInt, Option.some.injEq] at h
    subst h
    exact ⟨_, by simp [Go.binOp, Op.intArith, Op.intBits, Op.intCmp]; rfl, by simp [VRel]⟩
   ·simp at h
 ·rename_i s s'
  simp only [VRel] at hx hy
  obtain ⟨bs, rfl, rfl⟩ := hx
  obtain ⟨cs, rfl, rfl⟩ := hy
  have hg : (eqGuard op t p q (.string bs) (.string cs)).run X.P μ.w = .ok () μ.w := by
   cases op <;> simp [eqGuard]
  simp only [Sem.run_bind, hg, Result.andThen_ok]
  have he : (bs.toList == cs.toList) = decide (bs.data.toList = cs.data.toList) := by
   rw [ByteArray.toList_eq, ByteArray.toList_eq, Bool.eq_iff_iff]; simp
  cases op with
  | add =>
   simp only at h
   split at h <;> simp at h
   subst h
   rename_i hl
   have hl' : ¬ ((bs.size + cs.size : Nat) : Int) > IntKind.i64.max := by
    have hm : IntKind.i64.max = 9223372036854775807 := by decide
    have h1 : bs.data.toList.length = bs.size := by rw [Array.length_toList]; rfl
    have h2 : cs.data.toList.length = cs.size := by rw [Array.length_toList]; rfl
    rw [hm]; rw [h1, h2] at hl; omega
   refine ⟨.string (bs ++ cs), by simp only [Go.binOp, Op.stringOp]; rw [if_neg hl']; rfl, ?_⟩
   simp [VRel, ByteArray.data_append]
  | _ =>
   simp only [Option.some.injEq, reduceCtorEq] at h
   try (subst h; refine ⟨_, by simp only [Go.binOp, Op.stringOp]; rfl, ?_⟩; simp only [VRel, he] <;> simp only [ByteArray.toList_eq])
 ·simp at h
theorem op_bin {op : BinOp} {t t2 : TypeId} {x y : Operand} {x' y' : AOpd} (hr : Rel X T a μ) (ho : o.op = .binOp op t x y t2) (h1 : trO X x = some x') (h2 : trO X y = some y')
  (hrun : (opAct E (.bin op x' y')).run C ⟨T, μ.O⟩ = some (v, σ')) : σ'.T = T ∧ Done X o a μ σ'.O v := by
 simp only [opAct, run_ev] at hrun
 obtain ⟨hb, rfl⟩ := run_give hrun
 obtain ⟨val, hv, hrel⟩ := binV_rel (t := t) (trO_rel hr h1 μ.O) (trO_rel hr h2 μ.O) hb x y
 refine ⟨rfl, done_pure hr.objs ?_ hrel⟩
 simp only [execOp, ho]
 exact run_v hv
theorem op_eqB {op : BinOp} {t t2 : TypeId} {x y : Operand} {x' y' : AOpd} (hr : Rel X T a μ) (ho : o.op = .binOp op t x y t2) (hop : op = .eql ∨ op = .neq) (hd : descT X t = some .bool)
  (h1 : trO X x = some x') (h2 : trO X y = some y') {neg : Bool} (hn : neg = isNeq op)
  (hrun : (opAct E (.eqB neg x' y')).run C ⟨T, μ.O⟩ = some (v, σ')) : σ'.T = T ∧ Done X o a μ σ'.O v := by
 simp only [opAct, run_ev] at hrun
 have hx := trO_rel hr h1 μ.O
 have hy := trO_rel hr h2 μ.O
 split at hrun
 ·rename_i p q e1 e2
  obtain ⟨rfl, rfl⟩ := run_done hrun
  rw [e1] at hx; rw [e2] at hy
  simp only [VRel] at hx hy
  refine ⟨rfl, done_pure (val := .bool ((p == q) != neg)) hr.objs ?_ (by simp [VRel])⟩
  simp only [execOp, ho]
  refine run_v ?_
  have heq : (Op.equal t (.bool p) (.bool q)).run X.P μ.w = .ok (p == q) μ.w := run_equalIn_bool' μ.w 9999 t p q hd
  rcases hop with rfl | rfl
  ·subst hn
   simp [eqGuard, hx, hy, Go.binOp, Sem.run_bind, heq, isNeq]
  ·subst hn
   simp [eqGuard, hx, hy, Go.binOp, Sem.run_bind, heq, isNeq]
 ·exact absurd hrun run_fail
theorem op_eqA {op : BinOp} {t t2 : TypeId} {x y : Operand} {x' y' : AOpd} {ks : List Nat} (hr : Rel X T a μ) (ho : o.op = .binOp op t x y t2) (hop : op = .eql ∨ op = .neq)
  (hg : X.P.eqGuardType X.P.depth t = false) (hk : kindsT X 100 t = some ks) (hs : ∃ fs, descT X t = some (.struct fs))
  (h1 : trO X x = some x') (h2 : trO X y = some y') {neg : Bool} (hn : neg = isNeq op)
  (hrun : (opAct E (.eqA neg ks x' y')).run C ⟨T, μ.O⟩ = some (v, σ')) : σ'.T = T ∧ Done X o a μ σ'.O v := by
 simp only [opAct, run_ev] at hrun
 have hx := trO_rel hr h1 μ.O
 have hy := trO_rel hr h2 μ.O
 split at hrun
 ·rename_i p q e1 e2
  split at hrun
  ·rename_i b hb
   obtain ⟨rfl, rfl⟩ := run_done hrun
   rw [e1] at hx; rw [e2] at hy
   simp only [VRel] at hx hy
   obtain ⟨_, xs, hxs, hvx⟩ := hx
   obtain ⟨_, ys, hys, hvy⟩ := hy
   refine ⟨rfl, done_pure (val := .bool (b != neg)) hr.objs ?_ (by simp [VRel])⟩
   simp only [execOp, ho]
   refine run_v ?_
   obtain ⟨_, hh⟩ := (eq_rel (X := X) (μ := μ) μ.w 100).1 t ks p q _ _ b 10000 hk (by omega) hvx hvy hb
   obtain ⟨fs, hfs⟩ := hs
   have hagg : aggT X t = some true := by simp [aggT, hfs]
   rcases hh with ⟨_, hh⟩ | ⟨hh, _⟩
   ·have heq : (Op.equal t (.agg xs) (.agg ys)).run X.P μ.w = .ok b μ.w := by simpa [Op.equal, Op.maxDepth] using hh
    have hgd : (eqGuard op t x y (.agg xs) (.agg ys)).run X.P μ.w = .ok () μ.w := run_eqGuard_agg μ.w op t x y xs ys hg
    rw [hxs, hys]
    rcases hop with rfl | rfl
    ·subst hn
     simp only [Sem.run_bind, hgd, Result.andThen_ok, Go.binOp, heq, isNeq]; simp
    ·subst hn
     simp only [Sem.run_bind, hgd, Result.andThen_ok, Go.binOp, heq, isNeq]; simp
   ·rw [hagg] at hh; cases hh
  ·exact absurd hrun run_fail
 ·exact absurd hrun run_fail
theorem kindOf_mem {t k : Nat} : ∀ {ks : List (Nat × Nat)}, kindOf t ks = some k → (t, k) ∈ ks
 | [], h => by simp [kindOf] at h
 | (t', k') :: ks, h => by
  simp only [kindOf] at h
  cases hb : Nat.beq t' t with
  | true =>
   have := Nat.eq_of_beq_eq_true hb
   rw [hb] at h
   simp at h; subst h; subst this; simp
  | false =>
   rw [hb] at h
   exact List.mem_cons_of_mem _ (kindOf_mem h)
theorem ifKinds_mem {X : TrEnv} {t k : Nat} (h : (t, k) ∈ ifKinds X) : ∃ T i D, X.tnum T = some t ∧ X.P.info? T = some i ∧ i.comparable = true ∧ descT X T = some D ∧
  ((k = 0 ∧ D = .bool) ∨ (k = 1 ∧ ∃ q, D = .int q) ∨ (k = 2 ∧ D = .string)) := by
 simp only [ifKinds, List.mem_filterMap] at h
 obtain ⟨T, _, h⟩ := h
 split at h
 ·rename_i h1 h2 h3
  simp only [Option.map_eq_some_iff] at h2
  obtain ⟨i, hi, hc⟩ := h2
  simp at h; obtain ⟨rfl, rfl⟩ := h
  exact ⟨T, i, _, h1, hi, hc, h3, .inl ⟨rfl, rfl⟩⟩
 ·rename_i h1 h2 h3
  simp only [Option.map_eq_some_iff] at h2
  obtain ⟨i, hi, hc⟩ := h2
  simp at h; obtain ⟨rfl, rfl⟩ := h
  exact ⟨T, i, _, h1, hi, hc, h3, .inr (.inl ⟨rfl, _, rfl⟩)⟩
 ·rename_i h1 h2 h3
  simp only [Option.map_eq_some_iff] at h2
  obtain ⟨i, hi, hc⟩ := h2
  simp at h; obtain ⟨rfl, rfl⟩ := h
  exact ⟨T, i, _, h1, hi, hc, h3, .inr (.inr ⟨rfl, rfl⟩)⟩
 ·simp at h
theorem run_equalIn_iface {P : Program} {w : World} (d : Nat) {ti tp : TypeId} {ms : Array (String × TypeId)} {i : TypeInfo} {u v : Value} {b : Bool} (hi : P.underlying ti = some (.interface ms)) (hinfo : P.info? tp = some i) (hcomp : i.comparable = true)
  (h : (Op.equalIn d tp u v).run P w = .ok b w) : (Op.equalIn (d + 1) ti (.iface tp u) (.iface tp v)).run P w = .ok b w := by
 simp [Op.equalIn, run_underlying hi, typeInfo, hinfo, hcomp, h]
theorem run_equalIn_nl {P : Program} {w : World} (d : Nat) {ti tp : TypeId} {ms : Array (String × TypeId)} {u : Value} (hi : P.underlying ti = some (.interface ms)) :
  (Op.equalIn (d + 1) ti .nilIface (.iface tp u)).run P w = .ok false w := by
 simp [Op.equalIn, run_underlying hi]
theorem run_equalIn_nr {P : Program} {w : World} (d : Nat) {ti tp : TypeId} {ms : Array (String × TypeId)} {u : Value} (hi : P.underlying ti = some (.interface ms)) :
  (Op.equalIn (d + 1) ti (.iface tp u) .nilIface).run P w = .ok false w := by
 simp [Op.equalIn, run_underlying hi]
theorem op_eqI {op : BinOp} {t t2 : TypeId} {x y : Operand} {x' y' : AOpd} (hr : Rel X T a μ) (ho : o.op = .binOp op t x y t2) (hop : op = .eql ∨ op = .neq) (hd : ∃ ms, descT X t = some (.interface ms))
  (hinj : ∀ t1 t2 k, X.tnum t1 = some k → X.tnum t2 = some k → t1 = t2)
  (h1 : trO X x = some x') (h2 : trO X y = some y') {neg : Bool} (hn : neg = isNeq op)
  (hrun : (opAct E (.eqI neg (ifKinds X) x' y')).run C ⟨T, μ.O⟩ = some (v, σ')) : σ'.T = T ∧ Done X o a μ σ'.O v := by
 simp only [opAct, run_ev] at hrun
 have hx := trO_rel hr h1 μ.O
 have hy := trO_rel hr h2 μ.O
 obtain ⟨ms, hd⟩ := hd
 have fin : ∀ b, (Op.equal t (a.eval x) (a.eval y)).run X.P μ.w = .ok b μ.w → (eqGuard op t x y (a.eval x) (a.eval y)).run X.P μ.w = .ok () μ.w →
   (∀ k1 k2 m1 m2, ¬ (a.eval x = .int k1 m1 ∧ a.eval y = .int k2 m2)) →
   (Go.binOp op t (a.eval x) (a.eval y)).run X.P μ.w = .ok (.bool (b != neg)) μ.w → Done X o a μ μ.O (.bool (b != neg)) := fun b heq hgd _ hb => by
  refine done_pure (val := .bool (b != neg)) hr.objs ?_ (by simp [VRel])
  simp only [execOp, ho]
  refine run_v ?_
  simp only [Sem.run_bind, hgd, Result.andThen_ok, hb]
 split at hrun
 ·rename_i s p s' q e1 e2
  rw [e1] at hx; rw [e2] at hy
  simp only [VRel] at hx hy
  obtain ⟨T1, u1, hx, ht1, hp⟩ := hx
  obtain ⟨T2, u2, hy, ht2, hq⟩ := hy
  split at hrun
  ·rename_i hss
   subst hss
   split at hrun
   ·rename_i k hk
    split at hrun
    ·rename_i b hb
     obtain ⟨rfl, rfl⟩ := run_done hrun
     obtain ⟨T0, i, D, k1, k2, k3, k4, k5⟩ := ifKinds_mem (kindOf_mem hk)
     obtain rfl := hinj T1 T0 _ ht1 k1
     obtain rfl := hinj T2 T1 _ ht2 k1
     have heq : (Op.equal t (.iface T2 u1) (.iface T2 u2)).run X.P μ.w = .ok b μ.w :=
      run_equalIn_iface 9999 hd k2 k3 (eqK_rel (m := 9998) k4 k5 hp hq hb μ.w)
     refine ⟨rfl, fin b (by rw [hx, hy]; exact heq) (by rw [hx, hy]; rcases hop with rfl | rfl <;> simp [eqGuard]) (by simp [hx]) ?_⟩
     rw [hx, hy]
     rcases hop with rfl | rfl
     ·subst hn
      simp [Go.binOp, Sem.run_bind, heq, isNeq]
     ·subst hn
      simp [Go.binOp, Sem.run_bind, heq, isNeq]
    ·exact absurd hrun run_fail
   ·exact absurd hrun run_fail
  ·exact absurd hrun run_fail
 ·rename_i s p e1 e2
  rw [e1] at hx; rw [e2] at hy
  simp only [VRel] at hx hy
  obtain ⟨T2, u2, hy, ht2, hq⟩ := hy
  obtain ⟨rfl, rfl⟩ := run_done hrun
  have heq : (Op.equal t .nilIface (.iface T2 u2)).run X.P μ.w = .ok false μ.w := run_equalIn_nl 9999 hd
  refine ⟨rfl, ?_⟩
  have := fin false (by rw [hx, hy]; exact heq) (by rw [hx, hy]; rcases hop with rfl | rfl <;> simp [eqGuard]) (by simp [hx]) (by
   rw [hx, hy]
   rcases hop with rfl | rfl
   ·subst hn
    simp [Go.binOp, Sem.run_bind, heq, isNeq]
   ·subst hn
    simp [Go.binOp, Sem.run_bind, heq, isNeq])
  simpa using this
 ·rename_i s p e1 e2
  rw [e1] at hx; rw [e2] at hy
  simp only [VRel] at hx hy
  obtain ⟨T2, u2, hx, ht2, hq⟩ := hx
  obtain ⟨rfl, rfl⟩ := run_done hrun
  have heq : (Op.equal t (.iface T2 u2) .nilIface).run X.P μ.w = .ok false μ.w := run_equalIn_nr 9999 hd
  refine ⟨rfl, ?_⟩
  have := fin false (by rw [hx, hy]; exact heq) (by rw [hx, hy]; rcases hop with rfl | rfl <;> simp [eqGuard]) (by simp [hx]) (by
   rw [hx, hy]
   rcases hop with rfl | rfl
   ·subst hn
    simp [Go.binOp, Sem.run_bind, heq, isNeq]
   ·subst hn
    simp [Go.binOp, Sem.run_bind, heq, isNeq])
  simpa using this
 ·exact absurd hrun run_fail
theorem op_un {op : UnOp} {t : TypeId} {x : Operand} {x' : AOpd} (hr : Rel X T a μ) (ho : o.op = .unOp op t x) (h1 : trO X x = some x')
  (hrun : (opAct E (.un op x')).run C ⟨T, μ.O⟩ = some (v, σ')) : σ'.T = T ∧ Done X o a μ σ'.O v := by
 simp only [opAct, run_ev] at hrun
 obtain ⟨hb, rfl⟩ := run_give hrun
 have hx := trO_rel hr h1 μ.O
 have : ∃ val, (Op.unary op (a.eval x)).run X.P μ.w = .ok val μ.w ∧ VRel X μ v val := by
  unfold unV at hb
  split at hb
  ·rename_i k n e
   simp at hb; subst hb
   rw [e] at hx; simp only [VRel] at hx
   exact ⟨.int k (k.wrap (0 - n)), by simp [hx, Op.unary, Op.intArith], by simp [VRel]⟩
  ·rename_i b e
   simp at hb; subst hb
   rw [e] at hx; simp only [VRel] at hx
   exact ⟨.bool (!b), by simp [hx, Op.unary], by simp [VRel]⟩
  ·rename_i k n e
   simp only [bitsInt, Option.some.injEq] at hb; subst hb
   rw [e] at hx; simp only [VRel] at hx
   exact ⟨_, by simp [hx, Op.unary, Op.intBits]; rfl, by simp [VRel]⟩
  ·simp at hb
 obtain ⟨val, h2, h3⟩ := this
 refine ⟨rfl, done_pure hr.objs ?_ h3⟩
 simp only [execOp, ho]
 exact run_v h2
theorem op_convInt {s d : TypeId} {x : Operand} {x' : AOpd} {k k0 : IntKind} (hr : Rel X T a μ) (ho : o.op = .convert s d x) (hs : descT X s = some (.int k0)) (hd : descT X d = some (.int k))
  (h1 : trO X x = some x') (hrun : (opAct E (.convInt k x')).run C ⟨T, μ.O⟩ = some (v, σ')) : σ'.T = T ∧ Done X o a μ σ'.O v := by
 simp only [opAct, run_ev] at hrun
 have hx := trO_rel hr h1 μ.O
 split at hrun
 ·rename_i k1 n1 e
  obtain ⟨rfl, rfl⟩ := run_done hrun
  rw [e] at hx; simp only [VRel] at hx
  refine ⟨rfl, done_pure (val := .int k (k.wrap n1)) hr.objs ?_ (by simp [VRel])⟩
  simp only [execOp, ho]
  refine run_v ?_
  simp [convert, Sem.run_bind, run_underlying hs, run_underlying hd, hx, Conv.intToInt]
 ·exact absurd hrun run_fail
theorem op_convIF {s d : TypeId} {x : Operand} {x' : AOpd} {k0 : IntKind} (hr : Rel X T a μ) (ho : o.op = .convert s d x) (hs : descT X s = some (.int k0)) (hd : descT X d = some (.float .f64))
  (h1 : trO X x = some x') (hrun : (opAct E (.convIF x')).run C ⟨T, μ.O⟩ = some (v, σ')) : σ'.T = T ∧ Done X o a μ σ'.O v := by
 simp only [opAct, run_ev] at hrun
 have hx := trO_rel hr h1 μ.O
 split at hrun
 ·rename_i k1 n1 e
  obtain ⟨rfl, rfl⟩ := run_done hrun
  rw [e] at hx; simp only [VRel] at hx
  refine ⟨rfl, done_pure (val := .float .f64 (FloatKind.f64.nearest n1)) hr.objs ?_ (by simp [VRel])⟩
  simp only [execOp, ho]
  refine run_v ?_
  simp [convert, Sem.run_bind, run_underlying hs, run_underlying hd, hx, Conv.intToFloat]
 ·exact absurd hrun run_fail
theorem op_convFI {s d : TypeId} {x : Operand} {x' : AOpd} {k : IntKind} (hr : Rel X T a μ) (ho : o.op = .convert s d x) (hs : descT X s = some (.float .f64)) (hd : descT X d = some (.int k))
  (h1 : trO X x = some x') (hrun : (opAct E (.convFI k x')).run C ⟨T, μ.O⟩ = some (v, σ')) : σ'.T = T ∧ Done X o a μ σ'.O v := by
 simp only [opAct, run_ev] at hrun
 have hx := trO_rel hr h1 μ.O
 split at hrun
 ·rename_i b e
  split at hrun
  ·rename_i n hn
   split at hrun
   ·rename_i hle
    obtain ⟨rfl, rfl⟩ := run_done hrun
    rw [e] at hx; simp only [VRel] at hx
    refine ⟨rfl, done_pure (val := .int k n) hr.objs ?_ (by simp [VRel])⟩
    simp only [execOp, ho]
    refine run_v ?_
    simp [convert, Sem.run_bind, run_underlying hs, run_underlying hd, hx, Conv.floatToInt, hn, hle]
   ·exact absurd hrun run_fail
  ·exact absurd hrun run_fail
 ·exact absurd hrun run_fail
theorem op_convStr {s d : TypeId} {x : Operand} {x' : AOpd} (hr : Rel X T a μ) (ho : o.op = .convert s d x) (hs : descT X s = some .string) (hd : descT X d = some .string)
  (h1 : trO X x = some x') (hrun : (opAct E (.convStr x')).run C ⟨T, μ.O⟩ = some (v, σ')) : σ'.T = T ∧ Done X o a μ σ'.O v := by
 simp only [opAct, run_ev] at hrun
 have hx := trO_rel hr h1 μ.O
 split at hrun
 ·rename_i b e
  obtain ⟨rfl, rfl⟩ := run_done hrun
  rw [e] at hx; simp only [VRel] at hx
  obtain ⟨bs, hbs, rfl⟩ := hx
  refine ⟨rfl, done_pure (val := .string bs) hr.objs ?_ (by simp [VRel])⟩
  simp only [execOp, ho]
  refine run_v ?_
  simp [convert, Sem.run_bind, run_underlying hs, run_underlying hd, hbs]
 ·exact absurd hrun run_fail
theorem run_builtin {c : Call} {b : Builtin} {val : Value} {w w' : World} (ho : o.op = .call c) (hc : c.callee = .builtin b)
  (h : (builtin b c.argTypes o.type (c.args.map fun | .const _ => true | _ => false) (c.args.map a.eval)).run X.P w = .ok (.value val) w') :
  (execOp a.eval o).run X.P w = .ok (.value val) w' := by
 simp only [execOp, ho, resolve, hc, Sem.run_bind, Sem.run_pure, Result.andThen_ok, invoke]
 exact h
theorem op_len {c : Call} {x : Operand} {t e : TypeId} {x' : AOpd} (hr : Rel X T a μ) (ho : o.op = .call c) (hc : c.callee = .builtin .len) (ha : c.args = #[x]) (ht : c.argTypes = #[t])
  (hd : descT X t = some (.slice e)) (h1 : trO X x = some x') (hrun : (opAct E (.len x')).run C ⟨T, μ.O⟩ = some (v, σ')) :
  σ'.T = T ∧ Done X o a μ σ'.O v := by
 simp only [opAct, run_ev] at hrun
 obtain ⟨hb, rfl⟩ := run_give hrun
 have hx := trO_rel hr h1 μ.O
 have key : ∃ n : Nat, (Builtin.len_ #[t] o.type #[a.eval x]).run X.P μ.w = .ok (goInt n) μ.w ∧ v = .int .i64 n := by
  cases hy : evalOpd ⟨T, μ.O⟩ x' <;> rw [hy] at hb hx <;> simp [lenV] at hb
  ·simp only [VRel] at hx
   obtain ⟨p, hp⟩ := hx
   exact ⟨0, by simp [Builtin.len_, Sem.run_bind, run_underlying hd, hp], hb.symm⟩
  ·simp only [VRel] at hx
   obtain ⟨_, _, p, cap, vs, hp, _⟩ := hx
   exact ⟨_, by simp [Builtin.len_, Sem.run_bind, run_underlying hd, hp], hb.symm⟩
  ·simp only [VRel] at hx
   obtain ⟨p, cap, hp, _⟩ := hx
   exact ⟨_, by simp [Builtin.len_, Sem.run_bind, run_underlying hd, hp], hb.symm⟩
 obtain ⟨n, h2, rfl⟩ := key
 refine ⟨rfl, done_pure (val := goInt n) hr.objs ?_ (by simp [VRel, goInt])⟩
 refine run_builtin ho hc ?_
 simp only [builtin, ha, ht]
 refine run_v ?_
 simpa using h2
theorem op_lenStr {c : Call} {x : Operand} {t : TypeId} {x' : AOpd} (hr : Rel X T a μ) (ho : o.op = .call c) (hc : c.callee = .builtin .len) (ha : c.args = #[x]) (ht : c.argTypes = #[t])
  (hd : descT X t = some .string) (h1 : trO X x = some x') (hrun : (opAct E (.lenStr x')).run C ⟨T, μ.O⟩ = some (v, σ')) :
  σ'.T = T ∧ Done X o a μ σ'.O v := by
 simp only [opAct, run_ev] at hrun
 have hx := trO_rel hr h1 μ.O
 split at hrun
 ·rename_i s e
  obtain ⟨rfl, rfl⟩ := run_done hrun
  rw [e] at hx; simp only [VRel] at hx
  obtain ⟨bs, hbs, rfl⟩ := hx
  refine ⟨rfl, done_pure (val := goInt bs.size) hr.objs ?_ (by simp only [VRel, goInt]; rw [Array.length_toList]; rfl)⟩
  refine run_builtin ho hc ?_
  simp only [builtin, ha, ht]
  refine run_v ?_
  simp [Builtin.len_, Sem.run_bind, run_underlying hd, hbs]
 ·exact absurd hrun run_fail
theorem op_lenArr {c : Call} {x : Operand} {t e : TypeId} {n : Nat} (hr : Rel X T a μ) (ho : o.op = .call c) (hc : c.callee = .builtin .len) (ha : c.args = #[x]) (ht : c.argTypes = #[t])
  (hd : descT X t = some (.array n e)) (hrun : (opAct E (.move (.const (.int .i64 n)))).run C ⟨T, μ.O⟩ = some (v, σ')) :
  σ'.T = T ∧ Done X o a μ σ'.O v := by
 simp only [opAct, run_ev, evalOpd] at hrun
 obtain ⟨rfl, rfl⟩ := run_done hrun
 refine ⟨rfl, done_pure (val := goInt n) hr.objs ?_ (by simp [VRel, goInt])⟩
 refine run_builtin ho hc ?_
 simp only [builtin, ha, ht]
 refine run_v ?_
 simp [Builtin.len_, Sem.run_bind, run_underlying hd]
theorem foldV_min {w : World} : ∀ {xs : List V} {x : V} {u : V} {xv : Value} {vs : List Value}, VRel X μ x xv → VRels X μ xs vs → foldV min2 (x :: xs) = some u →
  ∃ val, (vs.foldlM Builtin.min2 xv).run X.P w = .ok val w ∧ VRel X μ u val
 | [], x, u, xv, [], hx, _, h => by simp [foldV, foldV1] at h; subst h; exact ⟨xv, by simp, hx⟩
 | [], _, _, _, _ :: _, _, hv, _ => by simp [VRels] at hv
 | _ :: _, _, _, _, [], _, hv, _ => by simp [VRels] at hv
 | y :: ys, x, u, xv, yv :: vs, hx, hv, h => by
  simp only [VRels] at hv
  simp only [foldV, foldV1] at h
  split at h
  ·rename_i z hz
   have : ∃ zv, (Builtin.min2 xv yv).run X.P w = .ok zv w ∧ VRel X μ z zv := by
    unfold min2 at hz
    split at hz
    ·split at hz <;> simp at hz
     rename_i hk; subst hk; subst hz
     have h1 := hv.1
     simp only [VRel] at hx h1
     subst hx; subst h1
     exact ⟨_, by simp [Builtin.min2]; rfl, by simp [VRel]⟩
    ·simp at hz
   obtain ⟨zv, h1, h2⟩ := this
   obtain ⟨val, h3, h4⟩ := foldV_min (w := w) h2 hv.2 h
   exact ⟨val, by simp [List.foldlM_cons, Sem.run_bind, h1, h3], h4⟩
  ·simp at h
theorem foldV_max {w : World} : ∀ {xs : List V} {x : V} {u : V} {xv : Value} {vs : List Value}, VRel X μ x xv → VRels X μ xs vs → foldV max2 (x :: xs) = some u →
  ∃ val, (vs.foldlM Builtin.max2 xv).run X.P w = .ok val w ∧ VRel X μ u val
 | [], x, u, xv, [], hx, _, h => by simp [foldV, foldV1] at h; subst h; exact ⟨xv, by simp, hx⟩
 | [], _, _, _, _ :: _, _, hv, _ => by simp [VRels] at hv
 | _ :: _, _, _, _, [], _, hv, _ => by simp [VRels] at hv
 | y :: ys, x, u, xv, yv :: vs, hx, hv, h => by
  simp only [VRels] at hv
  simp only [foldV, foldV1] at h
  split at h
  ·rename_i z hz
   have : ∃ zv, (Builtin.max2 xv yv).run X.P w = .ok zv w ∧ VRel X μ z zv := by
    unfold max2 at hz
    split at hz
    ·split at hz <;> simp at hz
     rename_i hk; subst hk; subst hz
     have h1 := hv.1
     simp only [VRel] at hx h1
     subst hx; subst h1
     exact ⟨_, by simp [Builtin.max2]; rfl, by simp [VRel]⟩
    ·simp at hz
   obtain ⟨zv, h1, h2⟩ := this
   obtain ⟨val, h3, h4⟩ := foldV_max (w := w) h2 hv.2 h
   exact ⟨val, by simp [List.foldlM_cons, Sem.run_bind, h1, h3], h4⟩
  ·simp at h
theorem op_min {c : Call} {xs : List AOpd} (hr : Rel X T a μ) (ho : o.op = .call c) (hc : c.callee = .builtin .min) (h1 : trOs X c.args.toList = some xs)
  (hrun : (opAct E (.min xs)).run C ⟨T, μ.O⟩ = some (v, σ')) : σ'.T = T ∧ Done X o a μ σ'.O v := by
 simp only [opAct, run_evs] at hrun
 obtain ⟨hb, rfl⟩ := run_give hrun
 have hx := trOs_rel hr μ.O h1
 generalize hq : xs.map (evalOpd ⟨T, μ.O⟩) = us at hb hx
 generalize hp : c.args.toList.map a.eval = vs at hx
 match us, vs, hx, hb with
 | [], _, _, hb => simp [foldV, foldV1] at hb
 | u :: us, [], hx, _ => simp [VRels] at hx
 | u :: us, y :: vs, hx, hb =>
  simp only [VRels] at hx
  obtain ⟨val, h2, h3⟩ := foldV_min (w := μ.w) hx.1 hx.2 hb
  refine ⟨rfl, done_pure (val := val) hr.objs (run_builtin ho hc ?_) h3⟩
  simp only [builtin]
  refine run_v ?_
  simp only [Builtin.min_, Array.toList_map, hp]
  exact h2
theorem op_max {c : Call} {xs : List AOpd} (hr : Rel X T a μ) (ho : o.op = .call c) (hc : c.callee = .builtin .max) (h1 : trOs X c.args.toList = some xs)
  (hrun : (opAct E (.max xs)).run C ⟨T, μ.O⟩ = some (v, σ')) : σ'.T = T ∧ Done X o a μ σ'.O v := by
 simp only [opAct, run_evs] at hrun
 obtain ⟨hb, rfl⟩ := run_give hrun
 have hx := trOs_rel hr μ.O h1
 generalize hq : xs.map (evalOpd ⟨T, μ.O⟩) = us at hb hx
 generalize hp : c.args.toList.map a.eval = vs at hx
 match us, vs, hx, hb with
 | [], _, _, hb => simp [foldV, foldV1] at hb
 | u :: us, [], hx, _ => simp [VRels] at hx
 | u :: us, y :: vs, hx, hb =>
  simp only [VRels] at hx
  obtain ⟨val, h2, h3⟩ := foldV_max (w := μ.w) hx.1 hx.2 hb
  refine ⟨rfl, done_pure (val := val) hr.objs (run_builtin ho hc ?_) h3⟩
  simp only [builtin]
  refine run_v ?_
  simp only [Builtin.max_, Array.toList_map, hp]
  exact h2
end
end Go.AM
namespace Go.AM
open Go Go.RowKit
theorem addr_add (b q n : Nat) : (⟨b, q, none⟩ : Addr).add n = ⟨b, q + n, none⟩ := by unfold Addr.add; split <;> simp_all
theorem arePure_get : ∀ {xs : List V} {i : Nat} {x : V}, V.arePure xs = true → xs[i]? = some x → V.isPure x = true
 | [], _, _, _, h => by simp at h
 | y :: ys, 0, x, hp, h => by simp [V.arePure] at hp; simp at h; rw [← h]; exact hp.1
 | y :: ys, i + 1, x, hp, h => by simp [V.arePure] at hp; simp at h; exact arePure_get hp.2 h
theorem arePure_take : ∀ {xs : List V} (n : Nat), V.arePure xs = true → V.arePure (xs.take n) = true
 | _, 0, _ => by simp [V.arePure]
 | [], n + 1, _ => by simp [V.arePure]
 | y :: ys, n + 1, h => by simp [V.arePure] at h ⊢; exact ⟨h.1, arePure_take n h.2⟩
theorem arePure_drop : ∀ {xs : List V} (n : Nat), V.arePure xs = true → V.arePure (xs.drop n) = true
 | _, 0, h => by simpa using h
 | [], n + 1, _ => by simp [V.arePure]
 | y :: ys, n + 1, h => by simp [V.arePure] at h; simpa using arePure_drop n h.2
theorem all_takeO {p : V → Bool} {xs : List V} (n : Nat) (h : xs.all p = true) : (xs.take n).all p = true := by
 simp only [List.all_eq_true] at h ⊢
 exact fun x hx => h x (List.mem_of_mem_take hx)
theorem all_drop {p : V → Bool} {xs : List V} (n : Nat) (h : xs.all p = true) : (xs.drop n).all p = true := by
 simp only [List.all_eq_true] at h ⊢
 exact fun x hx => h x (List.mem_of_mem_drop hx)
theorem RowAt.drop {w : World} {b off sz : Nat} {vs : List Value} (h : RowAt w b off sz vs) (n : Nat) : RowAt w b (off + n * sz) sz (vs.drop n) := by
 intro i v hv
 simp only [List.getElem?_drop] at hv
 obtain ⟨h1, h2⟩ := h (n + i) v hv
 refine ⟨h1, fun j c hc => ?_⟩
 rw [← h2 j c hc]
 congr 2
 rw [Nat.add_mul]; omega
theorem RowAt.take {w : World} {b off sz : Nat} {vs : List Value} (h : RowAt w b off sz vs) (n : Nat) : RowAt w b off sz (vs.take n) := by
 intro i v hv
 rw [List.getElem?_take] at hv
 split at hv
 ·exact h i v hv
 ·simp at hv
section
variable {X : Ctx} {E : Env} {C : Oracle} {o : Oper} {a : Go.Act} {T : Nat → V} {μ : Mu} {v : V} {σ' : St}
theorem load_from {t : TypeId} {e u : V} {x : Value} {off sz : Nat} {agg : Bool} {w : World} {b q : Nat} (hx : VRel X μ e x) (hp : part agg off sz e = some u)
  (hg : aggT X t = some agg) (hn : sizeT X t = some sz) (hm : ∀ j c, x.cells[j]? = some c → w.cell? ⟨b, q + j, none⟩ = some c) :
  ∃ val, (loadVar t ⟨b, q + off, none⟩).run X.P w = .ok val w ∧ VRel X μ u val := by
 cases agg with
 | true =>
  obtain ⟨cs, rfl, hle, hv⟩ := part_agg_rel hx hp
  refine ⟨_, ?_, hv⟩
  have hl : (cs.extract off (off + sz)).toList.length = sz := by simp; omega
  have := run_loadCells_list (P := X.P) w ⟨b, q + off, none⟩ (cs.extract off (off + sz)).toList (fun j c hc => by
   rw [addr_add]
   have hc' : cs[off + j]? = some c := by
    rw [Array.toList_extract, List.extract_eq_take_drop, List.getElem?_take] at hc
    split at hc
    ·simpa using hc
    ·simp at hc
   have := hm (off + j) c (by simpa [Value.cells] using hc')
   rwa [← Nat.add_assoc] at this)
  rw [hl, Array.toArray_toList] at this
  simp [loadVar, Sem.run_bind, run_isAgg hg, run_sizeT hn, this]
 | false =>
  obtain ⟨_, c, hc, hv⟩ := part_cell_rel hx hp
  refine ⟨c, ?_, hv⟩
  have := hm off c hc
  simp [loadVar, Sem.run_bind, run_isAgg hg, this]
theorem obj_elem (ho : Objs X μ) {r idx : Nat} {es : List V} {e : V} (hes : (μ.O r).es = some es) (he : es[idx]? = some e) (h0 : 0 < (μ.O r).sz) :
  ∃ x, VRel X μ e x ∧ (μ.φ r).cap ≠ 0 ∧ ∀ j c, x.cells[j]? = some c → μ.w.cell? ⟨(μ.φ r).blk, (μ.φ r).base + idx * (μ.O r).sz + j, none⟩ = some c := by
 obtain ⟨_, h2, _, h4⟩ := ho.row r es hes h0
 have hlt : idx < es.length := (List.getElem?_eq_some_iff.1 he).1
 have hc : (μ.φ r).cap ≠ 0 := by omega
 rcases h4 with h4 | ⟨c, T', vs, _, _, hv, hrow⟩
 ·exact absurd h4 hc
 ·obtain ⟨x, hx, hr⟩ := hv.get he
  exact ⟨x, hr, hc, (hrow idx x hx).2⟩
theorem op_load {t : TypeId} {x : Operand} {x' : AOpd} {agg : Bool} {sz : Nat} (hr : Rel X T a μ) (ho : o.op = .load t x) (h1 : trO X x = some x') (hg : aggT X t = some agg) (hn : sizeT X t = some sz)
  (hrun : (opAct E (.load agg sz x')).run C ⟨T, μ.O⟩ = some (v, σ')) : σ'.T = T ∧ Done X o a μ σ'.O v := by
 simp only [opAct, run_ev] at hrun
 have hx := trO_rel hr h1 μ.O
 have fin : ∀ (p : Addr), a.eval x = .pointer (some p) → ∀ val, (loadVar t p).run X.P μ.w = .ok val μ.w → (execOp a.eval o).run X.P μ.w = .ok (.value val) μ.w := fun p hp val hv => by
  simp only [execOp, ho]
  refine run_v ?_
  simp [Instr.loadAt, Instr.sureAddr, Sem.run_bind, hp, hv]
 split at hrun
 ·rename_i r g idx off e
  simp only [Act.run] at hrun
  split at hrun
  ·rename_i es hes
   split at hrun
   ·rename_i hgen
    split at hrun
    ·rename_i el hel
     obtain ⟨hp, rfl⟩ := run_give hrun
     rw [e] at hx
     simp only [VRel] at hx
     obtain ⟨p, hpv, _, haddr⟩ := hx
     obtain ⟨xv, hxv, _, hmem⟩ := obj_elem hr.objs hes hel (haddr hgen).1
     obtain ⟨val, hl, hrel⟩ := load_from hxv hp hg hn hmem
     refine ⟨rfl, done_pure hr.objs (fin p hpv val ?_) hrel⟩
     rw [(haddr hgen).2]; exact hl
    ·exact absurd hrun run_fail
   ·exact absurd hrun run_fail
  ·exact absurd hrun run_fail
 ·rename_i el off e
  obtain ⟨hp, rfl⟩ := run_give hrun
  rw [e] at hx
  simp only [VRel] at hx
  obtain ⟨_, _, b, q, sz', xv, hpv, _, _, hxv, hrow⟩ := hx
  obtain ⟨val, hl, hrel⟩ := load_from (w := μ.w) (b := b) (q := q) hxv hp hg hn (fun j c hc => by simpa using (hrow 0 xv (by simp)).2 j c hc)
  exact ⟨rfl, done_pure hr.objs (fin _ hpv val hl) hrel⟩
 ·exact absurd hrun run_fail
theorem loadW_run {ks : List Nat} {agg : Bool} {sz : Nat} {x : AOpd} {σ : St} (h : (opAct E (.loadW ks agg sz x)).run C σ = some (v, σ')) : ∃ v0, (opAct E (.load agg sz x)).run C σ = some (v0, σ') ∧ v = AM.wkV ks v0 := by
 simp only [opAct, run_ev] at h ⊢
 have fin : ∀ (p : Option V), (give (p.map (AM.wkV ks))).run C σ = some (v, σ') → ∃ v0, (give p).run C σ = some (v0, σ') ∧ v = AM.wkV ks v0 := by
  intro p hp
  cases p with
  | none => exact absurd hp run_fail
  | some v0 =>
   obtain ⟨h1, h2⟩ := run_give hp
   simp only [Option.map_some, Option.some.injEq] at h1
   exact ⟨v0, by simp only [give, Act.run, h2], h1.symm⟩
 split at h
 ·rename_i r g idx off e
  simp only [Act.run] at h ⊢
  split at h
  ·rename_i es hes
   split at h
   ·rename_i hg
    split at h
    ·rename_i el hel
     rw [if_pos hg]
     exact fin _ h
    ·exact absurd h run_fail
   ·exact absurd h run_fail
  ·exact absurd h run_fail
 ·exact fin _ h
 ·exact absurd h run_fail
theorem op_loadW {t : TypeId} {x : Operand} {x' : AOpd} {agg : Bool} {sz : Nat} (ks : List Nat) (hr : Rel X T a μ) (ho : o.op = .load t x) (h1 : trO X x = some x') (hg : aggT X t = some agg) (hn : sizeT X t = some sz)
  (hrun : (opAct E (.loadW ks agg sz x')).run C ⟨T, μ.O⟩ = some (v, σ')) : σ'.T = T ∧ Done X o a μ σ'.O v := by
 obtain ⟨v0, h2, rfl⟩ := loadW_run hrun
 obtain ⟨h3, val, w', φ', h4, h5, h6, h7⟩ := op_load hr ho h1 hg hn h2
 exact ⟨h3, val, w', φ', h4, VRel.wkV ks h5, h6, h7⟩
theorem op_indexAddr {t e : TypeId} {x i : Operand} {x' i' : AOpd} {sz : Nat} (hr : Rel X T a μ) (ho : o.op = .indexAddr t x i) (hd : descT X t = some (.slice e)) (hn : sizeT X e = some sz)
  (h1 : trO X x = some x') (h2 : trO X i = some i') (hrun : (opAct E (.indexAddr sz x' i')).run C ⟨T, μ.O⟩ = some (v, σ')) : σ'.T = T ∧ Done X o a μ σ'.O v := by
 simp only [opAct, run_ev] at hrun
 have hx := trO_rel hr h1 μ.O
 have hi := trO_rel hr h2 μ.O
 have fin : ∀ (p : Addr) (len cap : Nat) (k : IntKind) (n : Int), a.eval x = .slice (some p) len cap → a.eval i = .int k n → 0 ≤ n → n < len →
   (execOp a.eval o).run X.P μ.w = .ok (.value (.pointer (some (p.add (n.toNat * sz))))) μ.w := fun p len cap k n hp hq hn0 hn1 => by
  simp only [execOp, ho]
  refine run_v ?_
  simp [Instr.indexAt, Sem.run_bind, hp, hq, asIntOf, run_underlying hd, hn0, hn1, run_sizeT hn]
 split at hrun
 ·rename_i r g off len k n e1 e2
  simp only [Act.run] at hrun
  split at hrun
  ·rename_i hc
   obtain ⟨rfl, rfl⟩ := run_done hrun
   rw [e1] at hx; rw [e2] at hi
   simp only [VRel] at hx hi
   obtain ⟨p, cap, hp, hlc, hge, haddr⟩ := hx
   obtain ⟨q0, q1, q2⟩ := haddr hc.2.2.2
   have hcap : cap ≠ 0 := by omega
   have hpe := q2.resolve_left hcap
   rw [hpe] at hp
   refine ⟨rfl, done_pure hr.objs (fin _ len cap k n hp hi hc.1 hc.2.1) ?_⟩
   simp only [VRel]
   refine ⟨_, rfl, hge, fun _ => ⟨q0, ?_⟩⟩
   rw [addr_add, hc.2.2.1]
   simp only [Addr.mk.injEq, true_and, and_true]
   rw [Nat.add_mul]; omega
  ·exact absurd hrun run_fail
 ·rename_i sz' xs k n e1 e2
  split at hrun
  ·rename_i hc
   split at hrun
   ·rename_i el hel
    obtain ⟨rfl, rfl⟩ := run_done hrun
    rw [e1] at hx; rw [e2] at hi
    simp only [VRel] at hx hi
    obtain ⟨hpu, hli, p, cap, vs, hp, hlc, hvs, hmem⟩ := hx
    have hlt : n.toNat < xs.length := (List.getElem?_eq_some_iff.1 hel).1
    rcases hmem with hmem | ⟨b, q, hpq, hno, hbs, hrow⟩
    ·subst hmem; simp at hlt
    ·rw [hpq] at hp
     obtain ⟨xv, hxv, hrel⟩ := hvs.get hel
     refine ⟨rfl, done_pure hr.objs (fin _ xs.length cap k n hp hi hc.1 (by omega)) ?_⟩
     simp only [VRel]
     refine ⟨arePure_get hpu hel, ?_, b, q + n.toNat * sz, sz, xv, by rw [addr_add]; simp, hno, hbs, hrel, ?_⟩
     ·simp only [List.all_eq_true] at hli
      exact hli el (List.mem_of_getElem? hel)
     ·have := (hrow.drop n.toNat).take 1
      rw [hc.2] at this
      have hd1 : (vs.drop n.toNat).take 1 = [xv] := by
       have hl2 : n.toNat < vs.length := (List.getElem?_eq_some_iff.1 hxv).1
       rw [List.drop_eq_getElem_cons hl2, List.take_succ_cons, List.take_zero]
       rw [List.getElem?_eq_getElem hl2] at hxv
       injection hxv with hxv; rw [hxv]
      rwa [hd1] at this
   ·exact absurd hrun run_fail
  ·exact absurd hrun run_fail
 ·exact absurd hrun run_fail
theorem op_indexArr {t e : TypeId} {x i : Operand} {x' i' : AOpd} {n sz : Nat} (hr : Rel X T a μ) (ho : o.op = .indexAddr t x i) (hd : descT X t = some (.array n e)) (hn : sizeT X e = some sz)
  (h1 : trO X x = some x') (h2 : trO X i = some i') (hrun : (opAct E (.indexArr n sz x' i')).run C ⟨T, μ.O⟩ = some (v, σ')) : σ'.T = T ∧ Done X o a μ σ'.O v := by
 simp only [opAct, run_ev] at hrun
 have hx := trO_rel hr h1 μ.O
 have hi := trO_rel hr h2 μ.O
 have fin : ∀ (p : Addr) (k : IntKind) (j : Int), a.eval x = .pointer (some p) → a.eval i = .int k j → 0 ≤ j → j < n →
   (execOp a.eval o).run X.P μ.w = .ok (.value (.pointer (some (p.add (j.toNat * sz))))) μ.w := fun p k j hp hq hn0 hn1 => by
  simp only [execOp, ho]
  refine run_v ?_
  simp [Instr.indexAt, Sem.run_bind, hp, hq, asIntOf, run_underlying hd, hn0, hn1, run_sizeT hn, Instr.sureAddr]
 split at hrun
 ·rename_i r g idx off k j e1 e2
  split at hrun
  ·rename_i hc
   obtain ⟨rfl, rfl⟩ := run_done hrun
   rw [e1] at hx; rw [e2] at hi
   simp only [VRel] at hx hi
   obtain ⟨p, hp, hge, haddr⟩ := hx
   refine ⟨rfl, done_pure hr.objs (fin p k j hp hi hc.1 hc.2) ?_⟩
   simp only [VRel]
   refine ⟨_, rfl, hge, fun hg => ⟨(haddr hg).1, ?_⟩⟩
   rw [(haddr hg).2, addr_add]; simp [Nat.add_assoc]
  ·exact absurd hrun run_fail
 ·rename_i el off k j e1 e2
  split at hrun
  ·rename_i hc
   obtain ⟨rfl, rfl⟩ := run_done hrun
   rw [e1] at hx; rw [e2] at hi
   simp only [VRel] at hx hi
   obtain ⟨hp0, hl0, b, q, sz', xv, hp, hrest⟩ := hx
   refine ⟨rfl, done_pure hr.objs (fin _ k j hp hi hc.1 hc.2) ?_⟩
   simp only [VRel]
   exact ⟨hp0, hl0, b, q, sz', xv, by rw [addr_add]; simp [Nat.add_assoc], hrest⟩
  ·exact absurd hrun run_fail
 ·exact absurd hrun run_fail
theorem op_indexStr {t : TypeId} {x i : Operand} {x' i' : AOpd} (hr : Rel X T a μ) (ho : o.op = .index t x i) (hd : descT X t = some .string)
  (h1 : trO X x = some x') (h2 : trO X i = some i') (hrun : (opAct E (.indexStr x' i')).run C ⟨T, μ.O⟩ = some (v, σ')) : σ'.T = T ∧ Done X o a μ σ'.O v := by
 simp only [opAct, run_ev] at hrun
 have hx := trO_rel hr h1 μ.O
 have hi := trO_rel hr h2 μ.O
 split at hrun
 ·rename_i s k n e1 e2
  split at hrun
  ·rename_i hc
   split at hrun
   ·rename_i b hb
    obtain ⟨rfl, rfl⟩ := run_done hrun
    rw [e1] at hx; rw [e2] at hi
    simp only [VRel] at hx hi
    obtain ⟨bs, hbs, rfl⟩ := hx
    refine ⟨rfl, done_pure (val := .int .u8 b.toNat) hr.objs ?_ (by simp [VRel])⟩
    simp only [execOp, ho]
    refine run_v ?_
    have hb' : bs[n.toNat]? = some b := by
     have hlt := (List.getElem?_eq_some_iff.1 hb).1
     have hv := (List.getElem?_eq_some_iff.1 hb).2
     have hsz : n.toNat < bs.size := by rw [Array.length_toList] at hlt; exact hlt
     rw [getElem?_pos bs n.toNat hsz]
     congr 1
    simp [Instr.index, Sem.run_bind, hbs, hi, asIntOf, run_underlying hd, hc, hb']
   ·exact absurd hrun run_fail
  ·exact absurd hrun run_fail
 ·exact absurd hrun run_fail
theorem op_indexVal {t e : TypeId} {x i : Operand} {x' i' : AOpd} {agg : Bool} {n sz : Nat} (hr : Rel X T a μ) (ho : o.op = .index t x i) (hd : descT X t = some (.array n e)) (hg : aggT X e = some agg)
  (hn : sizeT X e = some sz) (h1 : trO X x = some x') (h2 : trO X i = some i') (hrun : (opAct E (.indexVal agg n sz x' i')).run C ⟨T, μ.O⟩ = some (v, σ')) : σ'.T = T ∧ Done X o a μ σ'.O v := by
 simp only [opAct, run_ev] at hrun
 have hx := trO_rel hr h1 μ.O
 have hi := trO_rel hr h2 μ.O
 split at hrun
 ·rename_i k j e2
  split at hrun
  ·rename_i hc
   obtain ⟨hp, rfl⟩ := run_give hrun
   rw [e2] at hi
   simp only [VRel] at hi
   cases hy : evalOpd ⟨T, μ.O⟩ x' <;> rw [hy] at hc hx hp <;> simp [V.isAgg] at hc
   cases agg with
   | true =>
    obtain ⟨cs, hcs, hle, hv⟩ := part_agg_rel hx hp
    refine ⟨rfl, done_pure hr.objs ?_ hv⟩
    simp only [execOp, ho]
    refine run_v ?_
    simp [Instr.index, Sem.run_bind, hcs, hi, asIntOf, run_underlying hd, hc, run_sizeT hn, run_part_agg hg hn]
   | false =>
    obtain ⟨_, c, hcc, hv⟩ := part_cell_rel hx hp
    simp only [VRel] at hx
    obtain ⟨_, cs, hcs, _⟩ := hx
    rw [hcs] at hcc
    refine ⟨rfl, done_pure hr.objs ?_ hv⟩
    simp only [execOp, ho]
    refine run_v ?_
    simp [Instr.index, Sem.run_bind, hcs, hi, asIntOf, run_underlying hd, hc, run_sizeT hn, run_part_cell hg cs _ c (by simpa [Value.cells] using hcc)]
  ·exact absurd hrun run_fail
 ·exact absurd hrun run_fail
end
end Go.AM
namespace Go.AM
open Go Go.RowKit
def ORel (X : Ctx) (μ : Mu) (x : Option V) (v : Option Value) : Prop := (x = none ∧ v = none) ∨ ∃ x' v', x = some x' ∧ v = some v' ∧ VRel X μ x' v'
theorem trOo_orel {X : Ctx} {μ : Mu} {T : Nat → V} {a : Go.Act} {x : Option Operand} {y : Option AOpd} (hr : Rel X T a μ) (h : trOo X x = some y) (O : Nat → Obj) :
  ORel X μ (y.map (evalOpd ⟨T, O⟩)) (x.map a.eval) := by
 rcases trOo_rel hr h O with ⟨rfl, rfl⟩ | ⟨x', y', rfl, rfl, hrel⟩
 ·exact .inl ⟨rfl, rfl⟩
 ·exact .inr ⟨_, _, rfl, rfl, hrel⟩
section
variable {X : Ctx} {E : Env} {C : Oracle} {o : Oper} {a : Go.Act} {T : Nat → V} {μ : Mu} {v : V} {σ' : St}
theorem run_sliceBound {d l y : Nat} {x : V} {xv : Value} {code : BoundsCode} {w : World} (h : VRel X μ x xv) (hb : boundOf d (some x) = some l) (hle : l ≤ y) :
  (Instr.sliceBound xv y code).run X.P w = .ok l w := by
 cases x <;> simp [boundOf] at hb
 obtain ⟨h0, rfl⟩ := hb
 simp only [VRel] at h
 subst h
 rename_i k n
 have : n ≤ (y : Int) := by omega
 simp [Instr.sliceBound, asIntOf, Sem.run_bind, h0, this]
theorem run_sliceBounds2 {isSlice : Bool} {len cap l h : Nat} {lo hi : Option V} {lov hiv : Option Value} {w : World} (h1 : ORel X μ lo lov) (h2 : ORel X μ hi hiv)
  (hl : boundOf 0 lo = some l) (hh : boundOf len hi = some h) (hlh : l ≤ h) (hcap : h ≤ cap) :
  (Instr.sliceBounds isSlice len cap lov hiv none).run X.P w = .ok (l, h, cap) w := by
 rcases h1 with ⟨rfl, rfl⟩ | ⟨lx, lv, rfl, rfl, hlr⟩ <;> rcases h2 with ⟨rfl, rfl⟩ | ⟨hx, hv, rfl, rfl, hhr⟩
 ·simp [boundOf] at hl hh; subst hl; subst hh
  simp [Instr.sliceBounds, Sem.run_bind]
 ·simp [boundOf] at hl; subst hl
  simp [Instr.sliceBounds, Sem.run_bind, run_sliceBound hhr hh hcap]
 ·have hh' := hh
  simp [boundOf] at hh'; subst hh'
  simp [Instr.sliceBounds, Sem.run_bind, run_sliceBound hlr hl hlh]
 ·simp [Instr.sliceBounds, Sem.run_bind, run_sliceBound hlr hl hlh, run_sliceBound hhr hh hcap]
theorem run_sliceBounds3 {isSlice : Bool} {len cap l h m : Nat} {lo : Option V} {hi mx : V} {lov : Option Value} {hiv mxv : Value} {w : World} (h1 : ORel X μ lo lov) (h2 : VRel X μ hi hiv) (h3 : VRel X μ mx mxv)
  (hl : boundOf 0 lo = some l) (hh : boundOf len (some hi) = some h) (hm : boundOf 0 (some mx) = some m) (hlh : l ≤ h) (hhm : h ≤ m) (hcap : m ≤ cap) :
  (Instr.sliceBounds isSlice len cap lov (some hiv) (some mxv)).run X.P w = .ok (l, h, m) w := by
 rcases h1 with ⟨rfl, rfl⟩ | ⟨lx, lv, rfl, rfl, hlr⟩
 ·simp [boundOf] at hl; subst hl
  simp [Instr.sliceBounds, Sem.run_bind, run_sliceBound h3 hm hcap, run_sliceBound h2 hh hhm]
 ·simp [Instr.sliceBounds, Sem.run_bind, run_sliceBound h3 hm hcap, run_sliceBound h2 hh hhm, run_sliceBound hlr hl hlh]
theorem op_sliceStr {t : TypeId} {x : Operand} {lo hi : Option Operand} {x' : AOpd} {lo' hi' : Option AOpd} (hr : Rel X T a μ) (ho : o.op = .slice t x lo hi none) (hd : descT X t = some .string)
  (h1 : trO X x = some x') (h2 : trOo X lo = some lo') (h3 : trOo X hi = some hi') (hrun : (opAct E (.sliceStr x' lo' hi')).run C ⟨T, μ.O⟩ = some (v, σ')) : σ'.T = T ∧ Done X o a μ σ'.O v := by
 simp only [opAct, run_ev, run_evo] at hrun
 obtain ⟨hb, rfl⟩ := run_give hrun
 have hx := trO_rel hr h1 μ.O
 cases hy : evalOpd ⟨T, μ.O⟩ x' <;> rw [hy] at hb hx <;> simp only [sliceStrV, reduceCtorEq] at hb
 rename_i s
 split at hb
 ·rename_i l h hl hh
  split at hb <;> simp at hb
  rename_i hle
  subst hb
  simp only [VRel] at hx
  obtain ⟨bs, hbs, hbd⟩ := hx
  have hsz : s.length = bs.size := by rw [← hbd, Array.length_toList]; rfl
  have hbd' := run_sliceBounds2 (isSlice := false) (len := bs.size) (cap := bs.size) (w := μ.w) (trOo_orel hr h2 μ.O) (trOo_orel hr h3 μ.O) hl (by rw [← hsz]; exact hh) hle.1 (by omega)
  refine ⟨rfl, done_pure (val := .string (bs.extract l h)) hr.objs ?_ ?_⟩
  ·simp only [execOp, ho]
   refine run_v ?_
   have hd' : X.P.underlying t = some .string := hd
   simp only [Instr.sliceAt, Sem.run_bind, run_underlying hd', Result.andThen_ok, Instr.slice, hbs]
   have hn : (Option.map a.eval (none : Option Operand)) = none := rfl
   simp only [hn, Option.isSome_none, Bool.false_eq_true, if_false, Sem.run_bind, hbd', Result.andThen_ok, Sem.run_pure]
  ·simp only [VRel]
   refine ⟨_, rfl, ?_⟩
   rw [ByteArray.data_extract, Array.toList_extract, List.extract_eq_take_drop, hbd]
 ·simp at hb
theorem op_slice {t e : TypeId} {x : Operand} {lo hi mx : Option Operand} {x' : AOpd} {lo' hi' mx' : Option AOpd} {sz : Nat} (hr : Rel X T a μ) (ho : o.op = .slice t x lo hi mx) (hd : descT X t = some (.slice e))
  (hn : sizeT X e = some sz) (h1 : trO X x = some x') (h2 : trOo X lo = some lo') (h3 : trOo X hi = some hi') (h4 : trOo X mx = some mx')
  (hrun : (opAct E (.slice sz x' lo' hi' mx')).run C ⟨T, μ.O⟩ = some (v, σ')) : σ'.T = T ∧ Done X o a μ σ'.O v := by
 simp only [opAct, run_ev, run_evo] at hrun
 have hx := trO_rel hr h1 μ.O
 have rl := trOo_orel hr h2 μ.O
 have rh := trOo_orel hr h3 μ.O
 have rm := trOo_orel hr h4 μ.O
 generalize lo'.map (evalOpd ⟨T, μ.O⟩) = lov at hrun rl
 generalize hi'.map (evalOpd ⟨T, μ.O⟩) = hiv at hrun rh
 generalize mx'.map (evalOpd ⟨T, μ.O⟩) = mxv at hrun rm
 have hd' : X.P.underlying t = some (.slice e) := hd
 have fin : ∀ (p : Option Addr) (len cap l h m : Nat), a.eval x = .slice p len cap → (Instr.sliceBounds true len cap (lo.map a.eval) (hi.map a.eval) (mx.map a.eval)).run X.P μ.w = .ok (l, h, m) μ.w →
   (execOp a.eval o).run X.P μ.w = .ok (.value (.slice (if m = l then p else p.map (·.add (l * sz))) (h - l) (m - l))) μ.w := fun p len cap l h m hp hb => by
  simp only [execOp, ho]
  refine run_v ?_
  simp only [Instr.sliceAt, Sem.run_bind, run_underlying hd', Result.andThen_ok, Instr.slice, hp, hb, run_sizeT hn, Sem.run_pure]
 split at hrun
 ·rename_i r g off len ey
  rw [ey] at hx
  simp only [VRel] at hx
  obtain ⟨p, cap, hp, hlc, hge, haddr⟩ := hx
  simp only [Act.run] at hrun
  split at hrun
  ·rename_i es hes
   split at hrun
   ·rename_i hgs
    obtain ⟨q0, q1, q2⟩ := haddr hgs.1
    have hcapes : es.length ≤ (μ.φ r).cap := (hr.objs.row r es hes q0).2.1
    split at hrun
    ·
     rename_i _ l h hl hh
     split at hrun
     ·rename_i hle
      obtain ⟨rfl, rfl⟩ := run_done hrun
      have hmv : mx.map a.eval = none := by
       rcases rm with ⟨h5, h6⟩ | ⟨_, _, h5, _⟩
       ·exact h6
       ·cases h5
      have hb := run_sliceBounds2 (isSlice := true) (len := len) (cap := cap) (w := μ.w) rl rh hl hh hle.1 (by omega)
      refine ⟨rfl, done_pure hr.objs (fin p len cap l h cap hp (by rw [hmv]; exact hb)) ?_⟩
      simp only [VRel]
      refine ⟨_, _, rfl, by omega, hge, fun _ => ⟨q0, by omega, ?_⟩⟩
      by_cases hcl : cap = l
      ·left; omega
      ·right
       rw [if_neg hcl]
       have : cap ≠ 0 := by omega
       rw [q2.resolve_left this, Option.map_some, addr_add, hgs.2]
       congr 2
       rw [Nat.add_mul]; omega
     ·exact absurd hrun run_fail
    ·
     rename_i _ l h' m hl hh
     split at hrun
     ·rename_i _ _ h m' hmx
      split at hrun
      ·rename_i hle
       obtain ⟨rfl, rfl⟩ := run_done hrun
       rcases rm with ⟨h5, _⟩ | ⟨mxx, mxxv, h5, h6, hmrel⟩
       ·cases h5
       ·injection h5 with h5; subst h5
        rcases rh with ⟨h7, _⟩ | ⟨hix, hixv, h7, h8, hhrel⟩
        ·cases h7
        ·injection h7 with h7; subst h7
         have hb := run_sliceBounds3 (isSlice := true) (len := len) (cap := cap) (w := μ.w) rl hhrel hmrel hl hh hmx hle.1 hle.2.1 (by omega)
         refine ⟨rfl, done_pure hr.objs (fin p len cap l h' m' hp (by rw [h6, h8]; exact hb)) ?_⟩
         split
         ·rename_i hml
          simp only [VRel]
          have e1 : h' - l = 0 := by omega
          have e2 : m' - l = 0 := by omega
          exact ⟨_, by rw [e1, e2]⟩
         ·simp [VRel]
      ·exact absurd hrun run_fail
     ·exact absurd hrun run_fail
    ·exact absurd hrun run_fail
   ·exact absurd hrun run_fail
  ·exact absurd hrun run_fail
 ·obtain ⟨hb0, rfl⟩ := run_give hrun
  refine ⟨rfl, ?_⟩
  generalize evalOpd ⟨T, μ.O⟩ x' = y at hb0 hx
  cases y <;> simp only [sliceV, reduceCtorEq] at hb0
  ·
   simp only [VRel] at hx
   obtain ⟨p, hp⟩ := hx
   split at hb0
   ·rename_i l h m hl hh hm
    split at hb0 <;> simp at hb0
    rename_i hle
    subst hb0
    have e1 : l = 0 := by omega
    have e2 : h = 0 := by omega
    have e3 : m = 0 := by omega
    subst e1; subst e2; subst e3
    have hb : ∃ m', (Instr.sliceBounds true 0 0 (lo.map a.eval) (hi.map a.eval) (mx.map a.eval)).run X.P μ.w = .ok (0, 0, m') μ.w ∧ m' = 0 := by
     rcases rm with ⟨rfl, h6⟩ | ⟨mxx, mxxv, rfl, h6, hmrel⟩
     ·rw [h6]; exact ⟨_, run_sliceBounds2 (isSlice := true) (len := 0) (cap := 0) (w := μ.w) rl rh hl hh (Nat.le_refl _) (Nat.le_refl _), rfl⟩
     ·rcases rh with ⟨rfl, h8⟩ | ⟨hix, hixv, rfl, h8, hhrel⟩
      ·simp at hle
      ·rw [h6, h8]; exact ⟨_, run_sliceBounds3 (isSlice := true) (len := 0) (cap := 0) (w := μ.w) rl hhrel hmrel hl hh hm (Nat.le_refl _) (Nat.le_refl _) (Nat.le_refl _), rfl⟩
    obtain ⟨m', hb, rfl⟩ := hb
    refine done_pure hr.objs (fin p 0 0 0 0 0 hp hb) ?_
    simp [VRel]
   ·simp at hb0
  ·
   rename_i sz' xs
   simp only [VRel] at hx
   obtain ⟨hpu, hli, p, cap, vs, hp, hlc, hvs, hmem⟩ := hx
   split at hb0
   ·rename_i hszeq
    subst hszeq
    split at hb0
    ·rename_i l h hl hh
     split at hb0 <;> simp at hb0
     rename_i hle
     subst hb0
     obtain ⟨_, hmv⟩ : (none : Option V) = none ∧ mx.map a.eval = none := by
      rcases rm with ⟨h5, h6⟩ | ⟨_, _, h5, _⟩
      ·exact ⟨rfl, h6⟩
      ·cases h5
     have hb := run_sliceBounds2 (isSlice := true) (len := xs.length) (cap := cap) (w := μ.w) rl rh hl hh hle.1 (by omega)
     refine done_pure hr.objs (fin p xs.length cap l h cap hp (by rw [hmv]; exact hb)) ?_
     have hwl : (window xs l (h - l)).length = h - l := by simp [window]; omega
     simp only [VRel]
     refine ⟨arePure_take _ (arePure_drop _ hpu), all_takeO _ (all_drop _ hli), _, _, (vs.drop l).take (h - l), by rw [hwl], by rw [hwl]; omega, VRels.take _ (VRels.drop _ hvs), ?_⟩
     by_cases hlh : l = h
     ·left; simp [window, hlh]
     ·right
      rcases hmem with hmem | ⟨b, q, hpq, hno, hbs, hrow⟩
      ·subst hmem; simp at hle; omega
      ·have : ¬ cap = l := by omega
       rw [if_neg this, hpq, Option.map_some, addr_add]
       exact ⟨b, q + l * sz', rfl, hno, hbs, (hrow.drop l).take _⟩
    ·rename_i l h m hl hh
     split at hb0
     ·rename_i hi0 m' hmx
      split at hb0 <;> simp at hb0
      rename_i hle
      subst hb0
      rcases rm with ⟨h5, _⟩ | ⟨mxx, mxxv, h5, h6, hmrel⟩
      ·cases h5
      ·injection h5 with h5; subst h5
       rcases rh with ⟨h7, _⟩ | ⟨hix, hixv, h7, h8, hhrel⟩
       ·cases h7
       ·injection h7 with h7; subst h7
        have hb := run_sliceBounds3 (isSlice := true) (len := xs.length) (cap := cap) (w := μ.w) rl hhrel hmrel hl hh hmx hle.1 hle.2.1 (by omega)
        refine done_pure hr.objs (fin p xs.length cap l h m' hp (by rw [h6, h8]; exact hb)) ?_
        split
        ·simp only [VRel]
         have e1 : h - l = 0 := by omega
         have e2 : m' - l = 0 := by omega
         exact ⟨_, by rw [e1, e2]⟩
        ·simp [VRel]
     ·simp at hb0
    ·simp at hb0
   ·simp at hb0
end
end Go.AM
namespace Go.AM
open Go Go.RowKit
def splice {α : Type} (L : List α) (p : Nat) (m : List α) : List α := L.take p ++ m ++ L.drop (p + m.length)
theorem splice_length {α : Type} {L m : List α} {p : Nat} (h : p + m.length ≤ L.length) : (splice L p m).length = L.length := by
 simp [splice]; omega
theorem splice_get {α : Type} {L m : List α} {p : Nat} (h : p + m.length ≤ L.length) (q : Nat) :
  (splice L p m)[q]? = if q < p then L[q]? else if q < p + m.length then m[q - p]? else L[q]? := by
 unfold splice
 rw [List.append_assoc, List.getElem?_append]
 have hl : (L.take p).length = p := by simp; omega
 rw [hl]
 split
 ·rename_i hq
  rw [List.getElem?_take]; simp [hq]
 ·rename_i hq
  rw [List.getElem?_append]
  split
  ·rename_i hm
   rw [if_pos (by omega)]
  ·rename_i hm
   rw [if_neg (by omega), List.getElem?_drop]
   congr 1; omega
def Spells (c : List Value) (base sz : Nat) (vs : List Value) : Prop :=
 ∀ i v, vs[i]? = some v → v.cells.size = sz ∧ ∀ j x, v.cells[j]? = some x → c[base + i * sz + j]? = some x
def flat (us : List Value) : List Value := us.flatMap fun v => v.cells.toList
theorem flat_length {us : List Value} {sz : Nat} (h : ∀ v ∈ us, v.cells.size = sz) : (flat us).length = us.length * sz := by
 induction us with
 | nil => simp [flat]
 | cons u us ih =>
  have h1 := h u (by simp)
  have h2 := ih fun v hv => h v (by simp [hv])
  simp only [flat, List.flatMap_cons, List.length_append, List.length_cons] at h2 ⊢
  rw [h2, Array.length_toList, h1, Nat.add_mul]; omega
theorem flat_get {us : List Value} {sz : Nat} (h : ∀ v ∈ us, v.cells.size = sz) {i j : Nat} {v x : Value} (hv : us[i]? = some v) (hx : v.cells[j]? = some x) :
  (flat us)[i * sz + j]? = some x := by
 induction us generalizing i with
 | nil => simp at hv
 | cons u us ih =>
  have h1 := h u (by simp)
  simp only [flat, List.flatMap_cons]
  cases i with
  | zero =>
   simp at hv; subst hv
   have hj : j < u.cells.size := (Array.getElem?_eq_some_iff.1 hx).1
   rw [List.getElem?_append_left (by rw [Array.length_toList]; omega)]
   simpa using hx
  | succ i =>
   simp at hv
   have := ih (fun v hv => h v (by simp [hv])) hv
   rw [List.getElem?_append_right (by rw [Array.length_toList, h1, Nat.add_mul]; omega)]
   rw [Array.length_toList, h1]
   have e : (i + 1) * sz + j - sz = i * sz + j := by rw [Nat.add_mul]; omega
   rw [e]; exact this
theorem cell_lt {sz i j k : Nat} (hj : j < sz) (hik : i < k) : i * sz + j < k * sz := by
 have : (i + 1) * sz ≤ k * sz := Nat.mul_le_mul_right _ (by omega)
 rw [Nat.add_mul] at this; omega
theorem cell_ge {sz i j k : Nat} (hik : k ≤ i) : k * sz ≤ i * sz + j := by
 have : k * sz ≤ i * sz := Nat.mul_le_mul_right _ hik
 omega
theorem Spells.write {c : List Value} {base sz k : Nat} {vs us : List Value} (h : Spells c base sz vs) (hk : k ≤ vs.length) (hus : ∀ v ∈ us, v.cells.size = sz)
  (hroom : base + k * sz + us.length * sz ≤ c.length) :
  Spells (splice c (base + k * sz) (flat us)) base sz (vs.take k ++ us ++ vs.drop (k + us.length)) := by
 have hfl := flat_length hus
 intro i v hv
 have hlt : (vs.take k).length = k := by simp; omega
 rw [List.append_assoc, List.getElem?_append, hlt] at hv
 split at hv
 ·rename_i hi
  rw [List.getElem?_take] at hv
  simp only [hi, if_true] at hv
  obtain ⟨h1, h2⟩ := h i v hv
  refine ⟨h1, fun j x hx => ?_⟩
  have hj : j < sz := h1 ▸ (Array.getElem?_eq_some_iff.1 hx).1
  rw [splice_get (by rw [hfl]; omega), if_pos (by have := cell_lt hj hi; omega)]
  exact h2 j x hx
 ·rename_i hi
  rw [List.getElem?_append] at hv
  split at hv
  ·rename_i hi2
   have hvm := List.mem_of_getElem? hv
   refine ⟨hus v hvm, fun j x hx => ?_⟩
   have hj : j < sz := hus v hvm ▸ (Array.getElem?_eq_some_iff.1 hx).1
   have hge := cell_ge (sz := sz) (j := j) (show k ≤ i by omega)
   have hlt2 := cell_lt (k := k + us.length) hj (show i < k + us.length by omega)
   rw [Nat.add_mul] at hlt2
   rw [splice_get (by rw [hfl]; omega), if_neg (by omega), if_pos (by rw [hfl]; omega)]
   have e : base + i * sz + j - (base + k * sz) = (i - k) * sz + j := by
    rw [Nat.sub_mul]
    have := Nat.mul_le_mul_right sz (show k ≤ i by omega)
    omega
   rw [e]
   exact flat_get hus hv hx
  ·rename_i hi2
   rw [List.getElem?_drop] at hv
   have e : k + us.length + (i - k - us.length) = i := by omega
   rw [e] at hv
   obtain ⟨h1, h2⟩ := h i v hv
   refine ⟨h1, fun j x hx => ?_⟩
   have hge := cell_ge (sz := sz) (j := j) (show k + us.length ≤ i by omega)
   rw [Nat.add_mul] at hge
   rw [splice_get (by rw [hfl]; omega), if_neg (by omega), if_neg (by rw [hfl]; omega)]
   exact h2 j x hx
theorem Spells.take {c : List Value} {base sz : Nat} {vs : List Value} (h : Spells c base sz vs) (n : Nat) : Spells c base sz (vs.take n) := by
 intro i v hv
 rw [List.getElem?_take] at hv
 split at hv
 ·exact h i v hv
 ·simp at hv
theorem Spells.drop {c : List Value} {base sz : Nat} {vs : List Value} (h : Spells c base sz vs) (n : Nat) : Spells c (base + n * sz) sz (vs.drop n) := by
 intro i v hv
 rw [List.getElem?_drop] at hv
 obtain ⟨h1, h2⟩ := h (n + i) v hv
 refine ⟨h1, fun j x hx => ?_⟩
 rw [← h2 j x hx, Nat.add_mul]
 congr 1; omega
theorem Spells.put {c : List Value} {base sz idx off : Nat} {vs m : List Value} {x x' : Value} (h : Spells c base sz vs) (hx : vs[idx]? = some x)
  (hroom : base + (idx + 1) * sz ≤ c.length) (hm : off + m.length ≤ sz) (hx' : x'.cells.toList = splice x.cells.toList off m) :
  Spells (splice c (base + idx * sz + off) m) base sz (vs.set idx x') := by
 have hsz := (h idx x hx).1
 rw [Nat.add_mul] at hroom
 have hfit : base + idx * sz + off + m.length ≤ c.length := by omega
 have hxl : off + m.length ≤ x.cells.toList.length := by have : x.cells.toList.length = x.cells.size := Array.length_toList; omega
 intro i v hv
 rw [List.getElem?_set] at hv
 split at hv
 ·rename_i e; subst e
  have hlt : idx < vs.length := (List.getElem?_eq_some_iff.1 hx).1
  simp only [hlt, if_true, Option.some.injEq] at hv
  subst hv
  have hsz' : x'.cells.size = sz := by rw [← Array.length_toList, hx', splice_length hxl, Array.length_toList]; exact hsz
  refine ⟨hsz', fun j y hy => ?_⟩
  have hj : j < sz := hsz' ▸ (Array.getElem?_eq_some_iff.1 hy).1
  have hy' : (splice x.cells.toList off m)[j]? = some y := by rw [← hx']; simpa using hy
  rw [splice_get hxl] at hy'
  rw [splice_get hfit]
  have e2 : base + idx * sz + j - (base + idx * sz + off) = j - off := by omega
  split at hy'
  ·rw [if_pos (by omega)]
   exact (h idx x hx).2 j y (by simpa using hy')
  ·split at hy'
   ·rw [if_neg (by omega), if_pos (by omega), e2]; exact hy'
   ·rw [if_neg (by omega), if_neg (by omega)]
    exact (h idx x hx).2 j y (by simpa using hy')
 ·rename_i hne
  obtain ⟨h1, h2⟩ := h i v hv
  refine ⟨h1, fun j y hy => ?_⟩
  have hj : j < sz := h1 ▸ (Array.getElem?_eq_some_iff.1 hy).1
  rw [splice_get hfit]
  by_cases hlt : i < idx
  ·have := cell_lt hj hlt
   rw [if_pos (by omega)]; exact h2 j y hy
  ·have := cell_ge (sz := sz) (j := j) (show idx + 1 ≤ i by omega)
   rw [Nat.add_mul] at this
   rw [if_neg (by omega), if_neg (by omega)]; exact h2 j y hy
theorem spells_of_row {w : World} {b base sz : Nat} {vs : List Value} {c : Array Value} {T : TypeId} {fr : Nat × Nat} (hb : w.heap[b]? = some (.cells c T fr))
  (h : RowAt w b base sz vs) : Spells c.toList base sz vs := by
 intro i v hv
 obtain ⟨h1, h2⟩ := h.in_block hb i v hv
 exact ⟨h1, fun j x hx => by simpa using h2 j x hx⟩
theorem load_flat {P : Program} {w : World} {b q sz n : Nat} {vs : List Value} (h : RowAt w b q sz vs) (hn : n ≤ vs.length) :
  (loadCells ⟨b, q, none⟩ (n * sz)).run P w = .ok (flat (vs.take n)).toArray w := by
 have hs : ∀ v ∈ vs.take n, v.cells.size = sz := fun v hv => by
  obtain ⟨i, hi⟩ := List.getElem?_of_mem (List.mem_of_mem_take hv)
  exact (h i v hi).1
 have hl : (flat (vs.take n)).length = n * sz := by rw [flat_length hs, List.length_take, Nat.min_eq_left hn]
 rw [← hl]
 refine run_loadCells_list w ⟨b, q, none⟩ _ fun p x hx => ?_
 rw [addr_add]
 have hp : p < n * sz := by rw [← hl]; exact (List.getElem?_eq_some_iff.1 hx).1
 have hsz : 0 < sz := by
  rcases Nat.eq_zero_or_pos sz with e | e
  ·subst e; simp at hp
  ·exact e
 have hi : p / sz < n := Nat.div_lt_of_lt_mul (by rw [Nat.mul_comm]; exact hp)
 have hpe : p / sz * sz + p % sz = p := by rw [Nat.mul_comm]; exact Nat.div_add_mod p sz
 have hilt : p / sz < vs.length := by omega
 have hv : vs[p / sz]? = some vs[p / sz] := List.getElem?_eq_getElem hilt
 have hvt : (vs.take n)[p / sz]? = some vs[p / sz] := by rw [List.getElem?_take]; simp [hi, hv]
 obtain ⟨h1, h2⟩ := h _ _ hv
 have hm : p % sz < (vs[p / sz]).cells.size := by rw [h1]; exact Nat.mod_lt _ hsz
 have hc : (vs[p / sz]).cells[p % sz]? = some (vs[p / sz]).cells[p % sz] := Array.getElem?_eq_getElem hm
 have g1 := flat_get hs hvt hc
 rw [hpe, hx] at g1
 injection g1 with g1
 have g2 := h2 _ _ hc
 rw [Nat.add_assoc, hpe, ← g1] at g2
 exact g2
end Go.AM
namespace Go.AM
open Go Go.RowKit
theorem isBlank_lies {v : V} {sz : Nat} (h : isBlank v sz = true) : v.lies = true ∧ v.cells.length = sz := by
 simp [isBlank] at h; exact ⟨h.2, h.1⟩
theorem zero_run {X : Ctx} {t : TypeId} {z : V} (h : zeroT X t = some z) (w : World) : ∃ zv, (zeroValue t).run X.P w = .ok zv w ∧ constV zv = some z := by
 simp only [zeroT, info, Option.bind_eq_some_iff] at h
 obtain ⟨i, h1, zv, h2, h3⟩ := h
 exact ⟨zv, by simp [zeroValue, Sem.run_bind, run_typeInfo w h1, h2], h3⟩
theorem VRels.cells_one {X : Ctx} {μ : Mu} {ys : List V} {us : List Value} {sz : Nat} (h : VRels X μ ys us) (hb : ys.all (isBlank · sz) = true) :
  (∀ u ∈ us, u.cells.size = sz) ∧ ∀ c ∈ flat us, c.oneCell' = true := by
 have hh : ∀ u ∈ us, ∃ y, y ∈ ys ∧ VRel X μ y u := fun u hu => by
  obtain ⟨i, hi⟩ := List.getElem?_of_mem hu
  have hlt : i < ys.length := by rw [h.length]; exact (List.getElem?_eq_some_iff.1 hi).1
  obtain ⟨u', h1, h2⟩ := h.get (List.getElem?_eq_getElem hlt)
  rw [hi] at h1; injection h1 with h1; subst h1
  exact ⟨_, List.getElem_mem hlt, h2⟩
 simp only [List.all_eq_true] at hb
 refine ⟨fun u hu => ?_, fun c hc => ?_⟩
 ·obtain ⟨y, hy, hr⟩ := hh u hu
  obtain ⟨h1, h2⟩ := isBlank_lies (hb y hy)
  rw [hr.cells_size h1, h2]
 ·simp only [flat, List.mem_flatMap] at hc
  obtain ⟨u, hu, hcu⟩ := hc
  obtain ⟨y, hy, hr⟩ := hh u hu
  obtain ⟨h1, h2⟩ := isBlank_lies (hb y hy)
  obtain ⟨j, hj⟩ := List.getElem?_of_mem hcu
  have hcs := hr.cells h1
  have hlt : j < y.cells.length := by rw [hcs.length]; exact (List.getElem?_eq_some_iff.1 hj).1
  obtain ⟨u', g1, g2⟩ := hcs.get (List.getElem?_eq_getElem hlt)
  rw [hj] at g1; injection g1 with g1; subst g1
  have hic := hr.cells_isCell h1
  simp only [List.all_eq_true] at hic
  exact (g2.oneCell (hic _ (List.getElem_mem hlt))).1
theorem run_store_row {P : Program} {w : World} {g q : Nat} {cur : Array Value} {T : TypeId} (hg : w.heap[g]? = some (.cells cur T (0, 0))) (m : List Value) (hl : q + m.length ≤ cur.size)
  (h1 : ∀ v ∈ m, v.oneCell' = true) : (storeCells ⟨g, q, none⟩ m).run P w = .ok () (w.setRow g (splice cur.toList q m).toArray) := by
 have := run_storeCells_at (P := P) g q T m 0 cur w hg (by simpa using hl) h1
 simpa [splice] using this
section
variable {X : Ctx} {E : Env} {C : Oracle} {o : Oper} {a : Go.Act} {T : Nat → V} {μ : Mu} {v : V} {σ' : St}
theorem done_new (hr : Rel X T a μ) {r sz : Nat} {arr : Bool} {es : List V} {vs : List Value} {c : Array Value} {t : TypeId} {val : Value} (hsz : 0 < sz) (cap : Nat)
  (hcap : es.length ≤ cap) (hbl : es.all (isBlank · sz) = true) (hrel : VRels X μ es vs) (hc : cap * sz ≤ c.size) (hrow : Spells c.toList 0 sz vs)
  (hrun : (execOp a.eval o).run X.P μ.w = .ok (.value val) (μ.w.alloc (.cells c t (0, 0))))
  (hv : let μ' : Mu := ⟨μ.w.alloc (.cells c t (0, 0)), upd μ.φ r ⟨μ.w.heap.size, 0, cap⟩, upd μ.O r { gen := (μ.O r).gen + 1, sz := sz, arr := arr, fz := false, es := some es }⟩; VRel X μ' v val) :
  Done X o a μ (upd μ.O r { gen := (μ.O r).gen + 1, sz := sz, arr := arr, fz := false, es := some es }) v := by
 obtain ⟨h1, h2⟩ := new_obj (X := X) hr.objs r sz cap arr (es := es) (vs := vs) (c := c) t hsz hcap hbl hrel hc (fun i u hu => by
  obtain ⟨k1, k2⟩ := hrow i u hu
  exact ⟨k1, fun j x hx => by simpa using k2 j x hx⟩)
 exact ⟨val, _, _, .inl hrun, hv, h1, h2⟩
theorem spells_one {x : Value} : Spells x.cells.toList 0 x.cells.size [x] := by
 intro i v hv
 cases i with
 | zero => simp at hv; subst hv; exact ⟨rfl, fun j y hy => by simpa using hy⟩
 | succ i => simp at hv
theorem op_new {t : TypeId} {x' : AOpd} {r sz : Nat} {xv : Value} (hr : Rel X T a μ) (hx : VRel X μ (evalOpd ⟨T, μ.O⟩ x') xv)
  (hreal : (execOp a.eval o).run X.P μ.w = .ok (.value (.pointer (some ⟨μ.w.heap.size, 0, none⟩))) (μ.w.alloc (.cells xv.cells t (0, 0))))
  (hrun : (opAct E (.new r sz x')).run C ⟨T, μ.O⟩ = some (v, σ')) : σ'.T = T ∧ Done X o a μ σ'.O v := by
 simp only [opAct, run_ev] at hrun
 split at hrun
 ·rename_i hb
  simp only [Bool.and_eq_true, decide_eq_true_eq] at hb
  simp only [Act.run, Option.some.injEq, Prod.mk.injEq] at hrun
  obtain ⟨rfl, rfl⟩ := hrun
  obtain ⟨hl, hcl⟩ := isBlank_lies hb.1
  have hsz : xv.cells.size = sz := by rw [hx.cells_size hl, hcl]
  refine ⟨rfl, done_new hr (cap := 1) (es := [evalOpd ⟨T, μ.O⟩ x']) (vs := [xv]) (c := xv.cells) hb.2 (by simp) (by simp [hb.1]) (by simp [VRels, hx]) (by omega) (hsz ▸ spells_one) hreal ?_⟩
  simp only [VRel, upd_same]
  exact ⟨_, rfl, Nat.le_refl _, fun _ => ⟨hb.2, by simp⟩⟩
 ·exact absurd hrun run_fail
theorem op_alloc {t : TypeId} {r sz : Nat} {z : V} (ks : List Nat) (hr : Rel X T a μ) (ho : o.op = .alloc t) (hz : zeroT X t = some z)
  (hrun : (opAct E (.new r sz (.const (wkV ks z)))).run C ⟨T, μ.O⟩ = some (v, σ')) : σ'.T = T ∧ Done X o a μ σ'.O v := by
 obtain ⟨zv, h1, h2⟩ := zero_run hz μ.w
 refine op_new (t := t) (xv := zv) hr (VRel.wkV ks (constV_rel h2).1) ?_ hrun
 simp only [execOp, ho]
 refine run_v ?_
 simp [Instr.alloc, Sem.run_bind, h1, newVar, newRow]
theorem op_box {t : TypeId} {r sz : Nat} {x : Operand} {x' : AOpd} (ks : List Nat) (hr : Rel X T a μ) (ho : o.op = .box t x) (h1 : trO X x = some x')
  (hrun : (opAct E (.new r sz (wkO ks x'))).run C ⟨T, μ.O⟩ = some (v, σ')) : σ'.T = T ∧ Done X o a μ σ'.O v := by
 refine op_new (t := t) (xv := a.eval x) hr (VRel.wkO ks (trO_rel hr h1 μ.O)) ?_ hrun
 simp only [execOp, ho]
 refine run_v ?_
 simp [Instr.box, Sem.run_bind, newVar, newRow]
theorem zeros_spell {zv : Value} {sz n : Nat} (hz : zv.cells.size = sz) :
  ((Array.range (n * sz)).map (fun i => zv.cells[i % zv.cells.size]!)).size = n * sz ∧
   Spells ((Array.range (n * sz)).map (fun i => zv.cells[i % zv.cells.size]!)).toList 0 sz (List.replicate n zv) := by
 refine ⟨by simp, fun i v hv => ?_⟩
 rw [List.getElem?_replicate] at hv
 split at hv <;> simp at hv
 rename_i hi
 subst hv
 refine ⟨hz, fun j x hx => ?_⟩
 have hj : j < sz := hz ▸ (Array.getElem?_eq_some_iff.1 hx).1
 have hlt := cell_lt hj hi
 have hm : (i * sz + j) % sz = j := by rw [Nat.mul_comm, Nat.mul_add_mod]; exact Nat.mod_eq_of_lt hj
 have hr : (Array.range (n * sz))[i * sz + j]? = some (i * sz + j) := by simp [hlt]
 simp only [Nat.zero_add, Array.toList_map, List.getElem?_map]
 rw [Array.getElem?_toList, hr]
 simp only [Option.map_some, hz, hm]
 rw [getElem!_def, hx]
theorem VRels.replicate {z : V} {zv : Value} (h : VRel X μ z zv) : ∀ n, VRels X μ (List.replicate n z) (List.replicate n zv)
 | 0 => by simp [VRels]
 | n + 1 => by simp only [List.replicate_succ, VRels]; exact ⟨h, VRels.replicate h n⟩
theorem op_makeSlice {t e : TypeId} {x y : Operand} {x' y' : AOpd} {r sz : Nat} {i : TypeInfo} {z : V} (hr : Rel X T a μ) (ho : o.op = .makeSlice t x y) (hd : descT X t = some (.slice e)) (hn : sizeT X e = some sz)
  (hi : info X e = some i) (hz : zeroT X e = some z) (h1 : trO X x = some x') (h2 : trO X y = some y')
  (hrun : (opAct E (.makeSlice r sz i.bytes z x' y')).run C ⟨T, μ.O⟩ = some (v, σ')) : σ'.T = T ∧ Done X o a μ σ'.O v := by
 simp only [opAct, run_ev] at hrun
 have hx := trO_rel hr h1 μ.O
 have hy := trO_rel hr h2 μ.O
 split at hrun
 ·rename_i k n k' m e1 e2
  split at hrun
  ·rename_i hc
   obtain ⟨hc1, hc2, hc3, hc4, hc5, hc6⟩ := hc
   simp only [Act.run, Option.some.injEq, Prod.mk.injEq] at hrun
   obtain ⟨rfl, rfl⟩ := hrun
   rw [e1] at hx; rw [e2] at hy
   simp only [VRel] at hx hy
   obtain ⟨zv, hz1, hz2⟩ := zero_run hz μ.w
   obtain ⟨hzr, hzl⟩ := constV_rel (X := X) (μ := μ) hz2
   have hzs : zv.cells.size = sz := by rw [hzr.cells_size hzl, (isBlank_lies hc4).2]
   obtain ⟨hsz1, hsp⟩ := zeros_spell (n := m.toNat) hzs
   have hw1 : IntKind.i64.wrap n = n := IntWalk.i64_in _ (by omega)
   have hw2 : IntKind.i64.wrap m = m := IntWalk.i64_in _ (by omega)
   have hdd : X.P.underlying t = some (.slice e) := hd
   have hii : X.P.info? e = some i := hi
   have htl : ¬ (((decide (m < 0) || decide ((i.bytes : Int) * m > 2 ^ 48)) || decide (n < 0) || decide (n > m)) = true) := by
    simp only [Bool.or_eq_true, decide_eq_true_eq, not_or]
    have : (i.bytes : Int) * m = m * i.bytes := Int.mul_comm _ _
    have h48 : (2 : Int) ^ 48 = 281474976710656 := by decide
    refine ⟨⟨⟨by omega, by omega⟩, by omega⟩, by omega⟩
   refine ⟨rfl, done_new hr (cap := m.toNat) (es := List.replicate m.toNat z) (vs := List.replicate m.toNat zv) (val := .slice (some ⟨μ.w.heap.size, 0, none⟩) n.toNat m.toNat) hc5 (by simp) ?_ (VRels.replicate hzr _) (by rw [hsz1]; exact Nat.le_refl _) hsp (t := e) ?_ ?_⟩
   ·simp only [List.all_eq_true, List.mem_replicate]
    rintro q ⟨_, rfl⟩; exact hc4
   ·simp only [execOp, ho]
    refine run_v ?_
    simp only [Instr.makeSlice, Sem.run_bind, run_underlying hdd, Result.andThen_ok, hx, hy, asInt, asIntOf, Sem.run_pure, run_typeInfo μ.w hii, hw1, hw2]
    rw [if_neg htl]
    simp only [Sem.run_bind, run_askRoom, Result.andThen_ok, run_sizeT hn]
    by_cases hm0 : m.toNat * sz = 0
    ·rw [if_pos hm0]
     simp only [Sem.run_pure, Result.andThen_ok, newRow, Sem.run_bind, run_newObj]
     have hr0 : Array.range 0 = #[] := rfl
     rw [hm0, hr0]
     simp
    ·rw [if_neg hm0]
     simp only [Sem.run_bind, hz1, Result.andThen_ok, Sem.run_pure, newRow, run_newObj]
     simp
   ·simp only [VRel, upd_same]
    exact ⟨_, _, rfl, by omega, Nat.le_refl _, fun _ => ⟨by omega, by simp, by simp⟩⟩
  ·exact absurd hrun run_fail
 ·exact absurd hrun run_fail
theorem frzCell_sound {c : V} {k : V → Act} {val : Value} {O : Nat → Obj} {p : V × St} (ho : Objs X ⟨μ.w, μ.φ, O⟩) (hv : VRel X ⟨μ.w, μ.φ, O⟩ c val) (hrun : (frzCell c k).run C ⟨T, O⟩ = some p) :
  ∃ c' O', (k c').run C ⟨T, O'⟩ = some p ∧ VRel X ⟨μ.w, μ.φ, O'⟩ c' val ∧ Le ⟨μ.w, μ.φ, O⟩ ⟨μ.w, μ.φ, O'⟩ ∧ Objs X ⟨μ.w, μ.φ, O'⟩ ∧ (c.isCell = true → c'.isCell = true) := by
 have same : (frzCell c k).run C ⟨T, O⟩ = (k c).run C ⟨T, O⟩ → _ := fun e => (⟨c, O, e ▸ hrun, hv, Le.refl _, ho, id⟩ : ∃ c' O', (k c').run C ⟨T, O'⟩ = some p ∧ VRel X ⟨μ.w, μ.φ, O'⟩ c' val ∧ Le ⟨μ.w, μ.φ, O⟩ ⟨μ.w, μ.φ, O'⟩ ∧ Objs X ⟨μ.w, μ.φ, O'⟩ ∧ (c.isCell = true → c'.isCell = true))
 cases c with
 | mp r g =>
  simp only [frzCell, Act.run] at hrun
  split at hrun
  ·rename_i es hes
   split at hrun
   ·rename_i hc
    obtain ⟨hc1, hc2, hc3, hc4⟩ := hc
    simp only [Act.run] at hrun
    obtain ⟨le, ho'⟩ := freeze_obj (μ := ⟨μ.w, μ.φ, O⟩) ho r
    refine ⟨_, _, hrun, ?_, le, ho', fun _ => rfl⟩
    simp only [VRel] at hv
    obtain ⟨a, rfl, h1, h2⟩ := hv
    obtain ⟨k0, rfl⟩ := h2 hc1
    have hcase := ho'.ents r es (by simp [upd_same, hes]) (by simp [upd_same, hc2])
    rcases hcase with ⟨hcap, ents, clock, hm, hrel⟩ | ⟨_, s, pos, _, rfl⟩
    rotate_left
    ·simp [V.isTuple] at hc4
    simp only [VRel]
    refine ⟨hc3, .inr ⟨_, ents, clock, rfl, ?_, (Array.getElem?_eq_some_iff.1 hm).1, hm, hrel⟩⟩
    rintro (⟨r', h1, h2, h3, h4⟩ | hban)
    ·by_cases e : r' = r
     ·subst e; simp [upd_same] at h2
     ·exact ho'.inj r' r e h1 (by simp [upd_same, hes]) h3 hcap h4
    ·exact ho'.nob r (by simp [upd_same, hes]) hcap hban
   ·exact absurd hrun run_fail
  ·exact absurd hrun run_fail
 | sl r g off len =>
  simp only [frzCell, Act.run] at hrun
  split at hrun
  ·rename_i es hes
   split at hrun
   ·rename_i hc
    obtain ⟨hc1, hc2, hc3, hc4⟩ := hc
    simp only [Act.run] at hrun
    obtain ⟨le, ho'⟩ := freeze_obj (μ := ⟨μ.w, μ.φ, O⟩) ho r
    refine ⟨_, _, hrun, ?_, le, ho', fun _ => rfl⟩
    have hwl : (window es off len).length = len := by simp [window]; omega
    have hv' := VRel.mono le hv
    simp only [VRel, upd_same] at hv'
    obtain ⟨a0, cap, rfl, hle, _, haddr⟩ := hv'
    obtain ⟨k0, k1, k2⟩ := haddr hc1
    obtain ⟨q1, q2, q3, q4⟩ := ho'.row r es (by simp [upd_same, hes]) (by simpa [upd_same] using k0)
    simp only [upd_same] at q1 q2 q3 q4
    simp only [VRel]
    refine ⟨hc4, ?_, a0, cap, ?_⟩
    ·simp only [List.all_eq_true] at q3 ⊢
     exact fun x hx => (isBlank_lies (q3 x (List.mem_of_mem_drop (List.mem_of_mem_take hx)))).1
    ·by_cases hcap : cap = 0
     ·have : len = 0 := by omega
      subst this
      refine ⟨[], by rw [hwl], by rw [hwl]; omega, ?_, .inl ?_⟩
      ·simp [window, VRels]
      ·simp [window]
     ·have hc0 : (μ.φ r).cap ≠ 0 := by omega
      rcases q4 with q4 | ⟨cc, TT, vs, p1, p2, p3, p4⟩
      ·exact absurd q4 hc0
      ·refine ⟨(vs.drop off).take len, by rw [hwl], by rw [hwl]; omega, VRels.take _ (VRels.drop _ p3), .inr ⟨_, _, k2.resolve_left hcap, ?_, (Array.getElem?_eq_some_iff.1 p1).1, (p4.drop off).take len⟩⟩
       rintro (⟨r', h1, h2, h3, h4⟩ | hban)
       ·by_cases e : r' = r
        ·subst e; simp [upd_same] at h2
        ·have := ho'.inj r' r e h1 (by simp [upd_same, hes]) h3 hc0
         exact this h4
       ·exact ho'.nob r (by simp [upd_same, hes]) hc0 hban
   ·exact absurd hrun run_fail
  ·exact absurd hrun run_fail
 | own _ _ => exact absurd hrun run_fail
 | msl _ _ _ _ => exact absurd hrun run_fail
 | mptr _ _ _ _ => exact absurd hrun run_fail
 | any => exact absurd hrun run_fail
 | it _ _ => exact absurd hrun run_fail
 | _ => exact same rfl
theorem frzCells_sound : ∀ {cs : List V} {k : List V → Act} {vals : List Value} {O : Nat → Obj} {p : V × St}, Objs X ⟨μ.w, μ.φ, O⟩ → VRels X ⟨μ.w, μ.φ, O⟩ cs vals → (frzCells cs k).run C ⟨T, O⟩ = some p →
  ∃ cs' O', (k cs').run C ⟨T, O'⟩ = some p ∧ VRels X ⟨μ.w, μ.φ, O'⟩ cs' vals ∧ Le ⟨μ.w, μ.φ, O⟩ ⟨μ.w, μ.φ, O'⟩ ∧ Objs X ⟨μ.w, μ.φ, O'⟩ ∧ (cs.all V.isCell = true → cs'.all V.isCell = true)
 | [], k, [], O, p, ho, _, hrun => ⟨[], O, hrun, by simp [VRels], Le.refl _, ho, id⟩
 | [], _, _ :: _, _, _, _, h, _ => by simp [VRels] at h
 | _ :: _, _, [], _, _, _, h, _ => by simp [VRels] at h
 | c :: cs, k, v :: vals, O, p, ho, h, hrun => by
  simp only [VRels] at h
  obtain ⟨c', O1, h1, h2, h3, h4, h5⟩ := frzCell_sound ho h.1 hrun
  obtain ⟨cs', O2, k1, k2, k3, k4, k5⟩ := frzCells_sound h4 (VRels.mono h3 h.2) h1
  refine ⟨c' :: cs', O2, k1, ?_, h3.trans k3, k4, ?_⟩
  ·simp only [VRels]; exact ⟨VRel.mono k3 h2, k2⟩
  ·intro hh
   simp only [List.all_cons, Bool.and_eq_true] at hh ⊢
   exact ⟨h5 hh.1, k5 hh.2⟩
theorem frz_sound {c : V} {k : V → Act} {val : Value} {O : Nat → Obj} {p : V × St} (ho : Objs X ⟨μ.w, μ.φ, O⟩) (hv : VRel X ⟨μ.w, μ.φ, O⟩ c val) (hrun : (frz c k).run C ⟨T, O⟩ = some p) :
  ∃ c' O', (k c').run C ⟨T, O'⟩ = some p ∧ VRel X ⟨μ.w, μ.φ, O'⟩ c' val ∧ Le ⟨μ.w, μ.φ, O⟩ ⟨μ.w, μ.φ, O'⟩ ∧ Objs X ⟨μ.w, μ.φ, O'⟩ := by
 unfold frz at hrun
 split at hrun
 ·exact ⟨c, O, hrun, hv, Le.refl _, ho⟩
 ·split at hrun
  ·simp only [VRel] at hv
   obtain ⟨h0, vs, rfl, hvs⟩ := hv
   obtain ⟨cs', O', h1, h2, h3, h4, h5⟩ := frzCells_sound ho hvs hrun
   exact ⟨_, O', h1, by simp only [VRel]; exact ⟨h5 h0, vs, rfl, h2⟩, h3, h4⟩
  ·obtain ⟨c', O', h1, h2, h3, h4, _⟩ := frzCell_sound ho hv hrun
   exact ⟨c', O', h1, h2, h3, h4⟩
theorem frzs_go_sound : ∀ {cs : List V} {k : List V → Act} {vals : List Value} {O : Nat → Obj} {p : V × St}, Objs X ⟨μ.w, μ.φ, O⟩ → VRels X ⟨μ.w, μ.φ, O⟩ cs vals → (frzs.go cs k).run C ⟨T, O⟩ = some p →
  ∃ cs' O', (k cs').run C ⟨T, O'⟩ = some p ∧ VRels X ⟨μ.w, μ.φ, O'⟩ cs' vals ∧ Le ⟨μ.w, μ.φ, O⟩ ⟨μ.w, μ.φ, O'⟩ ∧ Objs X ⟨μ.w, μ.φ, O'⟩
 | [], k, [], O, p, ho, _, hrun => ⟨[], O, hrun, by simp [VRels], Le.refl _, ho⟩
 | [], _, _ :: _, _, _, _, h, _ => by simp [VRels] at h
 | _ :: _, _, [], _, _, _, h, _ => by simp [VRels] at h
 | c :: cs, k, v :: vals, O, p, ho, h, hrun => by
  simp only [VRels] at h
  obtain ⟨c', O1, h1, h2, h3, h4⟩ := frz_sound ho h.1 hrun
  obtain ⟨cs', O2, k1, k2, k3, k4⟩ := frzs_go_sound h4 (VRels.mono h3 h.2) h1
  refine ⟨c' :: cs', O2, k1, ?_, h3.trans k3, k4⟩
  simp only [VRels]; exact ⟨VRel.mono k3 h2, k2⟩
theorem frzs_sound {cs : List V} {k : List V → Act} {vals : List Value} {O : Nat → Obj} {p : V × St} (ho : Objs X ⟨μ.w, μ.φ, O⟩) (hv : VRels X ⟨μ.w, μ.φ, O⟩ cs vals) (hrun : (frzs cs k).run C ⟨T, O⟩ = some p) :
  ∃ cs' O', (k cs').run C ⟨T, O'⟩ = some p ∧ VRels X ⟨μ.w, μ.φ, O'⟩ cs' vals ∧ Le ⟨μ.w, μ.φ, O⟩ ⟨μ.w, μ.φ, O'⟩ ∧ Objs X ⟨μ.w, μ.φ, O'⟩ := by
 unfold frzs at hrun
 split at hrun
 ·exact ⟨cs, O, hrun, hv, Le.refl _, ho⟩
 ·exact frzs_go_sound ho hv hrun
end
end Go.AM
namespace Go.AM
open Go Go.RowKit
theorem set_eq_splice {α : Type} (L : List α) (p : Nat) (x : α) (h : p < L.length) : L.set p x = splice L p [x] := by
 apply List.ext_getElem?
 intro q
 rw [splice_get (by simp; omega), List.getElem?_set]
 by_cases hq : q < p
 ·simp [hq]; omega
 ·by_cases hq2 : p = q
  ·subst hq2; simp [h]
  ·have : ¬ q < p + 1 := by omega
   simp [hq, hq2, this]
theorem len_toList {α : Type} (xs : Array α) : xs.toList.length = xs.size := Array.length_toList
section
variable {X : Ctx} {E : Env} {C : Oracle} {o : Oper} {a : Go.Act} {T : Nat → V} {μ : Mu} {v : V} {σ' : St}
theorem putPart_rel {agg : Bool} {off sz : Nat} {e u e' : V} {x val : Value} (he : VRel X μ e x) (hl : e.lies = true) (hu : VRel X μ u val) (h : putPart agg off sz e u = some e') :
  ∃ x', VRel X μ e' x' ∧ e'.lies = true ∧ e'.cells.length = e.cells.length ∧ val.cells.size = sz ∧ off + sz ≤ x.cells.size ∧ x'.cells.toList = splice x.cells.toList off val.cells.toList ∧
   ∀ c ∈ val.cells.toList, c.oneCell' = true := by
 unfold putPart at h
 split at h
 ·split at h
  ·rename_i cs vs
   split at h <;> simp at h
   rename_i hc
   subst h
   simp only [VRel] at he hu
   obtain ⟨h0, xs, rfl, hx⟩ := he
   obtain ⟨k0, ys, rfl, hy⟩ := hu
   have l1 := hx.length
   have l2 := hy.length
   rw [len_toList xs] at l1
   rw [len_toList ys] at l2
   refine ⟨.agg (splice xs.toList off ys.toList).toArray, ?_, rfl, ?_, ?_, ?_, ?_, ?_⟩
   ·simp only [VRel]
    refine ⟨?_, _, rfl, ?_⟩
    ·have t1 := all_takeO (p := V.isCell) off h0
     have t2 := all_drop (p := V.isCell) (off + sz) h0
     simp only [List.all_append, t1, k0, t2, Bool.and_self]
    ·have := ((VRels.take off hx).append hy).append (VRels.drop (off + sz) hx)
     simpa [splice, ← l2, hc.1] using this
   ·simp [V.cells]; omega
   ·simp only [Value.cells]; omega
   ·simp only [Value.cells]; omega
   ·simp [Value.cells]
   ·intro c hcm
    simp only [Value.cells] at hcm
    obtain ⟨j, hj⟩ := List.getElem?_of_mem hcm
    have hlt : j < vs.length := by rw [hy.length]; exact (List.getElem?_eq_some_iff.1 hj).1
    obtain ⟨c', g1, g2⟩ := hy.get (List.getElem?_eq_getElem hlt)
    rw [hj] at g1; injection g1 with g1; subst g1
    simp only [List.all_eq_true] at k0
    exact (g2.oneCell (k0 _ (List.getElem_mem hlt))).1
  ·simp at h
 ·split at h
  ·rename_i hcell
   obtain ⟨hone, hcs⟩ := hu.oneCell hcell.1
   have hlast : ∀ c ∈ val.cells.toList, c.oneCell' = true := by rw [hcs]; simpa using hone
   split at h
   ·rename_i cs
    split at h <;> simp at h
    rename_i hoff
    subst h
    simp only [VRel] at he
    obtain ⟨h0, xs, rfl, hx⟩ := he
    have l1 := hx.length
    rw [len_toList xs] at l1
    refine ⟨.agg (xs.toList.set off val).toArray, ?_, rfl, ?_, ?_, ?_, ?_, hlast⟩
    ·simp only [VRel]
     refine ⟨?_, _, rfl, by simpa using VRels.set hx off hu⟩
     simp only [List.all_eq_true] at h0 ⊢
     intro c hcm
     rcases List.mem_or_eq_of_mem_set hcm with hm | rfl
     ·exact h0 c hm
     ·exact hcell.1
    ·simp [V.cells]
    ·rw [hcs, hcell.2]; rfl
    ·simp only [Value.cells]; omega
    ·rw [hcs]
     simp only [Value.cells]
     rw [set_eq_splice _ _ _ (by rw [Array.length_toList]; omega)]
   ·split at h <;> simp at h
    rename_i hne hc0
    subst h
    obtain ⟨_, hcx⟩ := he.oneCell hc0.1
    refine ⟨val, hu, by simp [V.lies, hcell.1], ?_, ?_, ?_, ?_, hlast⟩
    ·rw [V.cells_of_isCell hcell.1, V.cells_of_isCell hc0.1]; rfl
    ·rw [hcs, hcell.2]; rfl
    ·rw [hcx, hcell.2, hc0.2]; simp
    ·rw [hcs, hcx, hc0.2]; simp [splice]
  ·simp at h
theorem storeVar_run {t : TypeId} {w : World} {g q sz : Nat} {cur : Array Value} {T0 : TypeId} {val : Value} (hn : sizeT X t = some sz) (hg : w.heap[g]? = some (.cells cur T0 (0, 0)))
  (hs : val.cells.size = sz) (hl : q + sz ≤ cur.size) (h1 : ∀ c ∈ val.cells.toList, c.oneCell' = true) :
  (storeVar t ⟨g, q, none⟩ val).run X.P w = .ok () (w.setRow g (splice cur.toList q val.cells.toList).toArray) := by
 have := run_store_row (P := X.P) hg val.cells.toList (by rw [Array.length_toList, hs]; exact hl) h1
 simp [storeVar, Sem.run_bind, run_sizeT hn, hs, this]
theorem putIn_sound {t : TypeId} {agg : Bool} {sz r g idx off : Nat} {u : V} {val : Value} {O : Nat → Obj} (ho : Objs X ⟨μ.w, μ.φ, O⟩) (hu : VRel X ⟨μ.w, μ.φ, O⟩ u val) (hn : sizeT X t = some sz) (h0 : 0 < (O r).sz)
  (hrun : (opAct.putIn agg sz r g idx off u).run C ⟨T, O⟩ = some (v, σ')) :
  σ'.T = T ∧ v = .tuple [] ∧ ∃ w' φ', (storeVar t ⟨(μ.φ r).blk, (μ.φ r).base + idx * (O r).sz + off, none⟩ val).run X.P μ.w = .ok () w' ∧ Le ⟨μ.w, μ.φ, O⟩ ⟨w', φ', σ'.O⟩ ∧ Objs X ⟨w', φ', σ'.O⟩ := by
 simp only [opAct.putIn, Act.run] at hrun
 split at hrun
 ·rename_i es hes
  split at hrun
  ·rename_i hc
   split at hrun
   ·rename_i e he
    split at hrun
    ·rename_i e' hp
     simp only [Act.run, Option.some.injEq, Prod.mk.injEq] at hrun
     obtain ⟨rfl, rfl⟩ := hrun
     obtain ⟨k1, k2, k3, k4⟩ := ho.row r es hes h0
     simp only at k1 k2 k3 k4
     have hlt : idx < es.length := (List.getElem?_eq_some_iff.1 he).1
     have hc0 : (μ.φ r).cap ≠ 0 := by omega
     rcases k4 with k4 | ⟨c, T0, vs, hb, hroom, hvs, hrow⟩
     ·exact absurd k4 hc0
     ·obtain ⟨x, hx, hrel⟩ := hvs.get he
      have hbl : isBlank e (O r).sz = true := by
       simp only [List.all_eq_true] at k3
       exact k3 e (List.mem_of_getElem? he)
      obtain ⟨hlies, hcl⟩ := isBlank_lies hbl
      obtain ⟨x', p1, p2, p3, p4, p5, p6, p7⟩ := putPart_rel hrel hlies hu hp
      have hxs : x.cells.size = (O r).sz := by rw [hrel.cells_size hlies, hcl]
      have hsp : Spells c.toList (μ.φ r).base (O r).sz vs := spells_of_row hb hrow
      have hmul : (idx + 1) * (O r).sz ≤ (μ.φ r).cap * (O r).sz := Nat.mul_le_mul_right _ (by omega)
      have hroom2 : (μ.φ r).base + (idx + 1) * (O r).sz ≤ c.toList.length := by rw [Array.length_toList]; omega
      have hput := hsp.put (x' := x') hx hroom2 (m := val.cells.toList) (by rw [Array.length_toList, p4]; omega) p6
      have hst := storeVar_run (X := X) (t := t) (q := (μ.φ r).base + idx * (O r).sz + off) (val := val) hn hb p4 (by rw [Nat.add_mul] at hmul; omega) p7
      have hw := write_obj (μ := ⟨μ.w, μ.φ, O⟩) ho r hes hc.2 hb hc0 (c' := (splice c.toList ((μ.φ r).base + idx * (O r).sz + off) val.cells.toList).toArray)
       (by
        have : (splice c.toList ((μ.φ r).base + idx * (O r).sz + off) val.cells.toList).length = c.toList.length := splice_length (by
         rw [Array.length_toList, Array.length_toList, p4]; rw [Nat.add_mul] at hmul; omega)
        simpa using this)
       (O r).gen (μ.φ r).base (μ.φ r).cap (es' := es.set idx e') (vs' := vs.set idx x') (.inl ⟨rfl, rfl, rfl⟩) hc0 (by simpa using k2)
       (by
        simp only [List.all_eq_true] at k3 ⊢
        intro y hy
        rcases List.mem_or_eq_of_mem_set hy with hm | rfl
        ·exact k3 y hm
        ·simp [isBlank, p2, p3, hcl])
       (VRels.set hvs idx p1) hroom (fun i y hy => by
        obtain ⟨q1, q2⟩ := hput i y hy
        exact ⟨q1, fun j z hz => by simpa using q2 j z hz⟩)
      refine ⟨rfl, rfl, _, _, hst, hw.1, hw.2⟩
    ·exact absurd hrun run_fail
   ·exact absurd hrun run_fail
  ·exact absurd hrun run_fail
 ·exact absurd hrun run_fail
theorem op_store {t : TypeId} {x y : Operand} {x' y' : AOpd} {agg : Bool} {sz : Nat} (hr : Rel X T a μ) (ho : o.op = .store t x y) (h1 : trO X x = some x') (h2 : trO X y = some y')
  (hn : sizeT X t = some sz) (hrun : (opAct E (.store agg sz x' y')).run C ⟨T, μ.O⟩ = some (v, σ')) : σ'.T = T ∧ Done X o a μ σ'.O v := by
 simp only [opAct, run_ev] at hrun
 have hx := trO_rel hr h1 μ.O
 have hy := trO_rel hr h2 μ.O
 split at hrun
 ·rename_i r g idx off e
  rw [e] at hx
  simp only [VRel] at hx
  obtain ⟨p, hp, hge, haddr⟩ := hx
  have fin : ∀ w', (storeVar t p (a.eval y)).run X.P μ.w = .ok () w' → (execOp a.eval o).run X.P μ.w = .ok .skip w' := fun w' hw => by
   simp only [execOp, ho]
   refine run_u ?_
   simp [Instr.storeAt, Instr.sureAddr, Sem.run_bind, hp, hw]
  have main : ∀ {O : Nat → Obj} {u : V}, Le μ ⟨μ.w, μ.φ, O⟩ → Objs X ⟨μ.w, μ.φ, O⟩ → VRel X ⟨μ.w, μ.φ, O⟩ u (a.eval y) → (opAct.putIn agg sz r g idx off u).run C ⟨T, O⟩ = some (v, σ') →
    σ'.T = T ∧ Done X o a μ σ'.O v := by
   intro O u le hobj hu hput
   have hgO : (O r).gen = g := by
    simp only [opAct.putIn, Act.run] at hput
    split at hput
    ·split at hput
     ·rename_i hc; exact hc.1
     ·exact absurd hput run_fail
    ·exact absurd hput run_fail
   have hge2 := le.gen r
   simp only at hge2
   have hgm : (μ.O r).gen = g := by omega
   obtain ⟨_, hszO⟩ := le.row r (by simp only; omega)
   obtain ⟨q1, q2, w', φ', q3, q4, q5⟩ := putIn_sound (t := t) hobj hu hn (by simp only at hszO; rw [hszO]; exact (haddr hgm).1) hput
   refine ⟨q1, undef, w', φ', .inr ⟨fin w' ?_, rfl⟩, ?_, le.trans q4, q5⟩
   ·rw [(haddr hgm).2]
    simp only at hszO
    rw [← hszO]; exact q3
   ·rw [q2]; simp only [VRel]; exact ⟨#[], rfl, by simp [VRels]⟩
  simp only [Act.run] at hrun
  split at hrun
  ·rw [run_ev] at hrun
   obtain ⟨u, O1, k1, k2, k3, k4⟩ := frz_sound (μ := μ) hr.objs hy hrun
   exact main k3 k4 k2 k1
  ·rw [run_ev] at hrun
   exact main (Le.refl μ) hr.objs hy hrun
 ·exact absurd hrun run_fail
theorem foldl_set {off : Nat} : ∀ (m : List Value) (k : Nat) (cs : Array Value), off + k + m.length ≤ cs.size →
  ((m.zipIdx k).foldl (fun cs (p : Value × Nat) => cs.setIfInBounds (off + p.2) p.1) cs).toList = splice cs.toList (off + k) m
 | [], k, cs, _ => by simp [splice]
 | x :: m, k, cs, h => by
  simp only [List.zipIdx_cons, List.foldl_cons]
  simp at h
  rw [foldl_set m (k + 1) _ (by simp; omega)]
  rw [Array.toList_setIfInBounds]
  apply List.ext_getElem?
  intro q
  rw [splice_get (by simp; omega), splice_get (by simp; omega), List.getElem?_set]
  by_cases h1 : q < off + k
  ·have : q < off + (k + 1) := by omega
   have h2 : ¬ off + k = q := by omega
   simp [h1, this, h2]
  ·by_cases h2 : q = off + k
   ·subst h2
    have h3 : off + k < off + (k + 1) := by omega
    have h4 : off + k < cs.size := by omega
    simp [h3, h4]
   ·by_cases h3 : q < off + k + (m.length + 1)
    ·have h4 : ¬ q < off + (k + 1) := by omega
     have h5 : q < off + (k + 1) + m.length := by omega
     have h6 : q - (off + k) = (q - (off + (k + 1))) + 1 := by omega
     simp [h1, h4, h3, h5, h6]
    ·have h4 : ¬ q < off + (k + 1) := by omega
     have h5 : ¬ q < off + (k + 1) + m.length := by omega
     have h6 : ¬ off + k = q := by omega
     simp [h1, h4, h3, h5, h6]
theorem fill_step {off : Nat} {x : Value} {cs : Array Value} (h : off + x.cells.size ≤ cs.size) :
  (x.cells.zipIdx.foldl (fun cs (p : Value × Nat) => cs.setIfInBounds (off + p.2) p.1) cs).toList = splice cs.toList off x.cells.toList := by
 rw [← Array.foldl_toList, Array.toList_zipIdx]
 have := foldl_set (off := off) x.cells.toList 0 cs (by rw [Array.length_toList]; omega)
 simpa using this
theorem fill_rel {place : Nat → Option (Nat × Nat)} : ∀ {ps : List (Nat × Nat × V)} {qs : List (Nat × Value)} {cs cs' : List V} {xs : Array Value},
  (ps.length = qs.length) → (∀ (i : Nat) p q, ps[i]? = some p → qs[i]? = some q → place q.1 = some (p.1, p.2.1) ∧ VRel X μ p.2.2 q.2) → VRels X μ cs xs.toList → cs.all V.isCell = true →
  fillCells cs ps = some cs' → ∃ xs', Instr.fill place xs qs = some xs' ∧ VRels X μ cs' xs'.toList ∧ cs'.all V.isCell = true
 | [], [], cs, cs', xs, _, _, hv, hc, h => by
  simp [fillCells] at h; subst h
  exact ⟨xs, rfl, hv, hc⟩
 | [], _ :: _, _, _, _, h, _, _, _, _ => by simp at h
 | _ :: _, [], _, _, _, h, _, _, _, _ => by simp at h
 | (off, sz, u) :: ps, (i, q) :: qs, cs, cs', xs, hl, hp, hv, hc, h => by
  simp only [fillCells] at h
  split at h
  ·rename_i hcond
   obtain ⟨h1, h2, h3⟩ := hcond
   obtain ⟨hplace, hrel⟩ := hp 0 _ _ rfl rfl
   simp only at hplace hrel
   have hqs : q.cells.size = sz := by rw [hrel.cells_size h3, h1]
   have hlen := hv.length
   rw [len_toList xs] at hlen
   have hfit : off + q.cells.size ≤ xs.size := by omega
   have hstep := fill_step (x := q) (cs := xs) hfit
   have hv2 : VRels X μ (cs.take off ++ u.cells ++ cs.drop (off + sz)) (q.cells.zipIdx.foldl (fun cs (p : Value × Nat) => cs.setIfInBounds (off + p.2) p.1) xs).toList := by
    rw [hstep]
    have := ((VRels.take off hv).append (hrel.cells h3)).append (VRels.drop (off + sz) hv)
    simpa [splice, hqs] using this
   have hc2 : (cs.take off ++ u.cells ++ cs.drop (off + sz)).all V.isCell = true := by
    have t1 := all_takeO (p := V.isCell) off hc
    have t2 := all_drop (p := V.isCell) (off + sz) hc
    simp only [List.all_append, t1, hrel.cells_isCell h3, t2, Bool.and_self]
   obtain ⟨xs', g1, g2, g3⟩ := fill_rel (place := place) (ps := ps) (qs := qs) (by simpa using hl) (fun j p q' hj hj' => hp (j + 1) p q' (by simpa using hj) (by simpa using hj')) hv2 hc2 h
   refine ⟨xs', ?_, g2, g3⟩
   have hcond2 : ¬ (q.cells.size ≠ sz ∨ xs.size < off + q.cells.size) := by omega
   simp only [Instr.fill, hplace]
   rw [if_neg (by simpa using hcond2)]
   exact g1
  ·simp at h
end
end Go.AM
namespace Go.AM
open Go Go.RowKit
theorem run_mapM_list {α β : Type} {P : Program} {w : World} {f : α → Sem β} {g : α → β} : ∀ (l : List α), (∀ x ∈ l, (f x).run P w = .ok (g x) w) → (l.mapM f).run P w = .ok (l.map g) w
 | [], _ => by simp
 | x :: l, h => by
  have h1 := h x (by simp)
  have h2 := run_mapM_list (f := f) (g := g) l fun y hy => h y (by simp [hy])
  simp [List.mapM_cons, Sem.run_bind, h1, h2]
theorem run_mapM_array {α β : Type} {P : Program} {w : World} {f : α → Sem β} {g : α → β} (l : Array α) (h : ∀ x ∈ l.toList, (f x).run P w = .ok (g x) w) : (l.mapM f).run P w = .ok (l.map g) w := by
 have := run_mapM_list l.toList h
 rw [Array.mapM_eq_mapM_toList]
 simp only [map_eq_pure_bind, Sem.run_bind, this, Result.andThen_ok, Sem.run_pure]
 congr 1
 apply Array.ext'; simp
section
variable {X : Ctx} {E : Env} {C : Oracle} {o : Oper} {a : Go.Act} {T : Nat → V} {μ : Mu} {v : V} {σ' : St}
theorem run_evParts : ∀ (ps : List (Nat × Nat × AOpd)) (k : List (Nat × Nat × V) → Act) (σ : St), (evParts ps k).run C σ = (k (ps.map fun p => (p.1, p.2.1, evalOpd σ p.2.2))).run C σ
 | [], _, _ => rfl
 | (_, _, x) :: ps, k, σ => by simp only [evParts, run_ev, run_evParts ps, List.map_cons]
theorem trParts_rel (hr : Rel X T a μ) (O : Nat → Obj) {place : Nat → Option (Nat × Nat)} : ∀ {ps : List (Nat × Operand)} {as : List (Nat × Nat × AOpd)}, trParts X place ps = some as →
  as.length = ps.length ∧ ∀ (i : Nat) p q, as[i]? = some p → ps[i]? = some q → place q.1 = some (p.1, p.2.1) ∧ VRel X μ (evalOpd ⟨T, O⟩ p.2.2) (a.eval q.2)
 | [], as, h => by simp [trParts] at h; subst h; simp
 | (i, x) :: ps, as, h => by
  simp only [trParts] at h
  split at h
  ·rename_i off sz y as' h1 h2 h3
   injection h with h; subst h
   obtain ⟨k1, k2⟩ := trParts_rel hr O h3
   refine ⟨by simp [k1], fun j p q hp hq => ?_⟩
   cases j with
   | zero => simp at hp hq; subst hp; subst hq; exact ⟨h1, trO_rel hr h2 O⟩
   | succ j => exact k2 j p q (by simpa using hp) (by simpa using hq)
  ·simp at h
theorem build_fill (ks : List Nat) (hr : Rel X T a μ) {t : TypeId} {z : List V} (hz : zeroT X t = some (.agg z)) {place : Nat → Option (Nat × Nat)} {parts : Array (Nat × Operand)} {as : List (Nat × Nat × AOpd)}
  (hp : trParts X place parts.toList = some as) (hrun : (opAct E (.build (wkC ks z) as)).run C ⟨T, μ.O⟩ = some (v, σ')) :
  σ' = ⟨T, μ.O⟩ ∧ ∃ zv cells, (zeroValue t).run X.P μ.w = .ok zv μ.w ∧ Instr.fill place zv.cells (parts.map fun (i, x) => (i, a.eval x)).toList = some cells ∧ VRel X μ v (.agg cells) := by
 simp only [opAct, run_evParts] at hrun
 obtain ⟨zv, hz1, hz2⟩ := zero_run hz μ.w
 obtain ⟨hzr, _⟩ := constV_rel (X := X) (μ := μ) hz2
 simp only [VRel] at hzr
 obtain ⟨h0, xs, rfl, hxs⟩ := hzr
 obtain ⟨l1, l2⟩ := trParts_rel hr μ.O hp
 split at hrun
 ·rename_i cs hcs
  obtain ⟨rfl, rfl⟩ := run_done hrun
  have key := fill_rel (X := X) (μ := μ) (place := place) (ps := as.map fun p => (p.1, p.2.1, evalOpd ⟨T, μ.O⟩ p.2.2)) (qs := (parts.map fun (i, x) => (i, a.eval x)).toList) (xs := xs)
   (by simp [l1]) (fun j p q hp hq => by
    simp only [List.getElem?_map, Option.map_eq_some_iff] at hp
    obtain ⟨p', hp', rfl⟩ := hp
    rw [Array.toList_map, List.getElem?_map, Option.map_eq_some_iff] at hq
    obtain ⟨q', hq', rfl⟩ := hq
    exact l2 j p' q' hp' hq') (hxs.wkC ks) (wkC_isCell ks h0) hcs
  obtain ⟨xs', g1, g2, g3⟩ := key
  exact ⟨rfl, _, xs', hz1, g1, by simp only [VRel]; exact ⟨g3, xs', rfl, g2⟩⟩
 ·exact absurd hrun run_fail
theorem op_buildS (ks : List Nat) {t : TypeId} {parts : Array (Nat × Operand)} {z : List V} {fs : Array Field} {as : List (Nat × Nat × AOpd)} (hr : Rel X T a μ) (ho : o.op = .build t parts) (hz : zeroT X t = some (.agg z))
  (hd : descT X t = some (.struct fs)) (hall : fs.toList.all (fun f => (sizeT X f.type).isSome) = true)
  (hp : trParts X (fun i => match fs[i]? with | some f => (sizeT X f.type).map fun s => (f.offset, s) | none => none) parts.toList = some as)
  (hrun : (opAct E (.build (wkC ks z) as)).run C ⟨T, μ.O⟩ = some (v, σ')) : σ'.T = T ∧ Done X o a μ σ'.O v := by
 obtain ⟨rfl, zv, cells, h1, h2, h3⟩ := build_fill ks hr hz hp hrun
 refine ⟨rfl, done_pure hr.objs ?_ h3⟩
 simp only [execOp, ho]
 refine run_v ?_
 have hd' : X.P.underlying t = some (.struct fs) := hd
 have hm := run_mapM_array (P := X.P) (w := μ.w) (f := fun f : Field => do pure (f.offset, ← sizeOf f.type)) (g := fun f : Field => (f.offset, (sizeT X f.type).getD 0)) fs (fun f hf => by
  simp only [List.all_eq_true] at hall
  obtain ⟨s, hs⟩ := Option.isSome_iff_exists.1 (hall f hf)
  simp [Sem.run_bind, run_sizeT hs, hs])
 have hpl : (fun (i : Nat) => (fs.map fun (f : Field) => (f.offset, (sizeT X f.type).getD 0))[i]?) = fun (i : Nat) => match fs[i]? with | some f => (sizeT X f.type).map fun s => (f.offset, s) | none => none := by
  funext i
  rw [Array.getElem?_map]
  cases hf : fs[i]? with
  | none => rfl
  | some f =>
   simp only [List.all_eq_true] at hall
   obtain ⟨s, hs⟩ := Option.isSome_iff_exists.1 (hall f (by simpa using Array.mem_of_getElem? hf))
   simp [hs]
 simp only [Instr.build, Sem.run_bind, h1, Result.andThen_ok, run_underlying hd', hm, hpl, h2, Sem.run_pure]
theorem op_buildA (ks : List Nat) {t e : TypeId} {n s : Nat} {parts : Array (Nat × Operand)} {z : List V} {as : List (Nat × Nat × AOpd)} (hr : Rel X T a μ) (ho : o.op = .build t parts) (hz : zeroT X t = some (.agg z))
  (hd : descT X t = some (.array n e)) (hs : sizeT X e = some s) (hp : trParts X (fun i => some (i * s, s)) parts.toList = some as)
  (hrun : (opAct E (.build (wkC ks z) as)).run C ⟨T, μ.O⟩ = some (v, σ')) : σ'.T = T ∧ Done X o a μ σ'.O v := by
 obtain ⟨rfl, zv, cells, h1, h2, h3⟩ := build_fill ks hr hz hp hrun
 refine ⟨rfl, done_pure hr.objs ?_ h3⟩
 simp only [execOp, ho]
 refine run_v ?_
 have hd' : X.P.underlying t = some (.array n e) := hd
 simp only [Instr.build, Sem.run_bind, h1, Result.andThen_ok, run_underlying hd', run_sizeT hs, h2, Sem.run_pure]
theorem evElems_sound (hr : Rel X T a μ) : ∀ {ps : List (Nat × Operand)} {as : List (Nat × AOpd)} {k : List (Nat × V) → Act} {O : Nat → Obj} {p : V × St}, trElems X ps = some as → Le μ ⟨μ.w, μ.φ, O⟩ → Objs X ⟨μ.w, μ.φ, O⟩ →
  (evElems as k).run C ⟨T, O⟩ = some p →
  ∃ vs O', (k vs).run C ⟨T, O'⟩ = some p ∧ vs.length = ps.length ∧ Le ⟨μ.w, μ.φ, O⟩ ⟨μ.w, μ.φ, O'⟩ ∧ Objs X ⟨μ.w, μ.φ, O'⟩ ∧
   ∀ (i : Nat) q q', vs[i]? = some q → ps[i]? = some q' → q.1 = q'.1 ∧ VRel X ⟨μ.w, μ.φ, O'⟩ q.2 (a.eval q'.2)
 | [], as, k, O, p, h, le, ho, hrun => by
  simp [trElems] at h; subst h
  exact ⟨[], O, hrun, rfl, Le.refl _, ho, by simp⟩
 | (i, x) :: ps, as, k, O, p, h, le, ho, hrun => by
  simp only [trElems] at h
  split at h
  ·rename_i y as' h1 h2
   injection h with h; subst h
   simp only [evElems, run_ev] at hrun
   have hx : VRel X ⟨μ.w, μ.φ, O⟩ (evalOpd ⟨T, O⟩ y) (a.eval x) := by
    have := VRel.mono le (trO_rel hr h1 O)
    exact this
   obtain ⟨u, O1, k1, k2, k3, k4⟩ := frz_sound (μ := μ) ho hx hrun
   obtain ⟨vs, O2, g1, g2, g3, g4, g5⟩ := evElems_sound hr h2 (le.trans k3) k4 k1
   refine ⟨(i, u) :: vs, O2, g1, by simp [g2], k3.trans g3, g4, fun j q q' hq hq' => ?_⟩
   cases j with
   | zero => simp at hq hq'; subst hq; subst hq'; exact ⟨rfl, VRel.mono g3 k2⟩
   | succ j => exact g5 j q q' (by simpa using hq) (by simpa using hq')
  ·simp at h
theorem set_eq_take_drop {α : Type} (L : List α) (i : Nat) (x : α) (h : i < L.length) : L.set i x = L.take i ++ [x] ++ L.drop (i + 1) := by
 rw [set_eq_splice L i x h]; rfl
theorem fillElems_rel {sz : Nat} : ∀ {vs : List (Nat × V)} {qs : List (Nat × Value)} {es es' : List V} {us : List Value} {c : Array Value}, vs.length = qs.length →
  (∀ (i : Nat) p q, vs[i]? = some p → qs[i]? = some q → p.1 = q.1 ∧ VRel X μ p.2 q.2) → VRels X μ es us → Spells c.toList 0 sz us → c.size = us.length * sz → es.all (isBlank · sz) = true →
  fillElems sz es vs = some es' → ∃ c' us', Instr.fill (fun i => some (i * sz, sz)) c qs = some c' ∧ VRels X μ es' us' ∧ Spells c'.toList 0 sz us' ∧ c'.size = us'.length * sz ∧
   es'.all (isBlank · sz) = true ∧ es'.length = es.length
 | [], [], es, es', us, c, _, _, hv, hs, hc, hb, h => by
  simp [fillElems] at h; subst h
  exact ⟨c, us, rfl, hv, hs, hc, hb, rfl⟩
 | [], _ :: _, _, _, _, _, h, _, _, _, _, _, _ => by simp at h
 | _ :: _, [], _, _, _, _, h, _, _, _, _, _, _ => by simp at h
 | (i, u) :: vs, (i', q) :: qs, es, es', us, c, hl, hp, hv, hs, hc, hb, h => by
  simp only [fillElems] at h
  split at h
  ·rename_i hcond
   obtain ⟨hi, hbl⟩ := hcond
   obtain ⟨e1, hrel⟩ := hp 0 _ _ rfl rfl
   simp only at e1 hrel
   subst e1
   obtain ⟨hlies, hcl⟩ := isBlank_lies hbl
   have hqs : q.cells.size = sz := by rw [hrel.cells_size hlies, hcl]
   have hiu : i < us.length := by rw [← hv.length]; exact hi
   have hmul : (i + 1) * sz ≤ us.length * sz := Nat.mul_le_mul_right _ (by omega)
   rw [Nat.add_mul] at hmul
   have hfit : i * sz + q.cells.size ≤ c.size := by omega
   have hstep := fill_step (x := q) (cs := c) hfit
   have hflat : flat [q] = q.cells.toList := by simp [flat]
   have hw := hs.write (k := i) (us := [q]) (by omega) (by simpa using hqs) (by rw [len_toList]; simp; omega)
   rw [hflat, Nat.zero_add] at hw
   have hset : us.take i ++ [q] ++ us.drop (i + [q].length) = us.set i q := (set_eq_take_drop us i q hiu).symm
   rw [hset, ← hstep] at hw
   have hsz : (q.cells.zipIdx.foldl (fun cs (p : Value × Nat) => cs.setIfInBounds (i * sz + p.2) p.1) c).size = (us.set i q).length * sz := by
    rw [← len_toList, hstep, splice_length (by rw [len_toList, len_toList]; exact hfit), len_toList]; simpa using hc
   have hbl2 : (es.set i u).all (isBlank · sz) = true := by
    simp only [List.all_eq_true] at hb ⊢
    intro y hy
    rcases List.mem_or_eq_of_mem_set hy with hm | rfl
    ·exact hb y hm
    ·exact hbl
   obtain ⟨c', us', g1, g2, g3, g4, g5, g6⟩ := fillElems_rel (vs := vs) (qs := qs) (by simpa using hl) (fun j p q' hj hj' => hp (j + 1) p q' (by simpa using hj) (by simpa using hj')) (VRels.set hv i hrel) hw hsz hbl2 h
   refine ⟨c', us', ?_, g2, g3, g4, g5, by simpa using g6⟩
   have hcond2 : ¬ (q.cells.size ≠ sz ∨ c.size < i * sz + q.cells.size) := by omega
   simp only [Instr.fill]
   rw [if_neg (by simpa using hcond2)]
   exact g1
  ·simp at h
theorem op_buildSlice_core {t e : TypeId} {n sz r : Nat} {parts : Array (Nat × Operand)} {z : V} (hr : Rel X T a μ) (ho : o.op = .buildSlice t n parts) (hd : descT X t = some (.slice e))
  (hn : sizeT X e = some sz) (hz : zeroT X e = some z) (hev : ∃ vs O', (match fillElems sz (List.replicate n z) vs with
   | some es => if isBlank z sz && decide (0 < sz ∧ n * sz ≤ 16777216) then AM.Act.getO r fun o => AM.Act.setO r { gen := o.gen + 1, sz, arr := true, fz := false, es := some es } (.done (.sl r (o.gen + 1) 0 n)) else AM.Act.fail
   | none => AM.Act.fail).run C ⟨T, O'⟩ = some (v, σ') ∧ vs.length = parts.toList.length ∧ Le μ ⟨μ.w, μ.φ, O'⟩ ∧ Objs X ⟨μ.w, μ.φ, O'⟩ ∧
   ∀ (i : Nat) q q', vs[i]? = some q → parts.toList[i]? = some q' → q.1 = q'.1 ∧ VRel X ⟨μ.w, μ.φ, O'⟩ q.2 (a.eval q'.2)) : σ'.T = T ∧ Done X o a μ σ'.O v := by
 obtain ⟨vs, O1, k1, k2, k3, k4, k5⟩ := hev
 split at k1
 ·rename_i es hes
  split at k1
  ·rename_i hc
   simp only [Bool.and_eq_true, decide_eq_true_eq] at hc
   obtain ⟨hbz, hsz, hlim⟩ := hc
   simp only [Act.run, Option.some.injEq, Prod.mk.injEq] at k1
   obtain ⟨rfl, rfl⟩ := k1
   refine ⟨rfl, ?_⟩
   obtain ⟨zv, hz1, hz2⟩ := zero_run hz μ.w
   obtain ⟨hzr, hzl⟩ := constV_rel (X := X) (μ := ⟨μ.w, μ.φ, O1⟩) hz2
   have hzs : zv.cells.size = sz := by rw [hzr.cells_size hzl, (isBlank_lies hbz).2]
   obtain ⟨q1, q2⟩ := zeros_spell (n := n) hzs
   have hbr : (List.replicate n z).all (isBlank · sz) = true := by
    simp only [List.all_eq_true, List.mem_replicate]
    rintro y ⟨_, rfl⟩; exact hbz
   obtain ⟨c', us', g1, g2, g3, g4, g5, g6⟩ := fillElems_rel (X := X) (μ := ⟨μ.w, μ.φ, O1⟩) (sz := sz) (vs := vs) (qs := (parts.map fun (i, x) => (i, a.eval x)).toList) (by simp [k2]) (fun j p q hj hq => by
    rw [Array.toList_map, List.getElem?_map, Option.map_eq_some_iff] at hq
    obtain ⟨q', hq', rfl⟩ := hq
    exact k5 j p q' hj hq') (VRels.replicate hzr n) q2 (by rw [q1]; simp) hbr hes
   have hlen : es.length = n := by simpa using g6
   have hlen' : us'.length = n := by rw [← g2.length]; exact hlen
   obtain ⟨le2, ho2⟩ := new_obj (X := X) (μ := ⟨μ.w, μ.φ, O1⟩) k4 r sz n true (es := es) (vs := us') (c := c') e hsz (by omega) g5 g2 (by rw [g4, hlen']; exact Nat.le_refl _) (fun i u hu => by
    obtain ⟨m1, m2⟩ := g3 i u hu
    exact ⟨m1, fun j x hx => by simpa using m2 j x hx⟩)
   refine ⟨.slice (some ⟨μ.w.heap.size, 0, none⟩) n n, _, _, .inl ?_, ?_, k3.trans le2, ho2⟩
   ·simp only [execOp, ho]
    refine run_v ?_
    have hd' : X.P.underlying t = some (.slice e) := hd
    have hlim' : ¬ n * sz > 2 ^ 24 := by
     have : (2:Nat) ^ 24 = 16777216 := by decide
     omega
    simp only [Instr.buildSlice, Sem.run_bind, run_underlying hd', Result.andThen_ok, run_sizeT hn]
    rw [if_neg hlim']
    have harr : ∀ zero : Array Value, (n * sz = 0 ∨ zero = zv.cells) → (Array.range (n * sz)).map (fun i => zero[i % zero.size]!) = (Array.range (n * sz)).map (fun i => zv.cells[i % zv.cells.size]!) := by
     rintro zero (h0 | rfl)
     ·have hr0 : Array.range 0 = #[] := rfl
      rw [h0, hr0]; simp
     ·rfl
    by_cases hm0 : n * sz = 0
    ·rw [if_pos hm0]
     simp only [Sem.run_bind, Sem.run_pure, Result.andThen_ok]
     rw [harr #[] (.inl hm0), g1]
     simp only [newRow, Sem.run_bind, run_newObj, Result.andThen_ok, Sem.run_pure]
     rfl
    ·rw [if_neg hm0]
     simp only [Sem.run_bind, hz1, Result.andThen_ok, Sem.run_pure]
     rw [harr zv.cells (.inr rfl), g1]
     simp only [newRow, Sem.run_bind, run_newObj, Result.andThen_ok, Sem.run_pure]
     rfl
   ·simp only [VRel, upd_same]
    exact ⟨_, _, rfl, Nat.le_refl _, Nat.le_refl _, fun _ => ⟨hsz, by simp, by simp⟩⟩
  ·exact absurd k1 run_fail
 ·exact absurd k1 run_fail
theorem op_buildSlice {t e : TypeId} {n sz r : Nat} {parts : Array (Nat × Operand)} {z : V} {as : List (Nat × AOpd)} (hr : Rel X T a μ) (ho : o.op = .buildSlice t n parts) (hd : descT X t = some (.slice e))
  (hn : sizeT X e = some sz) (hz : zeroT X e = some z) (hp : trElems X parts.toList = some as) (hrun : (opAct E (.buildSlice r sz z n as)).run C ⟨T, μ.O⟩ = some (v, σ')) : σ'.T = T ∧ Done X o a μ σ'.O v := by
 simp only [opAct] at hrun
 exact op_buildSlice_core hr ho hd hn hz (evElems_sound hr hp (Le.refl μ) hr.objs hrun)
theorem evElemsK_sound (hr : Rel X T a μ) : ∀ {ps : List (Nat × Operand)} {as : List (Nat × AOpd)} {k : List (Nat × V) → Act} {p : V × St}, trElems X ps = some as →
  (evElemsK as k).run C ⟨T, μ.O⟩ = some p →
  ∃ vs, (k vs).run C ⟨T, μ.O⟩ = some p ∧ vs.length = ps.length ∧
   ∀ (i : Nat) q q', vs[i]? = some q → ps[i]? = some q' → q.1 = q'.1 ∧ VRel X μ q.2 (a.eval q'.2)
 | [], as, k, p, h, hrun => by
  simp [trElems] at h; subst h
  exact ⟨[], hrun, rfl, by simp⟩
 | (i, x) :: ps, as, k, p, h, hrun => by
  simp only [trElems] at h
  split at h
  ·rename_i y as' h1 h2
   injection h with h; subst h
   simp only [evElemsK, run_ev] at hrun
   have hx := trO_rel hr h1 μ.O
   obtain ⟨vs, g1, g2, g5⟩ := evElemsK_sound hr h2 hrun
   refine ⟨(i, _) :: vs, g1, by simp [g2], fun j q q' hq hq' => ?_⟩
   cases j with
   | zero => simp at hq hq'; subst hq; subst hq'; exact ⟨rfl, hx⟩
   | succ j => exact g5 j q q' (by simpa using hq) (by simpa using hq')
  ·simp at h
theorem op_buildSliceK {t e : TypeId} {n sz r : Nat} {parts : Array (Nat × Operand)} {z : V} {as : List (Nat × AOpd)} (hr : Rel X T a μ) (ho : o.op = .buildSlice t n parts) (hd : descT X t = some (.slice e))
  (hn : sizeT X e = some sz) (hz : zeroT X e = some z) (hp : trElems X parts.toList = some as) (hrun : (opAct E (.buildSliceK r sz z n as)).run C ⟨T, μ.O⟩ = some (v, σ')) : σ'.T = T ∧ Done X o a μ σ'.O v := by
 simp only [opAct] at hrun
 obtain ⟨vs, g1, g2, g3⟩ := evElemsK_sound hr hp hrun
 exact op_buildSlice_core hr ho hd hn hz ⟨vs, μ.O, g1, g2, Le.refl μ, hr.objs, g3⟩
theorem op_buildSliceD {t e : TypeId} {n sz r ix : Nat} {parts : Array (Nat × Operand)} {z : V} {as : List (Nat × AOpd)} (hr : Rel X T a μ) (ho : o.op = .buildSlice t n parts) (hd : descT X t = some (.slice e))
  (hn : sizeT X e = some sz) (hz : zeroT X e = some z) (hp : trElems X parts.toList = some as) (hrun : (opAct E (.buildSliceD ix r sz z n as)).run C ⟨T, μ.O⟩ = some (v, σ')) : σ'.T = T ∧ Done X o a μ σ'.O v := by
 have h : (match evalOpd ⟨T, μ.O⟩ (.tmp ix) with | .int _ j => bsAct (r + 16 * j.toNat) sz z n as | _ => .fail).run C ⟨T, μ.O⟩ = some (v, σ') := hrun
 split at h
 ·exact op_buildSlice (E := E) (r := _) hr ho hd hn hz hp h
 ·exact absurd h run_fail
theorem op_assert {x : Operand} {t0 t : TypeId} {ok : Bool} {x' : AOpd} {n : Nat} {z : V} (hr : Rel X T a μ) (ho : o.op = .typeAssert x t0 t ok) (hinj : ∀ t1 t2 k, X.tnum t1 = some k → X.tnum t2 = some k → t1 = t2)
  (hn : X.tnum t = some n) (h1 : trO X x = some x') (hz : zeroT X t = some z) (hd : ∃ d, descT X t = some d ∧ ∀ ms, d ≠ .interface ms)
  (hrun : (opAct E (.assert n ok z x')).run C ⟨T, μ.O⟩ = some (v, σ')) : σ'.T = T ∧ Done X o a μ σ'.O v := by
 simp only [opAct, run_ev] at hrun
 have hx := trO_rel hr h1 μ.O
 obtain ⟨d, hd1, hd2⟩ := hd
 have hd1' : X.P.underlying t = some d := hd1
 obtain ⟨zv, hz1, hz2⟩ := zero_run hz μ.w
 obtain ⟨hzr, _⟩ := constV_rel (X := X) (μ := μ) hz2
 have fin : ∀ val, (Instr.typeAssert (a.eval x) t0 t ok).run X.P μ.w = .ok val μ.w → (execOp a.eval o).run X.P μ.w = .ok (.value val) μ.w := fun val hv => by
  simp only [execOp, ho]
  exact run_v hv
 split at hrun
 ·rename_i e
  rw [e] at hx; simp only [VRel] at hx
  split at hrun
  ·rename_i hok
   obtain ⟨rfl, rfl⟩ := run_done hrun
   refine ⟨rfl, done_pure (val := .tuple #[zv, .bool false]) hr.objs (fin _ ?_) ?_⟩
   ·simp only [Instr.typeAssert, Sem.run_bind, run_underlying hd1', Result.andThen_ok, hx]
    cases d <;> first | exact absurd rfl (hd2 _) | simp [hok, Sem.run_bind, hz1]
   ·simp only [VRel]; exact ⟨_, rfl, by simp [VRels, VRel, hzr]⟩
  ·exact absurd hrun run_fail
 ·rename_i t' u e
  rw [e] at hx; simp only [VRel] at hx
  obtain ⟨t1, y, hy, ht1, hrel⟩ := hx
  split at hrun
  ·rename_i htt
   obtain ⟨rfl, rfl⟩ := run_done hrun
   have hte : t1 = t := hinj t1 t n (by rw [ht1, htt]) hn
   refine ⟨rfl, done_pure (val := if ok then .tuple #[y, .bool true] else y) hr.objs (fin _ ?_) ?_⟩
   ·simp only [Instr.typeAssert, Sem.run_bind, run_underlying hd1', Result.andThen_ok, hy]
    cases d <;> first | exact absurd rfl (hd2 _) | simp [hte]
   ·cases ok
    ·simpa using hrel
    ·simp only [if_true, VRel]; exact ⟨_, rfl, by simp [VRels, VRel, hrel]⟩
  ·rename_i htt
   split at hrun
   ·rename_i hok
    obtain ⟨rfl, rfl⟩ := run_done hrun
    have hte : t1 ≠ t := fun e => htt (by rw [e, hn] at ht1; injection ht1 with ht1; exact ht1.symm)
    refine ⟨rfl, done_pure (val := .tuple #[zv, .bool false]) hr.objs (fin _ ?_) ?_⟩
    ·simp only [Instr.typeAssert, Sem.run_bind, run_underlying hd1', Result.andThen_ok, hy]
     cases d <;> first | exact absurd rfl (hd2 _) | simp [hte, hok, Sem.run_bind, hz1]
    ·simp only [VRel]; exact ⟨_, rfl, by simp [VRels, VRel, hzr]⟩
   ·exact absurd hrun run_fail
 ·exact absurd hrun run_fail
end
end Go.AM
