/-
  Texts of the proof, joined by program: AmTr, AmRel, AmObj, AmOps1, AmEq, AmOps2, AmOps3, AmOps4, AmRow, AmOps5, AmOps6, AmOps7. Own work.
-/
import Derived.Test.YtinmckmdbepjcaaDefs
import Derived.Calls
import Derived.Orders
import Derived.Below
import Derived.Laws.Cells
import Derived.Laws.Rows
import Derived.Laws.Tables
import Derived.Laws.CopyRow
import Derived.ChangeKeysEq
import Derived.Laws.StructEq
import Derived.IntWalk
set_option linter.unusedSimpArgs false
set_option linter.unusedVariables false
namespace Go.AM
structure Hints where
 tQ:List (Option Nat):=[]
 bL:List Nat:=[]
 name:List (Nat×Nat):=[]
 lits:List (Nat×List Nat):=[]
 Tn:List (Nat×Nat×Nat):=[]
 To:List (Nat×Nat×Nat):=[]
 dyn:List (Nat×Nat):=[]
 cR:List Nat:=[]
 deep:List Nat:=[]
 Tp:List Nat:=[]
 tag:Option (Nat×Nat):=none
 keys:List (Nat×List Nat×List Nat):=[]
 n:Nat:=0
structure TrEnv where
 P:Program
 jI:FuncId→Option Nat
 iU:TypeId→Option Nat
variable (X:TrEnv)
def oc:Value→Option V
 | .bool b=>some (.bool b)
 | .int k n=>some (.int k n)
 | .float .f64 b=>some (.float b)
 | .string s=>some (.str s.data.toList)
 | .pointer none=>some .nilp
 | .slice none 0 0=>some .nils
 | .map none=>some (.mlit [])
 | .nilFunc=>some .nilfn
 | .nilIface=>some .nili
 | _=>none
def jJ:List Value→Option (List V)
 | []=>some []
 | v::vs=>match oc v,jJ vs with
   | some c,some cs=>some (c::cs)
   | _,_=>none
def uu:Value→Option V
 | .agg cs=> (jJ cs.toList).map .agg
 | v=>oc v
def info (t:TypeId):Option TypeInfo:=X.P.info? t
def bI (t:TypeId):Option Nat:=(info X t).map (·.size)
def bq (t:TypeId):Option TypeDesc:=X.P.underlying t
def jg (t:TypeId):Option Bool:=(bq X t).map fun| .struct _=>true| .array .. =>true| _=>false
def ez (t:TypeId):Option V:=(info X t).bind fun i=>i.zero.bind uu
def cZ:Operand→Option aT
 | .tmp t=>some (.tmp t)
 | .const v=> (uu v).map .const
 | .func f=> (X.jI f).map fun n=> .const (.fn n [])
 | .global _=>none
def qC:List Operand→Option (List aT)
 | []=>some []
 | o::os=>match cZ X o,qC os with
   | some a,some as=>some (a::as)
   | _,_=>none
def rQ:Option Operand→Option (Option aT)
 | none=>some none
 | some o=> (cZ X o).map some
mutual
def rR:Nat→TypeId→Option (List Nat)
 | 0,_=>none
 | d+1,t=>match bq X t with
   | some .bool=>if bI X t=some 1 then some [0] else none
   | some (.int _)=>if bI X t=some 1 then some [1] else none
   | some .string=>if bI X t=some 1 then some [2] else none
   | some (.struct fs)=>if X.P.stoodInHeld t=false then(match rS d fs.toList 0 with
      | some ks=>if bI X t=some ks.length then some ks else none
      | none=>none) else none
   | _=>none
def rS:Nat→List Field→Nat→Option (List Nat)
 | 0,_,_=>none
 | _+1,[],_=>some []
 | d+1,f::fs,off=>if f.name≠ "_" ∧f.offset=off then match rR d f.type with
    | some ks=>match rS d fs (off+ks.length) with
      | some HR=>some (ks++HR)
      | none=>none
    | none=>none
   else none
end
def jh (place:Nat→Option (Nat×Nat)):List (Nat×Operand)→Option (List (Nat×Nat×aT))
 | []=>some []
 | (i,o)::ps=>match place i,cZ X o,jh place ps with
   | some (off,sz),some a,some as=>some ((off,sz,a)::as)
   | _,_,_=>none
def gG:List (Nat×Operand)→Option (List (Nat×aT))
 | []=>some []
 | (i,o)::ps=>match cZ X o,gG ps with
   | some a,some as=>some ((i,a)::as)
   | _,_=>none
def gH (t:Nat):Nat:=16*(t+1)
def nameOf (h:Hints) (dst:Nat):Nat:=((h.name.find? (·.1==dst)).map (·.2)).getD (gH dst)
def IT (ks:List Nat):aT→aT
 | .const v=> .const (zM ks v)
 | x=>x
def PN (h:Hints) (dst:Nat):Option Nat:=(h.dyn.find? (·.1==dst)).map (·.2)
def pB (h:Hints) (dst:Nat):List Nat:=((h.lits.find? (·.1==dst)).map (·.2)).getD []
def PO (h:Hints) (dst:Nat):Option (Nat×Nat):=(h.Tn.find? (·.1==dst)).map (·.2)
def isNil:Operand→Bool
 | .const (.slice none 0 0)=>true
 | _=>false
def PQ (h:Hints) (dst:Nat) (x:Operand):Option Nat:=match x with
 | .tmp t=> (h.To.find? (fun p=>p.1==dst &&p.2.1==t)).map (·.2.2)
 | _=>none
def uv (h:Hints) (dst:Nat) (x:Operand):Option q9:=
 match isNil x,PO h dst with
 | true,some (r,sz)=>some (.cU r sz)
 | _,_=>match PQ h dst x with
   | some r=> (cZ X x).map fun y=> .nO r y
   | none=> (cZ X x).map fun y=> .move (IT (pB h dst) y)
def oM (bytes:Nat):Nat:=140737488355328 / (bytes+1) - 200
def uw (h:Hints) (dst:Nat) (c:Call):Option q9:=
 match c.callee with
 | .value f=>match cZ X f,qC X c.args.toList with
   | some f,some as=>some (.call (gH dst) (h.bL.contains dst) f as)
   | _,_=>none
 | .invoke .. =>none
 | .builtin b=>match b,c.args.toList,c.argTypes.toList with
   | .len,[x],[t]=>match cZ X x,bq X t with
     | some x,some (.slice _)=>some (.len x)
     | some x,some .string=>some (.tU x)
     | some _,some (.array n _)=>some (.move (.const (.int .i64 n)))
     | _,_=>none
   | .min,xs,_=> (qC X xs).map .min
   | .max,xs,_=> (qC X xs).map .max
   | .append,[s,x],[t,t']=>match cZ X s,cZ X x,bq X t,bq X t' with
     | some s,some x,some (.slice e),some d=>match bI X e,info X e,ez X e,d with
       | some sz,some i,some z,.slice _| some sz,some i,some z,.string=>if aQ z sz then some (if h.cR.contains dst then .lF (nameOf h dst) sz (oM i.bytes) s x else .append (nameOf h dst) sz (oM i.bytes) s x) else none
       | _,_,_,_=>none
     | _,_,_,_=>none
   | .copy,[d,s],[t,_]=>match cZ X d,cZ X s,bq X t with
     | some d,some s,some (.slice e)=> (bI X e).map fun sz=> .copy sz d s
     | _,_,_=>none
   | .clear,[x],[t]=>match cZ X x,bq X t with
     | some x,some (.slice e)=>match bI X e,ez X e with
       | some sz,some z=>some (.clear sz z x)
       | _,_=>none
     | _,_=>none
   | _,_,_=>none
def Fk:BinOp→Bool
 | .eql=>true
 | .neq=>true
 | _=>false
def gI:BinOp→Bool
 | .neq=>true
 | _=>false
def tA:List (Nat×Nat):=(List.range 40).filterMap fun T=>match X.iU T,(X.P.info? T).map (·.comparable),bq X T with
 | some t,some true,some .bool=>some (t,0)
 | some t,some true,some (.int _)=>some (t,1)
 | some t,some true,some .string=>some (t,2)
 | _,_,_=>none
def BV (op:BinOp) (t:TypeId) (x y:aT):Option q9:=
 if Fk op then match bq X t with
  | some .bool=>some (.ME (gI op) x y)
  | some (.int _) | some .string=>some (.bin op x y)
  | some (.interface _)=>some (.Nc (gI op) (tA X) x y)
  | some (.pointer e)=> (match bI X e with
    | some (_+1)=>some (.D7 (gI op) x y)
    | _=>none)
  | some (.struct _)=>if X.P.eqGuardType X.P.depth t=false then(rR X 100 t).map fun ks=> .Gz (gI op) ks x y else none
  | _=>none
 else some (.bin op x y)
def qD (kt:TypeId):Option (Option IntKind):=match bq X kt with
 | some (.int k)=>some (some k)
 | some .string=>some none
 | _=>none
def vy (h:Hints) (dst:Nat):Op→Option q9
 | .move x| .assign x=>if h.deep.contains dst then(cZ X x).map .deep else if h.Tp.contains dst then(cZ X x).map .wX else uv X h dst x
 | .pick c a b=>match cZ X c,cZ X a,cZ X b with
   | some c,some a,some b=>some (.pick c a b)
   | _,_,_=>none
 | .alloc t=>match bI X t,ez X t with
   | some sz,some z=>some (.new (gH dst) sz (.const (zM (pB h dst) z)))
   | _,_=>none
 | .box t x=>match bI X t,cZ X x with
   | some sz,some x=>some (.new (gH dst) sz (IT (pB h dst) x))
   | _,_=>none
 | .build t ps=>match ez X t,bq X t with
   | some (.agg z),some (.struct fs)=>if !fs.toList.all (fun f=> (bI X f.type).isSome) then none else(jh X (fun i=>match fs[i]? with| some f=> (bI X f.type).map fun s=> (f.offset,s) | none=>none) ps.toList).map (.build (w4 (pB h dst) z))
   | some (.agg z),some (.array _ e)=>match bI X e with
     | some s=> (jh X (fun i=>some (i*s,s)) ps.toList).map (.build (w4 (pB h dst) z))
     | none=>none
   | _,_=>none
 | .buildSlice t n ps=>match bq X t with
   | some (.slice e)=>match bI X e,ez X e,gG X ps.toList with
     | some sz,some z,some as=>some (match PN h dst with| some ix=> .fZ ix (16000000+gH dst) sz z n as| none=>if h.cR.contains dst then .ga (gH dst) sz z n as else .buildSlice (gH dst) sz z n as)
     | _,_,_=>none
   | _=>none
 | .load t x=>match jg X t,bI X t,cZ X x with
   | some a,some sz,some x=>some (if (pB h dst).isEmpty then .load a sz x else .oI (pB h dst) a sz x)
   | _,_,_=>none
 | .store t x v=>match jg X t,bI X t,cZ X x,cZ X v with
   | some a,some sz,some x,some v=>some (.store a sz x v)
   | _,_,_,_=>none
 | .nilCheck x=> (cZ X x).map .nilCheck
 | .binOp op t x y _=>match cZ X x,cZ X y with
   | some x,some y=>BV X op t x y
   | _,_=>none
 | .unOp op _ x=> (cZ X x).map (.un op)
 | .convert s d x=>match bq X s,bq X d,cZ X x with
   | some (.int _),some (.int k),some x=>some (.j7 k x)
   | some (.int _),some (.float .f64),some x=>some (.rD x)
   | some (.float .f64),some (.int k),some x=>some (.rE k x)
   | some .string,some .string,some x=>some (.qh x)
   | _,_,_=>none
 | .makeInterface t x=>match X.iU t,cZ X x,bq X t with
   | some _,some _,some (.interface _)=>none
   | some n,some x,some _=>some (.qi n x)
   | _,_,_=>none
 | .typeAssert x _ t ok=>match X.iU t,cZ X x,ez X t,bq X t with
   | some _,some _,some _,some (.interface _)=>none
   | some n,some x,some z,some _=>some (.assert n ok z x)
   | _,_,_,_=>none
 | .makeFunc (.func f) first caps=>if first.isEmpty then match X.jI f,qC X caps.toList with
     | some n,some cs=>some (.lE n cs)
     | _,_=>none
   else none
 | .makeSlice t l c=>match bq X t with
   | some (.slice e)=>match bI X e,info X e,ez X e,cZ X l,cZ X c with
     | some sz,some i,some z,some l,some c=>some (.makeSlice (gH dst) sz i.bytes z l c)
     | _,_,_,_,_=>none
   | _=>none
 | .slice t x lo hi mx=>match bq X t,cZ X x,rQ X lo,rQ X hi,rQ X mx with
   | some (.slice e),some x,some lo,some hi,some mx=> (bI X e).map fun sz=> .slice sz x lo hi mx
   | some .string,some x,some lo,some hi,some none=>some (.jC x lo hi)
   | _,_,_,_,_=>none
 | .fieldAddr s x i=>match bq X s,cZ X x with
   | some (.struct fs),some x=>match fs[i]? with
     | some f=>match bI X f.type with
       | some (_+1)=>some (.fieldAddr f.offset x)
       | _=>none
     | none=>none
   | _,_=>none
 | .field s x i=>match bq X s,cZ X x with
   | some (.struct fs),some x=>match fs[i]? with
     | some f=>match jg X f.type,bI X f.type with
       | some a,some sz=>some (.field a f.offset sz x)
       | _,_=>none
     | none=>none
   | _,_=>none
 | .indexAddr t x i=>match bq X t,cZ X x,cZ X i with
   | some (.slice e),some x,some i=> (bI X e).map fun sz=> .indexAddr sz x i
   | some (.array n e),some x,some i=> (bI X e).map fun sz=> .bE n sz x i
   | _,_,_=>none
 | .index t x i=>match bq X t,cZ X x,cZ X i with
   | some .string,some x,some i=>some (.mQ x i)
   | some (.array n e),some x,some i=>match jg X e,bI X e with
     | some a,some sz=>some (.mR a n sz x i)
     | _,_=>none
   | _,_,_=>none
 | .extract x i=> (cZ X x).map fun x=> .extract x i
 | .makeMap _ none=>some (.mkMap (gH dst))
 | .range t x=>match bq X t,cZ X x with
   | some .string,some x=>some (.qj (gH dst) x)
   | some (.map _ _),some x=>some (.mapIter (gH dst) x)
   | _,_=>none
 | .next x true=> (cZ X x).map .qk
 | .lookup t x i ok=>match bq X t,cZ X x,cZ X i with
   | some (.map kt et),some x,some i=>match qD X kt,ez X et with
     | some q,some z=>some (.iN q ok z x i)
     | _,_=>none
   | _,_,_=>none
 | .mapUpdate t m k v=>match bq X t,cZ X m,cZ X k,cZ X v with
   | some (.map kt _),some m,some k,some v=> (qD X kt).map fun q=> .pk q m k v
   | _,_,_,_=>none
 | .insert t m k v=>match bq X t,cZ X m,cZ X k,cZ X v with
   | some (.map kt _),some m,some k,some v=> (qD X kt).map fun q=> .pk q m k v
   | _,_,_,_=>none
 | .call c=>uw X h dst c
 | _=>none
def na (h:Hints) (ops:Array Oper) (o:Oper):Option bF:=
 let g:Option (Option (Nat×Bool)):=match o.guard with
  | none=>some none
  | some (j,want)=>match (ops[j]?).bind (·.dst) with
    | some d=>some (some (d,want))
    | none=>none
 match g,o.dst.all (· <h.n) with
 | some g,true=>some {dst:=o.dst,op:=(vy X h (o.dst.getD 0) o.op).getD .bad,guard:=g,pre:=(o.after.toList.filter (Region.binds .any)).map (·.on)}
 | _,_=>none
def fL (h:Hints) (ops:Array Oper):List Oper→Option (List bF)
 | []=>some []
 | o::os=>match na X h ops o,fL h ops os with
   | some a,some as=>some (a::as)
   | _,_=>none
def xk (h:Hints) (a:Code):Option (Nat×Nat×Nat×Nat×List Nat×List Nat):=
 match a with
 | .seq (.region ..) (.block id (.loop (.seq (.region _ ops false) (.seq (.cond ..) (.block _ (.seq (.region _ gJ false) _))))))=>match ops[0]?,gJ[0]? with
   | some o,some o5=>match o.op,o.dst,o.guard,o5.op,o5.dst,o5.guard with
     | .next (.tmp it) false,some nx,none,.entry (.tmp Wr),some ne,none=> (match h.keys.find? (·.1==nx) with
       | some k=>if nx<h.n∧ne<h.n∧Wr=it then some (it,nx,ne,id,k.2.1,k.2.2) else none
       | none=>none)
     | _,_,_,_,_,_=>none
   | _,_=>none
 | _=>none
def yL:Code→Bool
 | .seq (.region ..) _=>true
 | _=>false
def yM (h:Hints) (a b:Code) (ta tb:az):az:=
 match xk h a,yL b,ta,tb with
 | some (it,nx,ne,id,kT,kO),true,.seq tR (.block _ (.loop (.seq (.region as) (.seq tc (.block b1 (.seq (.region bs) tz)))))),.seq tS ux=> .seq tR (.seq (.keys it nx ne id kT kO (.seq (.region (as.drop 1)) tc) (.block b1 (.seq (.region (bs.drop 1)) tz)) tS) ux)
 | _,_,_,_=> .seq ta tb
def cX (h:Hints):Code→Option az
 | .skip=>some .skip
 | .region _ ops false=> (fL X h ops ops.toList).map fun l=> .region (l.map fun o=> {o with pre:=[]})
 | .region _ ops true=> (fL X h ops ops.toList).map .drawn
 | .seq a b=>match cX h a,cX h b with
   | some ta,some tb=>some (yM h a b ta tb)
   | _,_=>none
 | .cond c a b=>match cZ X c,cX h a,cX h b with
   | some c,some a,some b=>some (.cond c a b)
   | _,_,_=>none
 | .block id b=> (cX h b).map (.block id)
 | .loop b=> (cX h b).map .loop
 | .exit id=>some (.exit id)
 | .ret=>some .ret
 | .scope b=> (cX h b).map .scope
 | .rangeFunc f ps a b=>match cZ X f,cX h a,cX h b with
   | some f,some a,some b=>if ps.toList.all (fun p=>Nat.blt p h.n)=true then some (.mJ f ps.toList a b) else none
   | _,_,_=>none
 | .label _=>some .skip
 | _=>some .bad
def qE:ResultVar→Option p8
 | .tmp t=>some (.tmp t)
 | .cell a t=>match jg X t,bI X t with
   | some g,some sz=>some (.cell a g sz)
   | _,_=>none
def jq:List ResultVar→Option (List p8)
 | []=>some []
 | r::rs=>match qE X r,jq rs with
   | some a,some as=>some (a::as)
   | _,_=>none
def aU (h:Hints) (f:Func):Option aZ:=
 match f.body with
 | none=>none
 | some b=>match cX X {h with n:=f.ntmps} b,jq X f.results.toList with
   | some c,some rs=>some {nparams:=f.params.size+f.nfree,ntmps:=f.ntmps,tQ:=h.tQ,results:=rs,body:=c,tag:=h.tag}
   | _,_=>none
end Go.AM
namespace Go.AM
open Go Go.RowKit
structure Ctx extends TrEnv where
 IU:Nat→Prop
 tok:Nat×Nat
instance:CoeOut Ctx TrEnv:=⟨Ctx.toTrEnv⟩
structure Row where
 cO:Nat
 base:Nat
 cap:Nat
structure Mu where
 w:World
 φ:Nat→Row
 O:Nat→Obj
def Mu.own (μ:Mu) (b:Nat):Prop:= ∃r,(μ.O r).es.isSome=true∧(μ.O r).fz=false∧(μ.φ r).cap≠0∧(μ.φ r).cO=b
def Own (X:Ctx) (μ:Mu) (b:Nat):Prop:=μ.own b∨X.IU b
def dW (w:World) (b off sz:Nat) (vs:List Value):Prop:=
 ∀i v,vs[i]? =some v→v.cells.size=sz∧ ∀j c,v.cells[j]? =some c→w.cell? ⟨b,off+i*sz+j,none⟩=some c
def uy (ents:Array MapEntry) (clock:Nat):Prop:=(∀e ∈ ents.toList,e.born<clock)∧(ents.toList.map (·.born)).Nodup
section
variable (X:Ctx) (μ:Mu)
mutual
def al:V→Value→Prop
 | .bool b,v=>v= .bool b
 | .int k n,v=>v= .int k n
 | .float b,v=>v= .float .f64 b
 | .str s,v=> ∃bs:ByteArray,v= .string bs∧bs.data.toList=s
 | .agg cs,v=>cs.all V.aN=true∧ ∃vs,v= .agg vs∧ak cs vs.toList
 | .tuple cs,v=> ∃vs,v= .tuple vs∧ak cs vs.toList
 | .nilp,v=>v= .pointer none
 | .nilfn,v=>v= .nilFunc
 | .nili,v=>v= .nilIface
 | .fn f caps,v=> ∃F cv,v= .func (.func F) #[] cv∧X.jI F=some f∧ak caps cv.toList
 | .iface t x,v=> ∃T y,v= .iface T y∧X.iU T=some t∧al x y
 | .nils,v=> ∃a,v= .slice a 0 0
 | .lit sz xs,v=>V.aq xs=true∧xs.all V.dh=true∧ ∃a cap vs,v= .slice a xs.length cap∧xs.length≤cap∧ak xs vs∧
    (xs=[]∨ ∃b o,a=some ⟨b,o,none⟩∧ ¬Own X μ b∧b<μ.w.heap.size∧dW μ.w b o sz vs)
 | .own ..,_=>False
 | .sl r g off len,v=> ∃a cap,v= .slice a len cap∧len≤cap∧g≤(μ.O r).gen∧
    ((μ.O r).gen=g→0 < (μ.O r).sz∧cap+off=(μ.φ r).cap∧(cap=0∨a=some ⟨(μ.φ r).cO,(μ.φ r).base+off*(μ.O r).sz,none⟩))
 | .ptr r g idx off,v=> ∃a,v= .pointer (some a)∧g≤(μ.O r).gen∧
    ((μ.O r).gen=g→0 < (μ.O r).sz∧a=⟨(μ.φ r).cO,(μ.φ r).base+idx*(μ.O r).sz+off,none⟩)
 | .eptr e off,v=>V.aE e=true∧V.dh e=true∧ ∃b o sz x,v= .pointer (some ⟨b,o+off,none⟩)∧ ¬Own X μ b∧b<μ.w.heap.size∧al e x∧dW μ.w b o sz [x]
 | .mp r g,v=> ∃a,v= .map (some a)∧g≤(μ.O r).gen∧((μ.O r).gen=g→(μ.O r).sz=0∧a=(μ.φ r).cO)
 | .mlit es,v=>V.aq es=true∧(es=[]∧v= .map none∨ ∃a ents clock,v= .map (some a)∧ ¬Own X μ a∧a<μ.w.heap.size∧(μ.w.heap[a]? =some (.map ents clock)∧uy ents clock)∧
    ak es (ents.toList.map fun e=> .tuple #[e.key,e.val]))
 | .it r g,v=> ∃a,v= .pointer (some ⟨a,0,none⟩)∧g≤(μ.O r).gen∧((μ.O r).gen=g→(μ.O r).sz=0∧a=(μ.φ r).cO)
 | .litk sz xs,v=>V.aq xs=true∧xs.all V.dh=true∧ ∃a cap vs,v= .slice a xs.length cap∧xs.length≤cap∧ak xs vs∧
    (xs=[]∨a=some ⟨X.tok.1,X.tok.2,none⟩∧ ¬Own X μ X.tok.1∧X.tok.1 <μ.w.heap.size∧dW μ.w X.tok.1 X.tok.2 sz vs)
 | .epk i sz e off,v=>V.aE e=true∧V.dh e=true∧ ∃x,v= .pointer (some ⟨X.tok.1,X.tok.2+i*sz+off,none⟩)∧ ¬Own X μ X.tok.1∧X.tok.1 <μ.w.heap.size∧al e x∧dW μ.w X.tok.1 (X.tok.2+i*sz) sz [x]
 | .msl ..,_=>False
 | .mptr ..,_=>False
 | .any,_=>True
def ak:List V→List Value→Prop
 | [],[]=>True
 | x::xs,v::vs=>al x v∧ak xs vs
 | _,_=>False
end
end
theorem ak.length {X:Ctx} {μ:Mu}: ∀ {xs:List V} {vs:List Value},ak X μ xs vs→xs.length=vs.length
 | [],[],_=>rfl
 | [],_::_,h=>by simp[ak] at h
 | _::_,[],h=>by simp[ak] at h
 | _::_,_::_,h=>by simp only[ak] at h;simp[ak.length h.2]
theorem ak.get {X:Ctx} {μ:Mu}: ∀ {xs:List V} {vs:List Value},ak X μ xs vs→ ∀ {i:Nat} {x:V},xs[i]? =some x→ ∃v,vs[i]? =some v∧al X μ x v
 | [],_,_,i,x,hx=>by simp at hx
 | _::_,[],h,_,_,_=>by simp[ak] at h
 | y::ys,v::vs,h,i,x,hx=>by
   simp only[ak] at h
   cases i with
   | zero=>simp at hx;subst hx;exact⟨v,by simp,h.1⟩
   | succ i=>simp at hx;simpa using ak.get h.2 hx
theorem ak.uz {X:Ctx} {μ:Mu}: ∀ {xs:List V} {vs:List Value},xs.length=vs.length→(∀ (i:Nat) (x:V) (v:Value),xs[i]? =some x→vs[i]? =some v→al X μ x v)→ak X μ xs vs
 | [],[],_,_=>by simp[ak]
 | [],_::_,h,_=>by simp at h
 | _::_,[],h,_=>by simp at h
 | x::xs,v::vs,h,hg=>by
   simp only[ak]
   exact⟨hg 0 x v (by simp) (by simp),ak.uz (by simpa using h) fun i y u hy hu=>hg (i+1) y u (by simpa using hy) (by simpa using hu)⟩
theorem ak.append {X:Ctx} {μ:Mu}: ∀ {xs ys:List V} {vs us:List Value},ak X μ xs vs→ak X μ ys us→ak X μ (xs++ys) (vs++us)
 | [],_,[],_,_,h=>by simpa using h
 | [],_,_::_,_,h,_=>by simp[ak] at h
 | _::_,_,[],_,h,_=>by simp[ak] at h
 | x::xs,ys,v::vs,us,h,h'=>by
   simp only[ak] at h
   simp only[List.cons_append,ak]
   exact⟨h.1,ak.append h.2 h'⟩
theorem ak.take {X:Ctx} {μ:Mu}: ∀ {xs:List V} {vs:List Value} (n:Nat),ak X μ xs vs→ak X μ (xs.take n) (vs.take n)
 | _,_,0,_=>by simp[ak]
 | [],[],n+1,_=>by simp[ak]
 | [],_::_,n+1,h=>by simp[ak] at h
 | _::_,[],n+1,h=>by simp[ak] at h
 | x::xs,v::vs,n+1,h=>by
   simp only[ak] at h
   simp only[List.take_succ_cons,ak]
   exact⟨h.1,ak.take n h.2⟩
theorem ak.drop {X:Ctx} {μ:Mu}: ∀ {xs:List V} {vs:List Value} (n:Nat),ak X μ xs vs→ak X μ (xs.drop n) (vs.drop n)
 | _,_,0,h=>by simpa using h
 | [],[],n+1,_=>by simp[ak]
 | [],_::_,n+1,h=>by simp[ak] at h
 | _::_,[],n+1,h=>by simp[ak] at h
 | x::xs,v::vs,n+1,h=>by
   simp only[ak] at h
   simpa using ak.drop n h.2
theorem ak.set {X:Ctx} {μ:Mu} {xs:List V} {vs:List Value} (h:ak X μ xs vs) (i:Nat) {x:V} {v:Value} (hx:al X μ x v):ak X μ (xs.set i x) (vs.set i v):=by
 refine ak.uz (by simpa using h.length) fun j y u hy hu=> ?_
 rw[List.getElem?_set] at hy hu
 split at hy
 · rename_i e
   subst e
   by_cases hl:i<xs.length
   · have xd:i<vs.length:=by rw[←h.length];exact hl
     simp[hl] at hy;simp[xd] at hu
     subst hy hu;exact hx
   · simp[hl] at hy
 · rename_i e
   simp[e] at hu
   obtain⟨u',AL,hr⟩:=h.get hy
   rw[hu] at AL;injection AL with AL;subst AL;exact hr
structure Le (μ μ':Mu):Prop where
 size:μ.w.heap.size≤μ'.w.heap.size
 cR: ∀b,b<μ.w.heap.size→ ¬μ.own b→μ'.w.heap[b]? =μ.w.heap[b]? ∧ ¬μ'.own b
 gen: ∀r,(μ.O r).gen≤(μ'.O r).gen
 row: ∀r,(μ'.O r).gen=(μ.O r).gen→μ'.φ r=μ.φ r∧(μ'.O r).sz=(μ.O r).sz
 os:μ'.w.os=μ.w.os
 output:μ'.w.output=μ.w.output
 tape:μ'.w.tape=μ.w.tape
 frozen: ∀a:Addr,a.block<μ.w.heap.size→μ'.w.frozen? a=μ.w.frozen? a
theorem Le.refl (μ:Mu):Le μ μ:=
 ⟨Nat.le_refl _,fun _ _ h=> ⟨rfl,h⟩,fun _=>Nat.le_refl _,fun _ _=> ⟨rfl,rfl⟩,rfl,rfl,rfl,fun _ _=>rfl⟩
theorem Le.trans {a b c:Mu} (h:Le a b) (k:Le b c):Le a c where
 size:=Nat.le_trans h.size k.size
 cR:=fun i hi ho=>by
  obtain⟨h1,h2⟩:=h.cR i hi ho
  obtain⟨k1,k2⟩:=k.cR i (Nat.lt_of_lt_of_le hi h.size) h2
  exact⟨k1.trans h1,k2⟩
 gen:=fun r=>Nat.le_trans (h.gen r) (k.gen r)
 row:=fun r e=>by
  have h1:=h.gen r
  have k1:=k.gen r
  obtain⟨a1,a2⟩:=h.row r (by omega)
  obtain⟨b1,b2⟩:=k.row r (by omega)
  exact⟨b1.trans a1,b2.trans a2⟩
 os:=k.os.trans h.os
 output:=k.output.trans h.output
 tape:=k.tape.trans h.tape
 frozen:=fun x hx=> (k.frozen x (Nat.lt_of_lt_of_le hx h.size)).trans (h.frozen x hx)
theorem dW.cR {w w':World} {b off sz:Nat} {vs:List Value} (h:dW w b off sz vs) (e:w'.heap[b]? =w.heap[b]?):dW w' b off sz vs:=by
 intro i v hv
 obtain⟨h1,h2⟩:=h i v hv
 refine⟨h1,fun j c hc=> ?_⟩
 rw[←h2 j c hc]
 simp[World.cell?,e]
mutual
theorem al.mono {X:Ctx} {μ μ':Mu} (le:Le μ μ'): ∀ {x:V} {v:Value},al X μ x v→al X μ' x v
 | .bool _,_,h| .int ..,_,h| .float _,_,h| .str _,_,h| .nilp,_,h| .nilfn,_,h| .nili,_,h| .nils,_,h=>by simpa [al] using h
 | .any,_,_=>by simp[al]
 | .own ..,_,h| .msl ..,_,h| .mptr ..,_,h=>by simp[al] at h
 | .agg cs,_,h=>by
   simp only[al] at h ⊢
   obtain⟨h1,vs,rfl,h2⟩:=h
   exact⟨h1,vs,rfl,ak.mono le h2⟩
 | .tuple cs,_,h=>by
   simp only[al] at h ⊢
   obtain⟨vs,rfl,h2⟩:=h
   exact⟨vs,rfl,ak.mono le h2⟩
 | .fn f cs,_,h=>by
   simp only[al] at h ⊢
   obtain⟨F,cv,rfl,h1,h2⟩:=h
   exact⟨F,cv,rfl,h1,ak.mono le h2⟩
 | .iface t x,_,h=>by
   simp only[al] at h ⊢
   obtain⟨T,y,rfl,h1,h2⟩:=h
   exact⟨T,y,rfl,h1,al.mono le h2⟩
 | .lit sz xs,_,h=>by
   simp only[al] at h ⊢
   obtain⟨h0,jZ,a,cap,vs,rfl,h1,h2,h3⟩:=h
   refine⟨h0,jZ,a,cap,vs,rfl,h1,ak.mono le h2,h3.imp id ?_⟩
   rintro⟨b,o,rfl,hb,hs,hr⟩
   obtain⟨k1,k2⟩:=le.cR b hs (fun h=>hb (.inl h))
   exact⟨b,o,rfl,(fun h=>h.elim k2 fun h=>hb (.inr h)),Nat.lt_of_lt_of_le hs le.size,hr.cR k1⟩
 | .sl r g off len,_,h=>by
   simp only[al] at h ⊢
   obtain⟨a,cap,rfl,h1,h2,h3⟩:=h
   have hg:=le.gen r
   refine⟨a,cap,rfl,h1,by omega,fun e=> ?_⟩
   obtain⟨e1,e2⟩:=le.row r (by omega)
   rw[e1,e2];exact h3 (by omega)
 | .ptr r g idx off,_,h=>by
   simp only[al] at h ⊢
   obtain⟨a,rfl,h2,h3⟩:=h
   have hg:=le.gen r
   refine⟨a,rfl,by omega,fun e=> ?_⟩
   obtain⟨e1,e2⟩:=le.row r (by omega)
   rw[e1,e2];exact h3 (by omega)
 | .eptr e off,_,h=>by
   simp only[al] at h ⊢
   obtain⟨h0,jZ,b,o,sz,x,rfl,hb,hs,h1,hr⟩:=h
   obtain⟨k1,k2⟩:=le.cR b hs (fun h=>hb (.inl h))
   exact⟨h0,jZ,b,o,sz,x,rfl,(fun h=>h.elim k2 fun h=>hb (.inr h)),Nat.lt_of_lt_of_le hs le.size,al.mono le h1,hr.cR k1⟩
 | .litk sz xs,_,h=>by
   simp only[al] at h ⊢
   obtain⟨h0,jZ,a,cap,vs,rfl,h1,h2,h3⟩:=h
   refine⟨h0,jZ,a,cap,vs,rfl,h1,ak.mono le h2,h3.imp id ?_⟩
   rintro⟨rfl,hb,hs,hr⟩
   obtain⟨k1,k2⟩:=le.cR _ hs (fun h=>hb (.inl h))
   exact⟨rfl,(fun h=>h.elim k2 fun h=>hb (.inr h)),Nat.lt_of_lt_of_le hs le.size,hr.cR k1⟩
 | .epk i sz e off,_,h=>by
   simp only[al] at h ⊢
   obtain⟨h0,jZ,x,rfl,hb,hs,h1,hr⟩:=h
   obtain⟨k1,k2⟩:=le.cR _ hs (fun h=>hb (.inl h))
   exact⟨h0,jZ,x,rfl,(fun h=>h.elim k2 fun h=>hb (.inr h)),Nat.lt_of_lt_of_le hs le.size,al.mono le h1,hr.cR k1⟩
 | .mp r g,_,h=>by
   simp only[al] at h ⊢
   obtain⟨a,rfl,h2,h3⟩:=h
   have hg:=le.gen r
   refine⟨a,rfl,by omega,fun e=> ?_⟩
   obtain⟨e1,e2⟩:=le.row r (by omega)
   rw[e1,e2];exact h3 (by omega)
 | .it r g,_,h=>by
   simp only[al] at h ⊢
   obtain⟨a,rfl,h2,h3⟩:=h
   have hg:=le.gen r
   refine⟨a,rfl,by omega,fun e=> ?_⟩
   obtain⟨e1,e2⟩:=le.row r (by omega)
   rw[e1,e2];exact h3 (by omega)
 | .mlit es,_,h=>by
   simp only[al] at h ⊢
   obtain⟨h0,h⟩:=h
   refine⟨h0,h.imp id ?_⟩
   rintro⟨a,ents,clock,rfl,hb,hs,h1,h2⟩
   obtain⟨k1,k2⟩:=le.cR a hs (fun h=>hb (.inl h))
   exact⟨a,ents,clock,rfl,(fun h=>h.elim k2 fun h=>hb (.inr h)),Nat.lt_of_lt_of_le hs le.size,by rw[k1];exact h1,ak.mono le h2⟩
theorem ak.mono {X:Ctx} {μ μ':Mu} (le:Le μ μ'): ∀ {xs:List V} {vs:List Value},ak X μ xs vs→ak X μ' xs vs
 | [],[],_=>by simp[ak]
 | [],_::_,h=>by simp[ak] at h
 | _::_,[],h=>by simp[ak] at h
 | x::xs,v::vs,h=>by
   simp only[ak] at h ⊢
   exact⟨al.mono le h.1,ak.mono le h.2⟩
end
def ki (X:Ctx) (μ:Mu) (r:Nat) (es:List V):Prop:=0 < (μ.O r).sz∧es.length≤(μ.φ r).cap∧es.all (aQ · (μ.O r).sz)=true∧
 ((μ.φ r).cap=0∨ ∃c T vs,μ.w.heap[(μ.φ r).cO]? =some (.cells c T (0,0))∧(μ.φ r).base+(μ.φ r).cap*(μ.O r).sz≤c.size∧ak X μ es vs∧
   dW μ.w (μ.φ r).cO (μ.φ r).base (μ.O r).sz vs)
def lN (X:Ctx) (μ:Mu) (ob:Go.Obj) (es:List V):Prop:=
 (∃ents clock,ob= .map ents clock∧ak X μ es (ents.toList.map fun e=> .tuple #[e.key,e.val])∧uy ents clock)∨(∃ (s:ByteArray) (pos:Nat),ob= .stringIter s pos∧es=[.str s.data.toList,.int .i64 (pos:Int)])∨
 ∃mo since mC,ob= .mapIter mo since #[] since∧es=[.mlit mC]∧(mo=none∧mC=[]∨ ∃m ents,mo=some m∧ ¬Own X μ m∧m<μ.w.heap.size∧μ.w.heap[m]? =some (.map ents since)∧uy ents since∧ak X μ mC (ents.toList.map fun e=> .tuple #[e.key,e.val]))
theorem lN.mono {X:Ctx} {μ μ':Mu} (le:Le μ μ') {ob:Go.Obj} {es:List V} (h:lN X μ ob es):lN X μ' ob es:=by
 rcases h with⟨ents,clock,h1,h2,h3⟩ | h| ⟨mo,since,mC,h1,h2,h3⟩
 · exact .inl ⟨ents,clock,h1,ak.mono le h2,h3⟩
 · exact .inr (.inl h)
 · refine .inr (.inr ⟨mo,since,mC,h1,h2,h3.imp id ?_⟩)
   rintro⟨m,ents,k1,k2,k3,k4,k5,k6⟩
   obtain⟨l1,l2⟩:=le.cR m k3 (fun h=>k2 (.inl h))
   exact⟨m,ents,k1,(fun h=>h.elim l2 fun h=>k2 (.inr h)),Nat.lt_of_lt_of_le k3 le.size,by rw[l1];exact k4,k5,ak.mono le k6⟩
theorem lN.live {X:Ctx} {μ:Mu} {ob:Go.Obj} {es:List V} (h:lN X μ ob es) (a:Addr) (w:World) (hw:w.heap[a.block]? =some ob):w.frozen? a=false:=by
 rcases h with⟨_,_,rfl,_⟩ | ⟨_,_,rfl,_⟩ | ⟨_,_,_,rfl,_⟩ <;>simp only[World.frozen?,hw]
def qF (X:Ctx) (μ:Mu) (r:Nat) (es:List V):Prop:=(μ.O r).sz=0∧(μ.φ r).cap≠0∧
 ∃ob,μ.w.heap[(μ.φ r).cO]? =some ob∧lN X μ ob es
def fE (X:Ctx) (μ:Mu) (r:Nat):Prop:= ∀es,(μ.O r).es=some es→ki X μ r es∨qF X μ r es
def U4 (μ:Mu):Prop:= ∀r r',r≠r'→(μ.O r).es.isSome=true→(μ.O r').es.isSome=true→(μ.φ r).cap≠0→(μ.φ r').cap≠0→(μ.φ r).cO≠(μ.φ r').cO
structure br (X:Ctx) (μ:Mu):Prop where
 ok: ∀r,fE X μ r
 inj:U4 μ
 sx: ∀r,(μ.O r).es.isSome=true→(μ.φ r).cap≠0→ ¬X.IU (μ.φ r).cO
 blt: ∀b,X.IU b→b<μ.w.heap.size
theorem br.row {X:Ctx} {μ:Mu} (ho:br X μ) (r:Nat) (es:List V) (bQ: (μ.O r).es=some es) (h0:0 < (μ.O r).sz):ki X μ r es:=by
 rcases ho.ok r es bQ with h| ⟨h,_⟩
 · exact h
 · omega
theorem br.map {X:Ctx} {μ:Mu} (ho:br X μ) (r:Nat) (es:List V) (bQ: (μ.O r).es=some es) (h0: (μ.O r).sz=0):qF X μ r es:=by
 rcases ho.ok r es bQ with⟨h,_⟩ | h
 · omega
 · exact h
theorem br.ents {X:Ctx} {μ:Mu} (ho:br X μ) (r:Nat) (es:List V) (bQ: (μ.O r).es=some es) (h0: (μ.O r).sz=0): ((μ.φ r).cap≠0∧ ∃ents clock,μ.w.heap[(μ.φ r).cO]? =some (.map ents clock)∧ak X μ es (ents.toList.map fun e=> .tuple #[e.key,e.val])∧uy ents clock)∨
  ((μ.φ r).cap≠0∧ ∃ (s:ByteArray) (pos:Nat),μ.w.heap[(μ.φ r).cO]? =some (.stringIter s pos)∧es=[.str s.data.toList,.int .i64 (pos:Int)])∨ ∃mC,es=[.mlit mC]:=by
 obtain⟨_,h2,ob,h3,h4⟩:=ho.map r es bQ h0
 rcases h4 with⟨ents,clock,rfl,h⟩ | ⟨s,pos,rfl,h⟩ | ⟨_,_,mC,_,h,_⟩
 · exact .inl ⟨h2,ents,clock,h3,h⟩
 · exact .inr (.inl ⟨h2,s,pos,h3,h⟩)
 · exact .inr (.inr ⟨mC,h⟩)
theorem fE.cO {X:Ctx} {μ:Mu} {r:Nat} {es:List V} (h:ki X μ r es∨qF X μ r es) (hc: (μ.φ r).cap≠0): (μ.φ r).cO<μ.w.heap.size:=by
 rcases h with⟨_,_,_,h⟩ | ⟨_,_,ob,h,_⟩
 · rcases h with h| ⟨_,_,_,h,_⟩
   · exact absurd h hc
   · exact(Array.getElem?_eq_some_iff.1 h).1
 · exact(Array.getElem?_eq_some_iff.1 h).1
theorem fE.cR {X:Ctx} {μ μ':Mu} {r r':Nat} {es:List V} (le:Le μ μ') (h:ki X μ r es∨qF X μ r es) (cP: (μ'.O r').sz=(μ.O r).sz) (hφ:μ'.φ r'=μ.φ r)
   (hb: (μ.φ r).cap≠0→μ'.w.heap[(μ.φ r).cO]? =μ.w.heap[(μ.φ r).cO]?):ki X μ' r' es∨qF X μ' r' es:=by
 rcases h with⟨h1,h2,h3,h4⟩ | ⟨h1,h2,ob,h3,h4⟩
 · left
   unfold ki
   rw[cP,hφ]
   by_cases hc: (μ.φ r).cap=0
   · exact⟨h1,h2,h3,.inl hc⟩
   · rcases h4 with h4| ⟨c,T,vs,k1,k2,k3,k4⟩
     · exact absurd h4 hc
     · exact⟨h1,h2,h3,.inr ⟨c,T,vs,by rw[hb hc];exact k1,k2,ak.mono le k3,k4.cR (hb hc)⟩⟩
 · right
   unfold qF
   rw[cP,hφ]
   exact⟨h1,h2,ob,by rw[hb h2];exact h3,h4.mono le⟩
structure AN (w0:World) (HS:Nat→Prop) (μ:Mu):Prop where
 size:w0.heap.size≤μ.w.heap.size
 cR: ∀b,b<w0.heap.size→ ¬HS b→μ.w.heap[b]? =w0.heap[b]? ∧ ¬μ.own b
 os:μ.w.os=w0.os
 output:μ.w.output=w0.output
 tape:μ.w.tape=w0.tape
 frozen: ∀a:Addr,a.block<w0.heap.size→μ.w.frozen? a=w0.frozen? a
theorem AN.step {w0:World} {HS:Nat→Prop} {μ μ':Mu} (h:AN w0 HS μ) (k:Le μ μ'):AN w0 HS μ' where
 size:=Nat.le_trans h.size k.size
 cR:=fun i hi ho=>by
  obtain⟨h1,h2⟩:=h.cR i hi ho
  obtain⟨k1,k2⟩:=k.cR i (Nat.lt_of_lt_of_le hi h.size) h2
  exact⟨k1.trans h1,k2⟩
 os:=k.os.trans h.os
 output:=k.output.trans h.output
 tape:=k.tape.trans h.tape
 frozen:=fun x hx=> (k.frozen x (Nat.lt_of_lt_of_le hx h.size)).trans (h.frozen x hx)
theorem al.lO {X:Ctx} {μ:Mu} {x:V} {v:Value} (h:al X μ x v) (hc:x.aN=true):v.oneCell'=true∧v.cells= #[v]:=by
 cases x<;>simp[V.aN] at hc<;>simp only[al] at h
 case bool=>subst h;exact⟨rfl,rfl⟩
 case int=>subst h;exact⟨rfl,rfl⟩
 case float=>subst h;exact⟨rfl,rfl⟩
 case str=>obtain⟨_,rfl,_⟩:=h;exact⟨rfl,rfl⟩
 case nilp=>subst h;exact⟨rfl,rfl⟩
 case nilfn=>subst h;exact⟨rfl,rfl⟩
 case nili=>subst h;exact⟨rfl,rfl⟩
 case fn=>obtain⟨_,_,rfl,_⟩:=h;exact⟨rfl,rfl⟩
 case iface=>obtain⟨_,_,rfl,_⟩:=h;exact⟨rfl,rfl⟩
 case nils=>obtain⟨_,rfl⟩:=h;exact⟨rfl,rfl⟩
 case lit=>obtain⟨_,_,_,_,_,rfl,_⟩:=h;exact⟨rfl,rfl⟩
 case sl=>obtain⟨_,_,rfl,_⟩:=h;exact⟨rfl,rfl⟩
 case ptr=>obtain⟨_,rfl,_⟩:=h;exact⟨rfl,rfl⟩
 case eptr=>obtain⟨_,_,_,_,_,_,rfl,_⟩:=h;exact⟨rfl,rfl⟩
 case litk=>obtain⟨_,_,_,_,_,rfl,_⟩:=h;exact⟨rfl,rfl⟩
 case epk=>obtain⟨_,_,_,rfl,_⟩:=h;exact⟨rfl,rfl⟩
 case mp=>obtain⟨_,rfl,_⟩:=h;exact⟨rfl,rfl⟩
 case it=>obtain⟨_,rfl,_⟩:=h;exact⟨rfl,rfl⟩
 case mlit=>obtain⟨_,⟨_,rfl⟩ | ⟨_,_,_,rfl,_⟩⟩:=h<;>exact⟨rfl,rfl⟩
theorem V.fM {x:V} (h:x.aN=true):x.cells=[x]:=by
 cases x<;>simp_all[V.aN,V.cells]
theorem al.cells {X:Ctx} {μ:Mu} {x:V} {v:Value} (h:al X μ x v) (hl:x.dh=true):ak X μ x.cells v.cells.toList:=by
 simp only[V.dh,Bool.or_eq_true] at hl
 rcases hl with hl| hl
 · cases x<;>simp[V.isAgg] at hl
   simp only[al] at h
   obtain⟨_,vs,rfl,h2⟩:=h
   exact h2
 · rw[(h.lO hl).2,V.fM hl]
   simp[ak,h]
theorem al.eb {X:Ctx} {μ:Mu} {x:V} {v:Value} (h:al X μ x v) (hl:x.dh=true):v.cells.size=x.cells.length:=by
 have:=(h.cells hl).length
 simpa using this.symm
theorem al.ji {X:Ctx} {μ:Mu} {x:V} {v:Value} (h:al X μ x v) (hl:x.dh=true):x.cells.all V.aN=true:=by
 simp only[V.dh,Bool.or_eq_true] at hl
 rcases hl with hl| hl
 · cases x<;>simp[V.isAgg] at hl
   simp only[al] at h
   exact h.1
 · rw[V.fM hl];simp[hl]
end Go.AM
namespace Go.AM
open Go Go.RowKit
theorem aD {α:Type} (f:Nat→α) (t:Nat) (v:α):dm f t v t=v:=by simp[dm]
theorem aY {α:Type} (f:Nat→α) {t n:Nat} (v:α) (h:n≠t):dm f t v n=f n:=by simp[dm,h]
theorem dW.yN {w:World} {b off sz:Nat} {vs:List Value} {c:Array Value} {T:TypeId} {fr:Nat×Nat} (hb:w.heap[b]? =some (.cells c T fr))
  (h: ∀i v,vs[i]? =some v→v.cells.size=sz∧ ∀j x,v.cells[j]? =some x→c[off+i*sz+j]? =some x):dW w b off sz vs:=by
 intro i v hv
 obtain⟨h1,h2⟩:=h i v hv
 refine⟨h1,fun j x hx=> ?_⟩
 simp[World.cell?,hb,h2 j x hx]
theorem dW.Fl {w:World} {b off sz:Nat} {vs:List Value} {c:Array Value} {T:TypeId} {fr:Nat×Nat} (hb:w.heap[b]? =some (.cells c T fr))
  (h:dW w b off sz vs): ∀i v,vs[i]? =some v→v.cells.size=sz∧ ∀j x,v.cells[j]? =some x→c[off+i*sz+j]? =some x:=by
 intro i v hv
 obtain⟨h1,h2⟩:=h i v hv
 refine⟨h1,fun j x hx=> ?_⟩
 have:=h2 j x hx
 simpa [World.cell?,hb] using this
theorem yO {μ:Mu} {r:Nat} {o:Obj} {w':World} (h:o.es.isSome=true→o.fz=false→(μ.O r).es.isSome=true∧(μ.O r).fz=false) {b:Nat}
   (hb: (⟨w',μ.φ,dm μ.O r o⟩:Mu).own b):μ.own b:=by
 obtain⟨r',h1,h2,h3,h4⟩:=hb
 by_cases e:r'=r
 · subst e
   simp only[aD] at h1 h2
   obtain⟨k1,k2⟩:=h h1 h2
   exact⟨r',k1,k2,h3,h4⟩
 · simp only[aY _ _ e] at h1 h2
   exact⟨r',h1,h2,h3,h4⟩
theorem br.uA {X:Ctx} {μ μ':Mu} (ho:br X μ) (le:Le μ μ') (hO:μ'.O=μ.O) (hφ:μ'.φ=μ.φ)
  (hb: ∀b,b<μ.w.heap.size→μ'.w.heap[b]? =μ.w.heap[b]?):br X μ' where
 ok:=fun r es bQ=>by
  rw[hO] at bQ
  exact fE.cR le (ho.ok r es bQ) (by rw[hO]) (by rw[hφ]) fun hc=>hb _ (fE.cO (ho.ok r es bQ) hc)
 inj:=by unfold U4;rw[hO,hφ];exact ho.inj
 sx:=by rw[hO,hφ];exact ho.sx
 blt:=fun b hb=>Nat.lt_of_lt_of_le (ho.blt b hb) le.size
theorem Le.drew {X:Ctx} {μ:Mu} (ho:br X μ):Le μ ⟨μ.w.drew,μ.φ,μ.O⟩∧br X ⟨μ.w.drew,μ.φ,μ.O⟩:=by
 have le:Le μ ⟨μ.w.drew,μ.φ,μ.O⟩:=
  ⟨Nat.le_refl _,fun _ _ h=> ⟨rfl,h⟩,fun _=>Nat.le_refl _,fun _ _=> ⟨rfl,rfl⟩,rfl,rfl,rfl,fun _ _=>rfl⟩
 exact⟨le,ho.uA le rfl rfl fun _ _=>rfl⟩
theorem xl {X:Ctx} {μ:Mu} (ho:br X μ) (r sz cap:Nat) (arr:Bool) {es:List V} {vs:List Value} {c:Array Value} (T:TypeId) (cP:0 <sz)
   (ed:es.length≤cap) (lP:es.all (aQ · sz)=true) (bV:ak X μ es vs) (hc:cap*sz≤c.size)
   (dL: ∀i v,vs[i]? =some v→v.cells.size=sz∧ ∀j x,v.cells[j]? =some x→c[i*sz+j]? =some x):
   let μ':Mu:=⟨μ.w.alloc (.cells c T (0,0)),dm μ.φ r ⟨μ.w.heap.size,0,cap⟩,dm μ.O r {gen:=(μ.O r).gen+1,sz:=sz,arr:=arr,fz:=false,es:=some es}⟩
   Le μ μ'∧br X μ':=by
 intro μ'
 have iI: ∀b,b<μ.w.heap.size→μ'.w.heap[b]? =μ.w.heap[b]? :=fun b hb=>heap_alloc_old _ _ _ hb
 have qG:μ'.w.heap.size=μ.w.heap.size+1:=Array.size_push _
 have pC:μ'.w.heap[μ.w.heap.size]? =some (.cells c T (0,0)):=heap_alloc_new _ _
 have le:Le μ μ':=by
   refine⟨by omega,fun b hb kf=> ⟨iI b hb,?_⟩,fun r'=> ?_,fun r' e=> ?_,rfl,rfl,rfl,fun a ha=> ?_⟩
   · rintro⟨r',h1,h2,h3,h4⟩
     by_cases e:r'=r
     · subst e
       simp only[μ',aD] at h4
       omega
     · simp only[μ',aY _ _ e] at h1 h2 h3 h4
       exact kf ⟨r',h1,h2,h3,h4⟩
   · by_cases e:r'=r
     · subst e;simp[μ',aD]
     · simp[μ',aY _ _ e]
   · by_cases e':r'=r
     · subst e';simp[μ',aD] at e
     · simp[μ',aY _ _ e']
   · simp only[World.frozen?,iI a.block ha]
 refine⟨le,fun r' es' fF=> ?_,fun r1 r2 cT h1 h2 h3 h4=> ?_,fun r' h1 h2 hb=> ?_,fun b hb=>Nat.lt_of_lt_of_le (ho.blt b hb) le.size⟩
 rotate_left 2
 · by_cases e:r'=r
   · subst e
     simp only[μ',aD] at hb
     have:=ho.blt _ hb
     omega
   · simp only[μ',aY _ _ e] at h1 h2 hb
     exact ho.sx r' h1 h2 hb
 · by_cases e:r'=r
   · subst e
     simp only[μ',aD] at fF ⊢
     injection fF with fF
     subst fF
     refine .inl ?_
     unfold ki
     simp only[μ',aD]
     refine⟨cP,ed,lP,.inr ⟨c,T,vs,pC,by simpa using hc,ak.mono le bV,dW.yN pC ?_⟩⟩
     simpa using dL
   · have hO:μ'.O r'=μ.O r':=by simp[μ',aY _ _ e]
     have hφ:μ'.φ r'=μ.φ r':=by simp[μ',aY _ _ e]
     rw[hO] at fF
     exact fE.cR le (ho.ok r' es' fF) (by rw[hO]) hφ fun hc=>iI _ (fE.cO (ho.ok r' es' fF) hc)
 · have hold: ∀r',r'≠r→(μ.O r').es.isSome=true→(μ.φ r').cap≠0→(μ.φ r').cO<μ.w.heap.size:=fun r' _ hs zL=>by
     obtain⟨es',he⟩:=Option.isSome_iff_exists.1 hs
     exact fE.cO (ho.ok r' es' he) zL
   by_cases e1:r1=r
   · subst e1
     have e2:r2≠r1:=fun e=>cT e.symm
     simp only[μ',aD,aY _ _ e2] at h1 h2 h3 h4 ⊢
     have:=hold r2 e2 h2 h4
     omega
   · by_cases e2:r2=r
     · subst e2
       simp only[μ',aD,aY _ _ e1] at h1 h2 h3 h4 ⊢
       have:=hold r1 e1 h1 h3
       omega
     · simp only[μ',aY _ _ e1,aY _ _ e2] at h1 h2 h3 h4 ⊢
       exact ho.inj r1 r2 cT h1 h2 h3 h4
theorem Dh {X:Ctx} {μ:Mu} (ho:br X μ) (r sz:Nat) (cP:0 <sz):
   let μ':Mu:=⟨μ.w,dm μ.φ r ⟨0,0,0⟩,dm μ.O r {gen:=(μ.O r).gen+1,sz:=sz,arr:=true,fz:=false,es:=some []}⟩
   Le μ μ'∧br X μ':=by
 intro μ'
 have le:Le μ μ':=by
   refine⟨Nat.le_refl _,fun b hb kf=> ⟨rfl,?_⟩,fun r'=> ?_,fun r' e=> ?_,rfl,rfl,rfl,fun _ _=>rfl⟩
   · rintro⟨r',h1,h2,h3,h4⟩
     by_cases e:r'=r
     · subst e
       simp only[μ',aD] at h3
       exact h3 rfl
     · simp only[μ',aY _ _ e] at h1 h2 h3 h4
       exact kf ⟨r',h1,h2,h3,h4⟩
   · by_cases e:r'=r
     · subst e;simp[μ',aD]
     · simp[μ',aY _ _ e]
   · by_cases e':r'=r
     · subst e';simp[μ',aD] at e
     · simp[μ',aY _ _ e']
 refine⟨le,fun r' es' fF=> ?_,fun r1 r2 cT h1 h2 h3 h4=> ?_,fun r' h1 h2 hb=> ?_,ho.blt⟩
 · by_cases e:r'=r
   · subst e
     simp only[μ',aD] at fF
     injection fF with fF
     subst fF
     refine .inl ?_
     unfold ki
     simp only[μ',aD]
     exact⟨cP,Nat.le_refl _,rfl,.inl (by simp)⟩
   · have hO:μ'.O r'=μ.O r':=by simp[μ',aY _ _ e]
     have hφ:μ'.φ r'=μ.φ r':=by simp[μ',aY _ _ e]
     rw[hO] at fF
     exact fE.cR le (ho.ok r' es' fF) (by rw[hO]) hφ fun _=>rfl
 · have e1:r1≠r:=by
     intro e;subst e
     simp only[μ',aD] at h3
     exact h3 rfl
   have e2:r2≠r:=by
     intro e;subst e
     simp only[μ',aD] at h4
     exact h4 rfl
   simp only[μ',aY _ _ e1,aY _ _ e2] at h1 h2 h3 h4 ⊢
   exact ho.inj r1 r2 cT h1 h2 h3 h4
 · have e:r'≠r:=by
     intro e;subst e
     simp only[μ',aD] at h2
     exact h2 rfl
   simp only[μ',aY _ _ e] at h1 h2 hb
   exact ho.sx r' h1 h2 hb
theorem HT {X:Ctx} {μ:Mu} (ho:br X μ) {r r1:Nat} (cT:r1≠r):
   let μ':Mu:=⟨μ.w,dm μ.φ r (μ.φ r1),dm (dm μ.O r ⟨(μ.O r).gen+1,(μ.O r1).sz,(μ.O r1).arr,(μ.O r1).fz,(μ.O r1).es⟩) r1 ⟨(μ.O r1).gen+1,(μ.O r1).sz,(μ.O r1).arr,(μ.O r1).fz,none⟩⟩
   Le μ μ'∧br X μ':=by
 intro μ'
 have uB:r≠r1:=Ne.symm cT
 have LP:μ'.O r1=⟨(μ.O r1).gen+1,(μ.O r1).sz,(μ.O r1).arr,(μ.O r1).fz,none⟩:=by simp[μ',aD]
 have hOr:μ'.O r=⟨(μ.O r).gen+1,(μ.O r1).sz,(μ.O r1).arr,(μ.O r1).fz,(μ.O r1).es⟩:=by simp[μ',aY _ _ uB,aD]
 have PR:μ'.φ r=μ.φ r1:=by simp[μ',aD]
 have hO: ∀r',r'≠r→r'≠r1→μ'.O r'=μ.O r':=fun r' h1 h2=>by simp[μ',aY _ _ h1,aY _ _ h2]
 have hφ: ∀r',r'≠r→μ'.φ r'=μ.φ r':=fun r' h1=>by simp[μ',aY _ _ h1]
 have ib: ∀b,μ'.own b→μ.own b:=by
   rintro b ⟨r',h1,h2,h3,h4⟩
   by_cases e1:r'=r1
   · subst e1;rw[LP] at h1;simp at h1
   · by_cases e:r'=r
     · subst e
       rw[hOr] at h1 h2
       rw[PR] at h3 h4
       exact⟨r1,h1,h2,h3,h4⟩
     · rw[hO _ e e1] at h1 h2
       rw[hφ _ e] at h3 h4
       exact⟨r',h1,h2,h3,h4⟩
 have le:Le μ μ':=by
   refine⟨Nat.le_refl _,fun b hb kf=> ⟨rfl,fun h=>kf (ib b h)⟩,fun r'=> ?_,fun r' e=> ?_,rfl,rfl,rfl,fun _ _=>rfl⟩
   · by_cases e1:r'=r1
     · subst e1;rw[LP];simp
     · by_cases e:r'=r
       · subst e;rw[hOr];simp
       · rw[hO _ e e1];exact Nat.le_refl _
   · by_cases e1:r'=r1
     · subst e1;rw[LP] at e;simp at e
     · by_cases e2:r'=r
       · subst e2;rw[hOr] at e;simp at e
       · rw[hO _ e2 e1,hφ _ e2];exact⟨rfl,rfl⟩
 refine⟨le,fun r' es' fF=> ?_,fun r2 r3 PS h1 h2 h3 h4=> ?_,fun r' h1 h2 hb=> ?_,ho.blt⟩
 · by_cases e1:r'=r1
   · subst e1;rw[LP] at fF;simp at fF
   · by_cases e:r'=r
     · subst e
       rw[hOr] at fF
       exact fE.cR (r:=r1) le (ho.ok r1 es' fF) (by rw[hOr]) PR fun _=>rfl
     · rw[hO _ e e1] at fF
       exact fE.cR le (ho.ok r' es' fF) (by rw[hO _ e e1]) (hφ _ e) fun _=>rfl
 · have R3:r2≠r1:=by intro e;subst e;rw[LP] at h1;simp at h1
   have PT:r3≠r1:=by intro e;subst e;rw[LP] at h2;simp at h2
   by_cases e2:r2=r
   · subst e2
     have e3:r3≠r2:=Ne.symm PS
     rw[hOr] at h1
     rw[hO _ e3 PT] at h2
     rw[PR] at h3 ⊢
     rw[hφ _ e3] at h4 ⊢
     exact ho.inj r1 r3 (Ne.symm PT) h1 h2 h3 h4
   · rw[hO _ e2 R3] at h1
     rw[hφ _ e2] at h3 ⊢
     by_cases e3:r3=r
     · subst e3
       rw[hOr] at h2
       rw[PR] at h4 ⊢
       exact ho.inj r2 r1 R3 h1 h2 h3 h4
     · rw[hO _ e3 PT] at h2
       rw[hφ _ e3] at h4 ⊢
       exact ho.inj r2 r3 PS h1 h2 h3 h4
 · have R3:r'≠r1:=by intro e;subst e;rw[LP] at h1;simp at h1
   by_cases e:r'=r
   · subst e
     rw[hOr] at h1
     rw[PR] at h2 hb
     exact ho.sx r1 h1 h2 hb
   · rw[hO _ e R3] at h1
     rw[hφ _ e] at h2 hb
     exact ho.sx r' h1 h2 hb
theorem kM {X:Ctx} {μ:Mu} (ho:br X μ) (r:Nat) {es:List V} {c:Array Value} {T:TypeId} (bQ: (μ.O r).es=some es) (gK: (μ.O r).fz=false)
   (hb:μ.w.heap[(μ.φ r).cO]? =some (.cells c T (0,0))) (jY: (μ.φ r).cap≠0)
   {c':Array Value} (hc:c'.size=c.size) (LQ BW Di:Nat) {es':List V} {vs':List Value}
   (hg: (LQ=(μ.O r).gen∧BW=(μ.φ r).base∧Di=(μ.φ r).cap)∨(μ.O r).gen<LQ) (U5:Di≠0)
   (hlen:es'.length≤Di) (lP:es'.all (aQ · (μ.O r).sz)=true) (bV:ak X μ es' vs') (oN:BW+Di*(μ.O r).sz≤c.size)
   (dL: ∀i v,vs'[i]? =some v→v.cells.size=(μ.O r).sz∧ ∀j x,v.cells[j]? =some x→c'[BW+i*(μ.O r).sz+j]? =some x):
   let μ':Mu:=⟨μ.w.setRow (μ.φ r).cO c',dm μ.φ r ⟨(μ.φ r).cO,BW,Di⟩,dm μ.O r {μ.O r with gen:=LQ,es:=some es'}⟩
   Le μ μ'∧br X μ':=by
 intro μ'
 have pC:μ'.w.heap[(μ.φ r).cO]? =some (.cells c' T (0,0)):=setRow_heap _ _ _ _ _ _ hb
 have pD: ∀b,b≠(μ.φ r).cO→μ'.w.heap[b]? =μ.w.heap[b]? :=fun b cT=>setRow_other _ _ _ _ cT
 have qG:μ'.w.heap.size=μ.w.heap.size:=by simp[μ',World.setRow]
 have bk: (μ.φ r).cO<μ.w.heap.size:=(Array.getElem?_eq_some_iff.1 hb).1
 have ib:μ.own (μ.φ r).cO:=⟨r,by simp[bQ],gK,jY,rfl⟩
 have le:Le μ μ':=by
   refine⟨by omega,fun b pR kf=> ⟨pD b (fun e=>kf (e ▸ ib)),?_⟩,fun r'=> ?_,fun r' e=> ?_,rfl,rfl,rfl,fun a ha=> ?_⟩
   · rintro⟨r',h1,h2,h3,h4⟩
     by_cases e:r'=r
     · subst e
       simp only[μ',aD] at h4
       exact kf (h4 ▸ ib)
     · simp only[μ',aY _ _ e] at h1 h2 h3 h4
       exact kf ⟨r',h1,h2,h3,h4⟩
   · by_cases e:r'=r
     · subst e;simp only[μ',aD];omega
     · simp[μ',aY _ _ e]
   · by_cases e':r'=r
     · subst e'
       simp only[μ',aD] at e ⊢
       rcases hg with⟨_,g2,g3⟩ | hg
       · subst g2;subst g3;exact⟨rfl,trivial⟩
       · omega
     · simp[μ',aY _ _ e']
   · by_cases e:a.block=(μ.φ r).cO
     · simp only[World.frozen?,e,pC,hb]
     · simp only[World.frozen?,pD _ e]
 refine⟨le,fun r' PU pE=> ?_,fun r1 r2 cT h1 h2 h3 h4=> ?_,fun r' h1 h2 hb=> ?_,fun b hb=>Nat.lt_of_lt_of_le (ho.blt b hb) le.size⟩
 rotate_left 2
 · by_cases e:r'=r
   · subst e
     simp only[μ',aD] at hb
     exact ho.sx r' (by simp[bQ]) jY hb
   · simp only[μ',aY _ _ e] at h1 h2 hb
     exact ho.sx r' h1 h2 hb
 · by_cases e:r'=r
   · subst e
     have cP:0 < (μ.O r').sz:=by
       rcases ho.ok r' es bQ with⟨h,_⟩ | ⟨_,_,ob,hm,BX⟩
       · exact h
       · rw[hb] at hm;injection hm with hm;subst hm
         rcases BX with⟨_,_,h,_⟩ | ⟨_,_,h,_⟩ | ⟨_,_,_,h,_⟩ <;>cases h
     simp only[μ',aD] at pE
     injection pE with pE
     subst pE
     refine .inl ?_
     unfold ki
     simp only[μ',aD]
     exact⟨cP,hlen,lP,.inr ⟨c',T,vs',pC,by omega,ak.mono le bV,dW.yN pC dL⟩⟩
   · have hO:μ'.O r'=μ.O r':=by simp[μ',aY _ _ e]
     have hφ:μ'.φ r'=μ.φ r':=by simp[μ',aY _ _ e]
     rw[hO] at pE
     exact fE.cR le (ho.ok r' PU pE) (by rw[hO]) hφ fun Tq=>pD _ (ho.inj r' r e (by simp[pE]) (by simp[bQ]) Tq jY)
 · have hs: ∀x,(μ'.O x).es.isSome=true→(μ.O x).es.isSome=true:=fun x hx=>by
     by_cases e:x=r
     · subst e;simp[bQ]
     · simpa [μ',aY _ _ e] using hx
   have AE: ∀x,(μ'.φ x).cap≠0→(μ.φ x).cap≠0:=fun x hx=>by
     by_cases e:x=r
     · subst e;exact jY
     · simpa [μ',aY _ _ e] using hx
   have GC: ∀x,(μ'.φ x).cO=(μ.φ x).cO:=fun x=>by
     by_cases e:x=r
     · subst e;simp[μ',aD]
     · simp[μ',aY _ _ e]
   rw[GC,GC]
   exact ho.inj r1 r2 cT (hs _ h1) (hs _ h2) (AE _ h3) (AE _ h4)
theorem pF {X:Ctx} {μ:Mu} (ho:br X μ) (r:Nat):
   let μ':Mu:=⟨μ.w,μ.φ,dm μ.O r {μ.O r with fz:=true}⟩
   Le μ μ'∧br X μ':=by
 intro μ'
 have cD: ∀x,(μ'.O x).gen=(μ.O x).gen∧(μ'.O x).sz=(μ.O x).sz∧(μ'.O x).es=(μ.O x).es:=fun x=>by
   by_cases e:x=r
   · subst e;simp[μ',aD]
   · simp[μ',aY _ _ e]
 have le:Le μ μ':=
   ⟨Nat.le_refl _,fun b hb h=> ⟨rfl,fun pR=>h (yO (r:=r) (w':=μ.w) (by simp) pR)⟩,fun x=>by rw[(cD x).1];exact Nat.le_refl _,fun x _=> ⟨rfl,(cD x).2.1⟩,rfl,rfl,rfl,fun _ _=>rfl⟩
 refine⟨le,fun x es bQ=> ?_,fun r1 r2 cT h1 h2 h3 h4=> ?_,fun x h1 h2 hb=>ho.sx x (by rw[(cD x).2.2] at h1;exact h1) h2 hb,ho.blt⟩
 · rw[(cD x).2.2] at bQ
   exact fE.cR le (ho.ok x es bQ) (cD x).2.1 rfl fun _=>rfl
 · rw[(cD r1).2.2] at h1
   rw[(cD r2).2.2] at h2
   exact ho.inj r1 r2 cT h1 h2 h3 h4
theorem Dj {X:Ctx} {μ:Mu} (ho:br X μ) (r:Nat) {es':List V} (h0: (μ.O r).es.isSome=true) (cP:0 < (μ.O r).sz) (hl:es'.length≤(μ.φ r).cap) (lP:es'.all (aQ · (μ.O r).sz)=true)
   (hc: (μ.φ r).cap=0∨ ∃c T vs,μ.w.heap[(μ.φ r).cO]? =some (.cells c T (0,0))∧(μ.φ r).base+(μ.φ r).cap*(μ.O r).sz≤c.size∧ak X μ es' vs∧
     dW μ.w (μ.φ r).cO (μ.φ r).base (μ.O r).sz vs):
   let μ':Mu:=⟨μ.w,μ.φ,dm μ.O r {μ.O r with es:=some es'}⟩
   Le μ μ'∧br X μ':=by
 intro μ'
 have cD: ∀x,(μ'.O x).gen=(μ.O x).gen∧(μ'.O x).sz=(μ.O x).sz∧(μ'.O x).es.isSome=(μ.O x).es.isSome∧(μ'.O x).fz=(μ.O x).fz:=fun x=>by
   by_cases e:x=r
   · subst e;simp[μ',aD,h0]
   · simp[μ',aY _ _ e]
 have ib: ∀b,μ'.own b→μ.own b:=by
   rintro b ⟨r',h1,h2,h3,h4⟩
   rw[(cD r').2.2.1] at h1
   rw[(cD r').2.2.2] at h2
   exact⟨r',h1,h2,h3,h4⟩
 have le:Le μ μ':=
   ⟨Nat.le_refl _,fun b hb h=> ⟨rfl,fun pR=>h (ib b pR)⟩,fun x=>by rw[(cD x).1];exact Nat.le_refl _,fun x _=> ⟨rfl,(cD x).2.1⟩,rfl,rfl,rfl,fun _ _=>rfl⟩
 refine⟨le,fun x es bQ=> ?_,fun r1 r2 cT h1 h2 h3 h4=> ?_,fun x h1 h2 hb=>ho.sx x (by rw[(cD x).2.2.1] at h1;exact h1) h2 hb,ho.blt⟩
 · by_cases e:x=r
   · subst e
     have:es=es':=by simp[μ',aD] at bQ;exact bQ.symm
     subst this
     refine .inl ?_
     unfold ki
     rw[(cD x).2.1]
     refine⟨cP,hl,lP,hc.imp id ?_⟩
     rintro⟨c,T,vs,q1,q2,q3,q4⟩
     exact⟨c,T,vs,q1,q2,ak.mono le q3,q4⟩
   · have hx:μ'.O x=μ.O x:=by simp[μ',aY _ _ e]
     rw[hx] at bQ
     exact fE.cR le (ho.ok x es bQ) (by rw[hx]) rfl fun _=>rfl
 · rw[(cD r1).2.2.1] at h1
   rw[(cD r2).2.2.1] at h2
   exact ho.inj r1 r2 cT h1 h2 h3 h4
theorem qH {X:Ctx} {μ:Mu} (ho:br X μ) (r:Nat) (ob:Go.Obj) (es:List V) (BX:lN X μ ob es):
   let μ':Mu:=⟨μ.w.alloc ob,dm μ.φ r ⟨μ.w.heap.size,0,1⟩,dm μ.O r {gen:=(μ.O r).gen+1,sz:=0,arr:=false,fz:=false,es:=some es}⟩
   Le μ μ'∧br X μ':=by
 intro μ'
 have iI: ∀b,b<μ.w.heap.size→μ'.w.heap[b]? =μ.w.heap[b]? :=fun b hb=>heap_alloc_old _ _ _ hb
 have qG:μ'.w.heap.size=μ.w.heap.size+1:=Array.size_push _
 have pC:μ'.w.heap[μ.w.heap.size]? =some ob:=heap_alloc_new _ _
 have le:Le μ μ':=by
   refine⟨by omega,fun b hb kf=> ⟨iI b hb,?_⟩,fun r'=> ?_,fun r' e=> ?_,rfl,rfl,rfl,fun a ha=> ?_⟩
   · rintro⟨r',h1,h2,h3,h4⟩
     by_cases e:r'=r
     · subst e
       simp only[μ',aD] at h4
       omega
     · simp only[μ',aY _ _ e] at h1 h2 h3 h4
       exact kf ⟨r',h1,h2,h3,h4⟩
   · by_cases e:r'=r
     · subst e;simp[μ',aD]
     · simp[μ',aY _ _ e]
   · by_cases e':r'=r
     · subst e';simp[μ',aD] at e
     · simp[μ',aY _ _ e']
   · simp only[World.frozen?,iI a.block ha]
 refine⟨le,fun r' es' fF=> ?_,fun r1 r2 cT h1 h2 h3 h4=> ?_,fun r' h1 h2 hb=> ?_,fun b hb=>Nat.lt_of_lt_of_le (ho.blt b hb) le.size⟩
 rotate_left 2
 · by_cases e:r'=r
   · subst e
     simp only[μ',aD] at hb
     have:=ho.blt _ hb
     omega
   · simp only[μ',aY _ _ e] at h1 h2 hb
     exact ho.sx r' h1 h2 hb
 · by_cases e:r'=r
   · subst e
     simp only[μ',aD] at fF
     injection fF with fF
     subst fF
     refine .inr ?_
     unfold qF
     simp only[μ',aD]
     exact⟨trivial,by simp,ob,pC,BX.mono le⟩
   · have hO:μ'.O r'=μ.O r':=by simp[μ',aY _ _ e]
     have hφ:μ'.φ r'=μ.φ r':=by simp[μ',aY _ _ e]
     rw[hO] at fF
     exact fE.cR le (ho.ok r' es' fF) (by rw[hO]) hφ fun hc=>iI _ (fE.cO (ho.ok r' es' fF) hc)
 · have hold: ∀r',r'≠r→(μ.O r').es.isSome=true→(μ.φ r').cap≠0→(μ.φ r').cO<μ.w.heap.size:=fun r' _ hs zL=>by
     obtain⟨es',he⟩:=Option.isSome_iff_exists.1 hs
     exact fE.cO (ho.ok r' es' he) zL
   by_cases e1:r1=r
   · subst e1
     have e2:r2≠r1:=fun e=>cT e.symm
     simp only[μ',aD,aY _ _ e2] at h1 h2 h3 h4 ⊢
     have:=hold r2 e2 h2 h4
     omega
   · by_cases e2:r2=r
     · subst e2
       simp only[μ',aD,aY _ _ e1] at h1 h2 h3 h4 ⊢
       have:=hold r1 e1 h1 h3
       omega
     · simp only[μ',aY _ _ e1,aY _ _ e2] at h1 h2 h3 h4 ⊢
       exact ho.inj r1 r2 cT h1 h2 h3 h4
theorem pG {X:Ctx} {μ:Mu} (ho:br X μ) (r:Nat) {es es':List V} {ob ob':Go.Obj} (bQ: (μ.O r).es=some es) (gK: (μ.O r).fz=false) (cP: (μ.O r).sz=0)
   (hb:μ.w.heap[(μ.φ r).cO]? =some ob) (jY: (μ.φ r).cap≠0) (BX:lN X μ ob es) (PV:lN X μ ob' es'):
   let μ':Mu:=⟨{μ.w with heap:=μ.w.heap.set! (μ.φ r).cO ob'},μ.φ,dm μ.O r {μ.O r with es:=some es'}⟩
   Le μ μ'∧br X μ':=by
 intro μ'
 have bk: (μ.φ r).cO<μ.w.heap.size:=(Array.getElem?_eq_some_iff.1 hb).1
 have pC:μ'.w.heap[(μ.φ r).cO]? =some ob':=by simp[μ',Array.getElem?_setIfInBounds,bk]
 have pD: ∀b,b≠(μ.φ r).cO→μ'.w.heap[b]? =μ.w.heap[b]? :=fun b cT=>by simp[μ',Array.getElem?_setIfInBounds,Ne.symm cT]
 have qG:μ'.w.heap.size=μ.w.heap.size:=by simp[μ']
 have ib:μ.own (μ.φ r).cO:=⟨r,by simp[bQ],gK,jY,rfl⟩
 have oO: ∀x,(μ'.O x).gen=(μ.O x).gen∧(μ'.O x).sz=(μ.O x).sz∧(μ'.O x).fz=(μ.O x).fz∧(μ'.O x).es.isSome=(μ.O x).es.isSome:=fun x=>by
   by_cases e:x=r
   · subst e;simp[μ',aD,bQ]
   · simp[μ',aY _ _ e]
 have E6: ∀b,μ'.own b→μ.own b:=by
   rintro b ⟨r',h1,h2,h3,h4⟩
   rw[(oO r').2.2.2] at h1
   rw[(oO r').2.2.1] at h2
   exact⟨r',h1,h2,h3,h4⟩
 have le:Le μ μ':=by
   refine⟨by omega,fun b pR kf=> ⟨pD b (fun e=>kf (e ▸ ib)),fun h=>kf (E6 b h)⟩,fun r'=>by rw[(oO r').1];exact Nat.le_refl _,fun r' _=> ⟨rfl,(oO r').2.1⟩,rfl,rfl,rfl,fun a ha=> ?_⟩
   by_cases e:a.block=(μ.φ r).cO
   · rw[PV.live a μ'.w (by rw[e];exact pC),BX.live a μ.w (by rw[e];exact hb)]
   · simp only[World.frozen?,pD _ e]
 refine⟨le,fun r' PU pE=> ?_,fun r1 r2 cT h1 h2 h3 h4=> ?_,fun r' h1 h2 hb=> ?_,fun b hb=>Nat.lt_of_lt_of_le (ho.blt b hb) le.size⟩
 · by_cases e:r'=r
   · subst e
     simp only[μ',aD] at pE
     injection pE with pE
     subst pE
     refine .inr ?_
     unfold qF
     rw[(oO r').2.1]
     exact⟨cP,jY,ob',pC,PV.mono le⟩
   · have hO:μ'.O r'=μ.O r':=by simp[μ',aY _ _ e]
     rw[hO] at pE
     exact fE.cR le (ho.ok r' PU pE) (by rw[hO]) rfl fun Tq=>pD _ (ho.inj r' r e (by simp[pE]) (by simp[bQ]) Tq jY)
 · rw[(oO r1).2.2.2] at h1
   rw[(oO r2).2.2.2] at h2
   exact ho.inj r1 r2 cT h1 h2 h3 h4
 · rw[(oO r').2.2.2] at h1
   exact ho.sx r' h1 h2 hb
end Go.AM
namespace Go.AM
open Go Go.RowKit
structure Rel (X:Ctx) (T:Nat→V) (a:Go.Act) (μ:Mu):Prop where
 tmps: ∀t,al X μ (T t) (a.tmps.getD t undef)
 bd:br X μ
def cM (X:Ctx) (o:Oper) (a:Go.Act) (μ:Mu) (O':Nat→Obj) (v:V):Prop:=
 ∃val w' φ',((execOp a.eval o).run X.P μ.w= .ok (.value val) w'∨((execOp a.eval o).run X.P μ.w= .ok .skip w'∧val=undef))∧
  al X ⟨w',φ',O'⟩ v val∧Le μ ⟨w',φ',O'⟩∧br X ⟨w',φ',O'⟩
theorem aM {X:Ctx} {o:Oper} {a:Go.Act} {μ:Mu} {v:V} {val:Value} (ho:br X μ) (aj: (execOp a.eval o).run X.P μ.w= .ok (.value val) μ.w)
  (hv:al X μ v val):cM X o a μ μ.O v:=
 ⟨val,μ.w,μ.φ,.inl aj,hv,Le.refl μ,ho⟩
theorem cq {P:Program} {s:Sem Value} {w w':World} {val:Value} (h:s.run P w= .ok val w'): (do pure (Next.value (←s)):Sem Next).run P w= .ok (.value val) w':=by
 simp[Sem.run_bind,h]
theorem Fm {P:Program} {s:Sem Unit} {w w':World} (h:s.run P w= .ok () w'): (do s;pure Next.skip:Sem Next).run P w= .ok .skip w':=by
 simp[Sem.run_bind,h]
theorem bD (C:bl) (x:aT) (k:V→Act) (σ:St): (ev x k).run C σ=(k (bn σ x)).run C σ:=by cases x<;>rfl
theorem qI (C:bl): ∀ (xs:List aT) (k:List V→Act) (σ:St),(vN xs k).run C σ=(k (xs.map (bn σ))).run C σ
 | [],_,_=>rfl
 | x::xs,k,σ=>by simp only[vN,bD,qI C xs,List.map_cons]
theorem BY (C:bl) (x:Option aT) (k:Option V→Act) (σ:St): (u9 x k).run C σ=(k (x.map (bn σ))).run C σ:=by
 cases x with
 | none=>rfl
 | some x=>exact bD C x _ σ
theorem dI {C:bl} {r:Option V} {σ σ':St} {v:V} (h: (c8 r).run C σ=some (v,σ')):r=some v∧σ'=σ:=by
 cases r with
 | none=>simp[c8,Act.run] at h
 | some u=>simp only[c8,Act.run,Option.some.injEq,Prod.mk.injEq] at h;exact⟨by rw[h.1],h.2.symm⟩
theorem aX {C:bl} {u v:V} {σ σ':St} (h: (Act.done u).run C σ=some (v,σ')):u=v∧σ'=σ:=by
 simp only[Act.run,Option.some.injEq,Prod.mk.injEq] at h;exact⟨h.1,h.2.symm⟩
theorem au {C:bl} {p:V×St} {σ:St}: (Act.fail).run C σ≠some p:=by simp[Act.run]
theorem oP {X:Ctx} {μ:Mu} {v:Value} {c:V} (h:oc v=some c):al X μ c v∧c.aN=true:=by
 unfold oc at h
 split at h<;>first
  | (injection h with h;subst h;simp[al,V.aN,V.aq])
  | simp at h
theorem nb {X:Ctx} {μ:Mu}: ∀ {vs:List Value} {cs:List V},jJ vs=some cs→ak X μ cs vs∧cs.all V.aN=true
 | [],cs,h=>by simp[jJ] at h;subst h;simp[ak]
 | v::vs,cs,h=>by
   simp only[jJ] at h
   split at h
   · rename_i c cY h1 h2
     injection h with h;subst h
     obtain⟨a1,a2⟩:=oP (X:=X) (μ:=μ) h1
     obtain⟨b1,b2⟩:=nb (X:=X) (μ:=μ) h2
     simp[ak,a1,a2,b1,b2]
   · simp at h
theorem eG {X:Ctx} {μ:Mu} {v:Value} {c:V} (h:uu v=some c):al X μ c v∧c.dh=true:=by
 unfold uu at h
 split at h
 · rename_i cs
   simp only[Option.map_eq_some_iff] at h
   obtain⟨l,h1,rfl⟩:=h
   obtain⟨a1,a2⟩:=nb (X:=X) (μ:=μ) h1
   simp[al,V.dh,V.isAgg,a1,a2]
 · obtain⟨a1,a2⟩:=oP (X:=X) (μ:=μ) h
   exact⟨a1,by simp[V.dh,a2]⟩
theorem aS {X:Ctx} {μ:Mu} {T:Nat→V} {a:Go.Act} {x:Operand} {y:aT} (hr:Rel X T a μ) (h:cZ X x=some y) (O:Nat→Obj):al X μ (bn ⟨T,O⟩ y) (a.eval x):=by
 cases x with
 | tmp t=>simp[cZ] at h;subst h;exact hr.tmps t
 | const v=>
   simp only[cZ,Option.map_eq_some_iff] at h
   obtain⟨c,h1,rfl⟩:=h
   exact(eG h1).1
 | global g=>simp[cZ] at h
 | func f=>
   simp only[cZ,Option.map_eq_some_iff] at h
   obtain⟨n,h1,rfl⟩:=h
   simp only[bn,Go.Act.eval,al]
   exact⟨f,#[],rfl,h1,by simp[ak]⟩
theorem qJ {X:Ctx} {μ:Mu} {T:Nat→V} {a:Go.Act} (hr:Rel X T a μ) (O:Nat→Obj): ∀ {xs:List Operand} {ys:List aT},qC X xs=some ys→
   ak X μ (ys.map (bn ⟨T,O⟩)) (xs.map a.eval)
 | [],ys,h=>by simp[qC] at h;subst h;simp[ak]
 | x::xs,ys,h=>by
   simp only[qC] at h
   split at h
   · rename_i b bs h1 h2
     injection h with h;subst h
     simp only[List.map_cons,ak]
     exact⟨aS hr h1 O,qJ hr O h2⟩
   · simp at h
theorem lQ {X:Ctx} {μ:Mu} {e u:V} {x:Value} {off sz:Nat} (h:al X μ e x) (hp:part true off sz e=some u):
   ∃cs,x= .agg cs∧off+sz≤cs.size∧al X μ u (.agg (cs.extract off (off+sz))):=by
 cases e<;>simp[part] at hp
 rename_i cs
 obtain⟨h1,h2⟩:=hp
 subst h2
 simp only[al] at h
 obtain⟨h0,vs,rfl,hv⟩:=h
 have hl:=hv.length
 simp at hl
 refine⟨vs,rfl,by omega,?_⟩
 simp only[al]
 refine⟨?_,_,rfl,?_⟩
 · simp only[List.all_eq_true] at h0 ⊢
   intro c hc
   exact h0 c (List.mem_of_mem_drop (List.mem_of_mem_take hc))
 · have:=ak.take sz (ak.drop off hv)
   simpa [Array.toList_extract,List.extract_eq_take_drop] using this
theorem kz {X:Ctx} {μ:Mu} {e u:V} {x:Value} {off sz:Nat} (h:al X μ e x) (hp:part false off sz e=some u):
   e.dh=true∧ ∃c,x.cells[off]? =some c∧al X μ u c:=by
 by_cases ha: ∃cs,e= .agg cs
 · obtain⟨cs,rfl⟩:=ha
   simp only[part] at hp
   simp only[al] at h
   obtain⟨h0,vs,rfl,hv⟩:=h
   obtain⟨c,h1,h2⟩:=hv.get hp
   exact⟨by simp[V.dh,V.isAgg],c,by simpa [Value.cells] using h1,h2⟩
 · have:part false off sz e=if e.aN∧off=0 then some e else none:=by
     cases e<;>first| rfl| exact absurd ⟨_,rfl⟩ ha
   rw[this] at hp
   split at hp
   · rename_i hc
     injection hp with hp;subst hp
     refine⟨by simp[V.dh,hc.1],x,?_,h⟩
     rw[(h.lO hc.1).2,hc.2];simp
   · simp at hp
section
variable {X:Ctx} {h:Hints} {dst:Nat} {E:Env} {C:bl} {o:Oper} {a:Go.Act} {T:Nat→V} {μ:Mu} {v:V} {σ':St}
theorem ak.w4 {X:Ctx} {μ:Mu}: ∀ (ks:List Nat) {cs:List V} {vs:List Value},ak X μ cs vs→ak X μ (AM.w4 ks cs) vs
 | [],cs,vs,h=>by simpa [AM.w4] using h
 | k::ks,[],vs,h=>by simpa [AM.w4] using h
 | k::ks,c::cs,[],h=>by simp[ak] at h
 | k::ks,c::cs,v::vs,h=>by
   simp only[ak] at h
   simp only[AM.w4,ak]
   refine⟨?_,ak.w4 ks h.2⟩
   split
   · obtain⟨a,rfl⟩:=by simpa [al] using h.1
     simp only[al]
     exact⟨rfl,rfl,a,0,[],rfl,Nat.le_refl _,by simp[ak],.inl trivial⟩
   · exact h.1
theorem pH: ∀ (ks:List Nat) {cs:List V},cs.all V.aN=true→(AM.w4 ks cs).all V.aN=true
 | [],cs,h=>by simpa [AM.w4] using h
 | k::ks,[],h=>by simp[AM.w4]
 | k::ks,c::cs,h=>by
   simp only[List.all_cons,Bool.and_eq_true] at h
   simp only[AM.w4,List.all_cons,Bool.and_eq_true]
   refine⟨?_,pH ks h.2⟩
   split
   · rfl
   · exact h.1
theorem al.zM {X:Ctx} {μ:Mu} (ks:List Nat) {v:V} {val:Value} (h:al X μ v val):al X μ (AM.zM ks v) val:=by
 unfold AM.zM
 split
 · simp only[al] at h ⊢
   obtain⟨h1,vs,rfl,h2⟩:=h
   exact⟨pH ks h1,vs,rfl,h2.w4 ks⟩
 · split
   · obtain⟨a,rfl⟩:=by simpa [al] using h
     simp only[al]
     exact⟨rfl,rfl,a,0,[],rfl,Nat.le_refl _,by simp[ak],.inl trivial⟩
   · exact h
 · exact h
theorem al.IT {X:Ctx} {μ:Mu} (ks:List Nat) {σ:St} {y:aT} {val:Value} (h:al X μ (bn σ y) val):al X μ (bn σ (AM.IT ks y)) val:=by
 cases y with
 | tmp t=>exact h
 | const v=>exact al.zM ks h
theorem LR {x:Operand} {y:aT} (ks:List Nat) (hr:Rel X T a μ) (ho:o.op= .move x∨o.op= .assign x) (ht:cZ X x=some y) (aj: (av E (.move (IT ks y))).run C ⟨T,μ.O⟩=some (v,σ')):
  σ'.T=T∧cM X o a μ σ'.O v:=by
 simp only[av,bD] at aj
 obtain⟨rfl,rfl⟩:=aX aj
 refine⟨rfl,aM hr.bd ?_ (al.IT ks (aS hr ht _))⟩
 rcases ho with ho| ho<;>simp[execOp,ho]
theorem IV {h:Hints} {dst:Nat} {x:Operand} {oC:q9} (hr:Rel X T a μ) (ho:o.op= .move x∨o.op= .assign x) (ht:uv X h dst x=some oC) (aj: (av E oC).run C ⟨T,μ.O⟩=some (v,σ')):
   σ'.T=T∧cM X o a μ σ'.O v:=by
 unfold uv at ht
 split at ht
 · rename_i r sz hn hb
   injection ht with ht;subst ht
   simp only[av] at aj
   split at aj
   · rename_i cP
     simp only[Act.run,Option.some.injEq,Prod.mk.injEq] at aj
     obtain⟨rfl,rfl⟩:=aj
     have hx:x= .const (.slice none 0 0):=by
       unfold isNil at hn
       split at hn
       · rfl
       · simp at hn
     subst hx
     obtain⟨le,vm⟩:=Dh hr.bd r sz cP
     refine⟨rfl,.slice none 0 0,μ.w,dm μ.φ r ⟨0,0,0⟩,.inl ?_,?_,le,vm⟩
     · rcases ho with ho| ho<;>simp[execOp,ho,Go.Act.eval]
     · simp only[al,aD]
       exact⟨_,0,rfl,Nat.le_refl _,Nat.le_refl _,fun _=> ⟨cP,rfl,.inl rfl⟩⟩
   · exact absurd aj au
 · split at ht
   · rename_i r X9
     simp only[Option.map_eq_some_iff] at ht
     obtain⟨y,h1,rfl⟩:=ht
     simp only[av,bD] at aj
     have bV:=aS hr h1 μ.O
     have kj: (execOp a.eval o).run X.P μ.w= .ok (.value (a.eval x)) μ.w:=by rcases ho with ho| ho<;>simp[execOp,ho]
     split at aj
     · rename_i r1 g off len he
       rw[he] at bV
       split at aj
       · obtain⟨rfl,rfl⟩:=aX aj
         exact⟨rfl,aM hr.bd kj bV⟩
       · rename_i cT
         simp only[Act.run] at aj
         split at aj
         · rename_i hg
           simp only[Act.run,Option.some.injEq,Prod.mk.injEq] at aj
           obtain⟨rfl,rfl⟩:=aj
           obtain⟨le,vm⟩:=HT hr.bd (r:=r) (r1:=r1) cT
           refine⟨rfl,a.eval x,μ.w,dm μ.φ r (μ.φ r1),.inl kj,?_,le,vm⟩
           simp only[al] at bV ⊢
           obtain⟨ad,cap,k1,k2,k3,k4⟩:=bV
           obtain⟨k5,k6⟩:=k4 hg
           have uB:r≠r1:=fun e=>cT e.symm
           simp only[aY _ _ uB,aD]
           exact⟨ad,cap,k1,k2,Nat.le_refl _,fun _=> ⟨k5,k6⟩⟩
         · simp[Act.run] at aj
     · obtain⟨rfl,rfl⟩:=aX aj
       exact⟨rfl,aM hr.bd kj bV⟩
   · simp only[Option.map_eq_some_iff] at ht
     obtain⟨y,h1,rfl⟩:=ht
     exact LR _ hr ho h1 aj
theorem HU {c p q:Operand} {c' p' q':aT} (hr:Rel X T a μ) (ho:o.op= .pick c p q) (h1:cZ X c=some c') (h2:cZ X p=some p') (h3:cZ X q=some q')
   (aj: (av E (.pick c' p' q')).run C ⟨T,μ.O⟩=some (v,σ')):σ'.T=T∧cM X o a μ σ'.O v:=by
 simp only[av,bD] at aj
 have hc:=aS hr h1 μ.O
 split at aj
 · rename_i e
   rw[e] at hc
   simp only[al] at hc
   rw[bD] at aj
   obtain⟨rfl,rfl⟩:=aX aj
   refine⟨rfl,aM hr.bd ?_ (aS hr h2 _)⟩
   simp[execOp,ho,hc,asBool,Sem.run_bind]
 · rename_i e
   rw[e] at hc
   simp only[al] at hc
   rw[bD] at aj
   obtain⟨rfl,rfl⟩:=aX aj
   refine⟨rfl,aM hr.bd ?_ (aS hr h3 _)⟩
   simp[execOp,ho,hc,asBool,Sem.run_bind]
 · exact absurd aj au
theorem yP {x:Operand} {y:aT} (hr:Rel X T a μ) (ho:o.op= .nilCheck x) (ht:cZ X x=some y) (aj: (av E (.nilCheck y)).run C ⟨T,μ.O⟩=some (v,σ')):
   σ'.T=T∧cM X o a μ σ'.O v:=by
 simp only[av,bD] at aj
 have hx:=aS hr ht μ.O
 split at aj
 · rename_i e
   obtain⟨rfl,rfl⟩:=aX aj
   refine⟨rfl,aM hr.bd ?_ (e ▸ hx)⟩
   rw[e] at hx
   simp only[al] at hx
   obtain⟨p,hp,_⟩:=hx
   simp[execOp,ho,hp]
 · rename_i e
   obtain⟨rfl,rfl⟩:=aX aj
   refine⟨rfl,aM hr.bd ?_ (e ▸ hx)⟩
   rw[e] at hx
   simp only[al] at hx
   obtain⟨_,_,b,o',sz,q,hp,_⟩:=hx
   simp[execOp,ho,hp]
 · rename_i e
   obtain⟨rfl,rfl⟩:=aX aj
   refine⟨rfl,aM hr.bd ?_ (e ▸ hx)⟩
   rw[e] at hx
   simp only[al] at hx
   obtain⟨_,_,q,hp,_⟩:=hx
   simp[execOp,ho,hp]
 · rename_i e
   obtain⟨rfl,rfl⟩:=aX aj
   refine⟨rfl,aM hr.bd ?_ (e ▸ hx)⟩
   rw[e] at hx
   simp only[al] at hx
   obtain⟨F,cv,hp,_⟩:=hx
   simp[execOp,ho,hp]
 · exact absurd aj au
theorem xm {s:TypeId} {x:Operand} {i:Nat} {y:aT} {fs:Array Field} {f:Field} {n:Nat} (hr:Rel X T a μ) (ho:o.op= .fieldAddr s x i) (ht:cZ X x=some y)
   (hd:bq X s=some (.struct fs)) (hf:fs[i]? =some f) (hn:bI X f.type=some (n+1)) (aj: (av E (.fieldAddr f.offset y)).run C ⟨T,μ.O⟩=some (v,σ')):
   σ'.T=T∧cM X o a μ σ'.O v:=by
 simp only[av,bD] at aj
 have hx:=aS hr ht μ.O
 have hi: ∃inf,X.P.info? f.type=some inf∧inf.size=n+1:=by
   simpa [bI,info] using hn
 obtain⟨inf,va,Dk⟩:=hi
 have cP:X.P.cellsOf f.type=n+1:=by simp[Program.cellsOf,va,Dk]
 have key: ∀p:Addr,a.eval x= .pointer (some p)→(execOp a.eval o).run X.P μ.w= .ok (.value (.pointer (some (p.add f.offset)))) μ.w:=fun p hp=>by
   simp only[execOp,ho]
   refine cq ?_
   simp[Instr.fieldAt,Sem.run_bind,run_underlying hd,hf,Instr.sureAddr,hp,fieldPlace,run_sizeOf (w:=μ.w) va,cP]
 have qx: ∀ (b q:Nat),(⟨b,q,none⟩:Addr).add f.offset=⟨b,q+f.offset,none⟩:=fun b q=>by unfold Addr.add;split<;>simp_all
 split at aj
 · rename_i e
   obtain⟨rfl,rfl⟩:=aX aj
   rw[e] at hx
   simp only[al] at hx
   obtain⟨p,hp,h1,h2⟩:=hx
   refine⟨rfl,aM hr.bd (key p hp) ?_⟩
   simp only[al]
   refine⟨_,rfl,h1,fun eg=> ⟨(h2 eg).1,?_⟩⟩
   rw[(h2 eg).2,qx];simp[Nat.add_assoc]
 · rename_i e
   obtain⟨rfl,rfl⟩:=aX aj
   rw[e] at hx
   simp only[al] at hx
   obtain⟨h0,jZ,b,o',sz,q,hp,h1,h2,h3,h4⟩:=hx
   refine⟨rfl,aM hr.bd (key _ hp) ?_⟩
   simp only[al]
   exact⟨h0,jZ,b,o',sz,q,by rw[qx];simp[Nat.add_assoc],h1,h2,h3,h4⟩
 · rename_i e
   obtain⟨rfl,rfl⟩:=aX aj
   rw[e] at hx
   simp only[al] at hx
   obtain⟨h0,jZ,q,hp,h1,h2,h3,h4⟩:=hx
   refine⟨rfl,aM hr.bd (key _ hp) ?_⟩
   simp only[al]
   exact⟨h0,jZ,q,by rw[qx];simp[Nat.add_assoc],h1,h2,h3,h4⟩
 · exact absurd aj au
theorem AO {x:Operand} {i:Nat} {y:aT} (hr:Rel X T a μ) (ho:o.op= .extract x i) (ht:cZ X x=some y) (aj: (av E (.extract y i)).run C ⟨T,μ.O⟩=some (v,σ')):
   σ'.T=T∧cM X o a μ σ'.O v:=by
 simp only[av,bD] at aj
 have hx:=aS hr ht μ.O
 split at aj
 · rename_i vs e
   obtain⟨h1,rfl⟩:=dI aj
   rw[e] at hx
   simp only[al] at hx
   obtain⟨us,hu,hv⟩:=hx
   obtain⟨c,h2,h3⟩:=hv.get h1
   refine⟨rfl,aM hr.bd ?_ h3⟩
   simp only[execOp,ho]
   refine cq ?_
   have Fo:us[i]? =some c:=by simpa using h2
   simp[Instr.extract,hu,Fo]
 · exact absurd aj au
theorem yQ {f:FuncId} {first caps:Array Operand} {n:Nat} {cs:List aT} (hr:Rel X T a μ) (ho:o.op= .makeFunc (.func f) first caps) (GA:first.isEmpty=true)
   (hn:X.jI f=some n) (ht:qC X caps.toList=some cs) (aj: (av E (.lE n cs)).run C ⟨T,μ.O⟩=some (v,σ')):σ'.T=T∧cM X o a μ σ'.O v:=by
 simp only[av,qI] at aj
 obtain⟨rfl,rfl⟩:=aX aj
 have hx:=qJ hr μ.O ht
 obtain rfl:first= #[]:=by simpa using GA
 refine⟨rfl,aM (val:= .func (.func f) #[] (caps.map a.eval)) hr.bd ?_ ?_⟩
 · simp[execOp,ho,Instr.makeFunc,Sem.run_bind]
 · simp only[al]
   exact⟨f,_,rfl,hn,by simpa using hx⟩
theorem rT {t:TypeId} {x:Operand} {n:Nat} {y:aT} (hr:Rel X T a μ) (ho:o.op= .makeInterface t x) (hn:X.iU t=some n) (ht:cZ X x=some y)
   (hd: ∃d,bq X t=some d∧ ∀ms,d≠ .interface ms) (aj: (av E (.qi n y)).run C ⟨T,μ.O⟩=some (v,σ')):σ'.T=T∧cM X o a μ σ'.O v:=by
 simp only[av,bD] at aj
 obtain⟨rfl,rfl⟩:=aX aj
 have hx:=aS hr ht μ.O
 obtain⟨d,Dl,Ea⟩:=hd
 refine⟨rfl,aM (val:= .iface t (a.eval x)) hr.bd ?_ ?_⟩
 · simp only[execOp,ho]
   refine cq ?_
   simp only[Instr.makeInterface,Sem.run_bind,run_underlying Dl,Result.andThen_ok]
   cases d<;>first| rfl| exact absurd rfl (Ea _)
 · simp only[al]
   exact⟨t,_,rfl,hn,hx⟩
theorem Fq {t:TypeId} {x:Operand} {i:Nat} {y:aT} {fs:Array Field} {f:Field} {g:Bool} {sz:Nat} (hr:Rel X T a μ) (ho:o.op= .field t x i) (ht:cZ X x=some y)
   (hd:bq X t=some (.struct fs)) (hf:fs[i]? =some f) (hg:jg X f.type=some g) (hn:bI X f.type=some sz)
   (aj: (av E (.field g f.offset sz y)).run C ⟨T,μ.O⟩=some (v,σ')):σ'.T=T∧cM X o a μ σ'.O v:=by
 simp only[av,bD] at aj
 split at aj
 case isFalse=>exact absurd aj au
 rename_i Dm
 obtain⟨hp,rfl⟩:=dI aj
 have hx:=aS hr ht μ.O
 obtain⟨inf,va,Dk⟩: ∃inf,X.P.info? f.type=some inf∧inf.size=sz:=by simpa [bI,info] using hn
 have cP:X.P.cellsOf f.type=sz:=by simp[Program.cellsOf,va,Dk]
 obtain⟨d,Eb⟩: ∃d,X.P.underlying f.type=some d:=by
   simp only[jg,bq,Option.map_eq_some_iff] at hg
   obtain⟨d,h1,_⟩:=hg;exact⟨d,h1⟩
 have Ft: (isAgg f.type).run X.P μ.w= .ok g μ.w:=by
   simp only[jg,bq,Eb,Option.map_some,Option.some.injEq] at hg
   simp only[isAgg,Sem.run_bind,run_underlying Eb,Result.andThen_ok]
   subst hg
   cases d<;>rfl
 cases g with
 | true=>
   obtain⟨cs,hc,hle,hv⟩:=lQ hx hp
   refine⟨rfl,aM hr.bd ?_ hv⟩
   simp only[execOp,ho]
   refine cq ?_
   simp[Instr.field,Sem.run_bind,run_underlying hd,hf,part,Ft,hc,asAgg,run_sizeOf (w:=μ.w) va,cP,Go.part]
 | false=>
   obtain⟨_,c,hc,hv⟩:=kz hx hp
   cases hy:bn ⟨T,μ.O⟩ y<;>rw[hy] at Dm<;>simp[V.isAgg] at Dm
   rw[hy] at hx
   simp only[al] at hx
   obtain⟨_,cs,dk,_⟩:=hx
   rw[dk] at hc
   refine⟨rfl,aM hr.bd ?_ hv⟩
   simp only[execOp,ho]
   refine cq ?_
   have zL:cs[f.offset]? =some c:=by simpa [Value.cells] using hc
   simp[Instr.field,Sem.run_bind,run_underlying hd,hf,Ft,dk,asAgg,Go.part,zL]
end
end Go.AM
namespace Go.AM
open Go Go.RowKit
theorem oh {X:Ctx} {t:TypeId} {g:Bool} (hg:jg X t=some g) (w:World): (isAgg t).run X.P w= .ok g w:=by
 simp only[jg,bq,Option.map_eq_some_iff] at hg
 obtain⟨d,Eb,hg⟩:=hg
 simp only[isAgg,Sem.run_bind,run_underlying Eb,Result.andThen_ok]
 subst hg
 cases d<;>rfl
theorem di {X:Ctx} {t:TypeId} {sz:Nat} (hn:bI X t=some sz) (w:World): (sizeOf t).run X.P w= .ok sz w:=by
 obtain⟨inf,va,Dk⟩: ∃inf,X.P.info? t=some inf∧inf.size=sz:=by simpa [bI,info] using hn
 have cP:X.P.cellsOf t=sz:=by simp[Program.cellsOf,va,Dk]
 rw[run_sizeOf (w:=w) va,cP]
theorem qK {X:Ctx} {t:TypeId} {sz:Nat} (hg:jg X t=some true) (hn:bI X t=some sz) (cs:Array Value) (off:Nat) (w:World):
  (Go.part t cs off).run X.P w= .ok (.agg (cs.extract off (off+sz))) w:=by
 simp[Go.part,Sem.run_bind,oh hg,di hn]
theorem kA {X:Ctx} {t:TypeId} (hg:jg X t=some false) (cs:Array Value) (off:Nat) (c:Value) (hc:cs[off]? =some c) (w:World):
  (Go.part t cs off).run X.P w= .ok c w:=by
 simp[Go.part,Sem.run_bind,oh hg,hc]
theorem uC: ∀ (ks:List Nat) {HR:List Nat} {cs ds:List V} {b:Bool},fQ (ks++HR) cs ds=some b→
   ∃b1 b2,fQ ks (cs.take ks.length) (ds.take ks.length)=some b1∧fQ HR (cs.drop ks.length) (ds.drop ks.length)=some b2∧b=(b1 &&b2)
 | [],HR,cs,ds,b,h=> ⟨true,b,by simp[fQ],by simpa using h,by simp⟩
 | k::ks,HR,[],_,b,h=>by simp[fQ] at h
 | k::ks,HR,_::_,[],b,h=>by simp[fQ] at h
 | k::ks,HR,c::cs,d::ds,b,h=>by
   simp only[List.cons_append,fQ] at h
   split at h
   · rename_i x y hx hy
     injection h with h;subst h
     obtain⟨b1,b2,h1,h2,h3⟩:=uC ks hy
     refine⟨x &&b1,b2,?_,by simpa using h2,by rw[h3,Bool.and_assoc]⟩
     simp[fQ,hx,h1]
   · simp at h
theorem sy: ∀ {ks:List Nat} {cs ds:List V} {b:Bool},fQ ks cs ds=some b→cs.length=ks.length∧ds.length=ks.length
 | [],[],[],_,_=> ⟨rfl,rfl⟩
 | [],[],_::_,_,h=>by simp[fQ] at h
 | [],_::_,_,_,h=>by simp[fQ] at h
 | _::_,[],_,_,h=>by simp[fQ] at h
 | _::_,_::_,[],_,h=>by simp[fQ] at h
 | k::ks,c::cs,d::ds,b,h=>by
   simp only[fQ] at h
   split at h
   · rename_i x y hx hy
     obtain⟨h1,h2⟩:=sy hy
     simp[h1,h2]
   · simp at h
theorem BZ {X:Ctx} {μ:Mu} {t:TypeId} {m k:Nat} {c e:V} {x y:Value} {b:Bool} {D:TypeDesc} (hd:bq X t=some D)
   (hk: (k=0∧D= .bool)∨(k=1∧ ∃q,D= .int q)∨(k=2∧D= .string))
   (hc:al X μ c x) (he:al X μ e y) (hb:vM k c e=some b) (w:World): (Op.equalIn (m+1) t x y).run X.P w= .ok b w:=by
 unfold vM at hb
 split at hb
 · injection hb with hb;subst hb
   simp only[al] at hc he
   subst hc;subst he
   rcases hk with⟨_,rfl⟩ | ⟨h,_⟩ | ⟨h,_⟩
   · exact run_equalIn_bool' w m t _ _ hd
   · cases h
   · cases h
 · split at hb
   · injection hb with hb;subst hb
     simp only[al] at hc he
     subst hc;subst he
     rename_i ud
     subst ud
     rcases hk with⟨h,_⟩ | ⟨_,q,rfl⟩ | ⟨h,_⟩
     · cases h
     · exact run_equalIn_int w m t _ _ _ _ hd
     · cases h
   · simp at hb
 · injection hb with hb;subst hb
   simp only[al] at hc he
   obtain⟨p,rfl,hp⟩:=hc
   obtain⟨q,rfl,hq⟩:=he
   rcases hk with⟨h,_⟩ | ⟨h,_⟩ | ⟨_,rfl⟩
   · cases h
   · cases h
   · rw[run_equalIn_string w m t _ _ hd]
     congr 1
     rw[ByteArray.toList_eq,ByteArray.toList_eq,hp,hq]
     rw[Bool.eq_iff_iff];simp
 · simp at hb
theorem LS {   X:Ctx} {μ:Mu} (w:World): ∀d:Nat,
   (∀t ks cs ds xs ys b m,rR X d t=some ks→d≤m→ak X μ cs xs→ak X μ ds ys→fQ ks cs ds=some b→
     bI X t=some ks.length∧((jg X t=some true∧(Op.equalIn m t (.agg xs.toArray) (.agg ys.toArray)).run X.P w= .ok b w)∨
       (jg X t=some false∧ks.length=1∧ ∃x y,xs=[x]∧ys=[y]∧(Op.equalIn m t x y).run X.P w= .ok b w)))∧
   (∀fs off ks cs ds xs ys b m,rS X d fs off=some ks→d≤m→ak X μ cs xs→ak X μ ds ys→fQ ks (cs.drop off) (ds.drop off)=some b→
     (Op.eqFields m xs.toArray ys.toArray fs).run X.P w= .ok b w):=by
 intro d
 induction d with
 | zero=>exact⟨fun _ _ _ _ _ _ _ _ h=>by simp[rR] at h,fun _ _ _ _ _ _ _ _ _ h=>by simp[rS] at h⟩
 | succ d ih=>
   refine⟨fun t ks cs ds xs ys b m hk hm hx hy hb=> ?_,fun fs off ks cs ds xs ys b m hk hm hx hy hb=> ?_⟩
   · obtain⟨ m,rfl⟩: ∃m',m=m'+1:=⟨m - 1,by omega⟩
     have scalar: ∀ (D:TypeDesc) (k:Nat),bq X t=some D→((k=0∧D= .bool)∨(k=1∧ ∃q,D= .int q)∨(k=2∧D= .string))→bI X t=some 1→ks=[k]→
         bI X t=some ks.length∧((jg X t=some true∧(Op.equalIn (m+1) t (.agg xs.toArray) (.agg ys.toArray)).run X.P w= .ok b w)∨
       (jg X t=some false∧ks.length=1∧ ∃x y,xs=[x]∧ys=[y]∧(Op.equalIn (m+1) t x y).run X.P w= .ok b w)):=by
       intro D k hd hD hs e
       subst e
       obtain⟨l1,l2⟩:=sy hb
       have lx:=hx.length
       have ly:=hy.length
       match cs,ds,xs,ys,l1,l2,lx,ly with
       | [c],[e],[x],[y],_,_,_,_=>
         simp only[ak,and_true] at hx hy
         simp only[fQ,Bool.and_true] at hb
         have pR:vM k c e=some b:=by
           cases hq:vM k c e<;>rw[hq] at hb<;>simp at hb;rw[hb]
         refine⟨by simpa using hs,.inr ⟨?_,rfl,x,y,rfl,rfl,BZ hd hD hx hy pR w⟩⟩
         simp only[jg,hd,Option.map_some]
         rcases hD with⟨_,rfl⟩ | ⟨_,q,rfl⟩ | ⟨_,rfl⟩ <;>rfl
     simp only[rR] at hk
     split at hk
     · split at hk<;>simp at hk
       rename_i hd hs
       exact scalar _ 0 hd (by simp) hs hk.symm
     · split at hk<;>simp at hk
       rename_i hd hs
       exact scalar _ 1 hd (by simp) hs hk.symm
     · split at hk<;>simp at hk
       rename_i hd hs
       exact scalar _ 2 hd (by simp) hs hk.symm
     · rename_i fs hd
       split at hk
       · rename_i oK
         split at hk
         · rename_i HR Ws
           split at hk
           · rename_i hs
             injection hk with hk;subst hk
             refine⟨hs,.inl ⟨by simp[jg,hd],?_⟩⟩
             have Ec:X.P.fieldsOf t=fs:=by
               have kE:X.P.underlying t=some (.struct fs):=hd
               simp[Program.fieldsOf,kE]
             rw[run_equalIn_struct w m t _ _ (by rw[Ec];exact hd) oK,Ec]
             exact ih.2 _ 0 _ cs ds xs ys b m Ws (by omega) hx hy (by simpa using hb)
           · simp at hk
         · simp at hk
       · simp at hk
     · simp at hk
   · obtain⟨ m,rfl⟩: ∃m',m=m'+1:=⟨m - 1,by omega⟩
     cases fs with
     | nil=>
       simp only[rS,Option.some.injEq] at hk
       subst hk
       cases hc:cs.drop off<;>cases he:ds.drop off<;>rw[hc,he] at hb<;>simp[fQ] at hb
       subst hb
       simp[Op.eqFields]
     | cons f fs=>
       simp only[rS] at hk
       split at hk
       · rename_i hn
         split at hk
         · rename_i k1 vu
           split at hk
           · rename_i k2 IK
             injection hk with hk;subst hk
             obtain⟨b1,b2,e1,e2,e3⟩:=uC k1 hb
             obtain⟨hs,ha⟩:=ih.1 f.type k1 _ _ _ _ b1 (m+1) vu (by omega) (ak.take k1.length (ak.drop off hx)) (ak.take k1.length (ak.drop off hy)) e1
             have yR:=ih.2 fs (off+k1.length) k2 cs ds xs ys b2 (m+1) IK (by omega) hx hy (by simpa [List.drop_drop] using e2)
             have HV:=hn.2
             have head: (do let a ←Go.part f.type xs.toArray f.offset;let c ←Go.part f.type ys.toArray f.offset;Op.equalIn (m+1) f.type a c:Sem Bool).run X.P w= .ok b1 w:=by
               rcases ha with⟨hg,hq⟩ | ⟨hg,h1,x,y,R4,Wt,hq⟩
               · simp only[Sem.run_bind,qK hg hs,Result.andThen_ok,HV]
                 rw[←hq]
                 congr 3 <;> (apply Array.ext';simp[Array.toList_extract,List.extract_eq_take_drop])
               · have gx:xs.toArray[f.offset]? =some x:=by
                  have:=congrArg (fun l=>l[0]?) R4
                  simpa [List.getElem?_take,h1,HV] using this
                 have gy:ys.toArray[f.offset]? =some y:=by
                  have:=congrArg (fun l=>l[0]?) Wt
                  simpa [List.getElem?_take,h1,HV] using this
                 simp only[Sem.run_bind,kA hg _ _ _ gx,kA hg _ _ _ gy,Result.andThen_ok]
                 exact hq
             simp only[Op.eqFields,Sem.run_ite,if_pos hn.1]
             simp only[Sem.run_bind] at head ⊢
             generalize (Go.part f.type xs.toArray f.offset).run X.P w=r1 at head ⊢
             cases r1 with
             | halt _ _=>simp[Result.andThen] at head
             | ok a1 w1=>
               simp only[Result.andThen_ok] at head ⊢
               generalize (Go.part f.type ys.toArray f.offset).run X.P w1=r2 at head ⊢
               cases r2 with
               | halt _ _=>simp[Result.andThen] at head
               | ok a2 w2=>
                 simp only[Result.andThen_ok] at head ⊢
                 rw[head]
                 simp only[Result.andThen_ok,Sem.run_ite]
                 subst e3
                 cases b1
                 · simp
                 · simpa using yR
           · simp at hk
         · simp at hk
       · simp at hk
end Go.AM
namespace Go.AM
open Go Go.RowKit
theorem Fu {X:Ctx} {μ:Mu} {T:Nat→V} {a:Go.Act} {x:Option Operand} {y:Option aT} (hr:Rel X T a μ) (h:rQ X x=some y) (O:Nat→Obj):
   (x=none∧y=none)∨ ∃x' y',x=some x'∧y=some y'∧al X μ (bn ⟨T,O⟩ y') (a.eval x'):=by
 cases x with
 | none=>simp[rQ] at h;exact .inl ⟨rfl,h.symm⟩
 | some x=>
   simp only[rQ,Option.map_eq_some_iff] at h
   obtain⟨c,h1,rfl⟩:=h
   exact .inr ⟨x,c,rfl,rfl,aS hr h1 O⟩
section
variable {X:Ctx} {E:Env} {C:bl} {o:Oper} {a:Go.Act} {T:Nat→V} {μ:Mu} {v:V} {σ':St}
theorem Fv {op:BinOp} {t:TypeId} {x y:V} {xv yv:Value} {u:V} (hx:al X μ x xv) (hy:al X μ y yv) (h:cf op x y=some u) (p q:Operand):
   ∃val,(do eqGuard op t p q xv yv;Go.binOp op t xv yv:Sem Value).run X.P μ.w= .ok val μ.w∧al X μ u val:=by
 unfold cf at h
 split at h
 · rename_i k n k' n'
   simp only[al] at hx hy
   subst hx;subst hy
   have hg: (eqGuard op t p q (.int k n) (.int k' n')).run X.P μ.w= .ok () μ.w:=by
     cases op<;>simp[eqGuard]
   simp only[Sem.run_bind,hg,Result.andThen_ok]
   cases op with
   | shl=>
     simp only at h
     split at h<;>simp at h
     subst h
     rename_i hb
     exact⟨.int k (k.wrap (n*2 ^ min n'.toNat k.bits)),by simp[Go.binOp,Op.shift,hb],by simp[al]⟩
   | shr=>
     simp only at h
     split at h<;>simp at h
     subst h
     rename_i hb
     exact⟨.int k (n.fdiv (2 ^ min n'.toNat k.bits)),by simp[Go.binOp,Op.shift,hb],by simp[al]⟩
   | quo=>
     simp only at h
     split at h
     · rename_i hk;subst hk
       split at h<;>simp at h
       subst h
       rename_i hb
       exact⟨.int k (k.wrap (n.tdiv n')),by simp[Go.binOp,Op.intDiv,hb],by simp[al]⟩
     · simp at h
   | rem=>
     simp only at h
     split at h
     · rename_i hk;subst hk
       split at h<;>simp at h
       subst h
       rename_i hb
       exact⟨.int k (n.tmod n'),by simp[Go.binOp,Op.intDiv,hb],by simp[al]⟩
     · simp at h
   | _=>
     simp only at h
     split at h
     · rename_i hk;subst hk
       simp only[j6,dw,Option.some.injEq] at h
       subst h
       exact⟨_,by simp[Go.binOp,Op.intArith,Op.intBits,Op.intCmp];rfl,by simp[al]⟩
     · simp at h
 · rename_i s s'
   simp only[al] at hx hy
   obtain⟨bs,rfl,rfl⟩:=hx
   obtain⟨cs,rfl,rfl⟩:=hy
   have hg: (eqGuard op t p q (.string bs) (.string cs)).run X.P μ.w= .ok () μ.w:=by
     cases op<;>simp[eqGuard]
   simp only[Sem.run_bind,hg,Result.andThen_ok]
   have he: (bs.toList==cs.toList)=decide (bs.data.toList=cs.data.toList):=by
     rw[ByteArray.toList_eq,ByteArray.toList_eq,Bool.eq_iff_iff];simp
   cases op with
   | add=>
     simp only at h
     split at h<;>simp at h
     subst h
     rename_i hl
     have xd: ¬ ((bs.size+cs.size:Nat):Int) >IntKind.i64.max:=by
       have hm:IntKind.i64.max=9223372036854775807:=by decide
       have h1:bs.data.toList.length=bs.size:=by rw[Array.length_toList];rfl
       have h2:cs.data.toList.length=cs.size:=by rw[Array.length_toList];rfl
       rw[hm];rw[h1,h2] at hl;omega
     refine⟨.string (bs++cs),by simp only[Go.binOp,Op.stringOp];rw[if_neg xd];rfl,?_⟩
     simp[al,ByteArray.data_append]
   | _=>
     simp only[Option.some.injEq,reduceCtorEq] at h
     try (subst h;refine⟨_,by simp only[Go.binOp,Op.stringOp];rfl,?_⟩;simp only[al,he] <;>simp only[ByteArray.toList_eq])
 · simp at h
theorem AP {op:BinOp} {t t2:TypeId} {x y:Operand} {x' y':aT} (hr:Rel X T a μ) (ho:o.op= .binOp op t x y t2) (h1:cZ X x=some x') (h2:cZ X y=some y')
  (aj: (av E (.bin op x' y')).run C ⟨T,μ.O⟩=some (v,σ')):σ'.T=T∧cM X o a μ σ'.O v:=by
 simp only[av,bD] at aj
 obtain⟨hb,rfl⟩:=dI aj
 obtain⟨val,hv,bV⟩:=Fv (t:=t) (aS hr h1 μ.O) (aS hr h2 μ.O) hb x y
 refine⟨rfl,aM hr.bd ?_ bV⟩
 simp only[execOp,ho]
 exact cq hv
theorem LU {op:BinOp} {t t2:TypeId} {x y:Operand} {x' y':aT} (hr:Rel X T a μ) (ho:o.op= .binOp op t x y t2) (dX:op= .eql∨op= .neq) (hd:bq X t=some .bool)
   (h1:cZ X x=some x') (h2:cZ X y=some y') {neg:Bool} (hn:neg=gI op)
   (aj: (av E (.ME neg x' y')).run C ⟨T,μ.O⟩=some (v,σ')):σ'.T=T∧cM X o a μ σ'.O v:=by
 simp only[av,bD] at aj
 have hx:=aS hr h1 μ.O
 have hy:=aS hr h2 μ.O
 split at aj
 · rename_i p q e1 e2
   obtain⟨rfl,rfl⟩:=aX aj
   rw[e1] at hx;rw[e2] at hy
   simp only[al] at hx hy
   refine⟨rfl,aM (val:= .bool ((p==q) !=neg)) hr.bd ?_ (by simp[al])⟩
   simp only[execOp,ho]
   refine cq ?_
   have heq: (Op.equal t (.bool p) (.bool q)).run X.P μ.w= .ok (p==q) μ.w:=run_equalIn_bool' μ.w 9999 t p q hd
   rcases dX with rfl| rfl
   · subst hn
     simp[eqGuard,hx,hy,Go.binOp,Sem.run_bind,heq,gI]
   · subst hn
     simp[eqGuard,hx,hy,Go.binOp,Sem.run_bind,heq,gI]
 · exact absurd aj au
theorem LV {op:BinOp} {t t2:TypeId} {x y:Operand} {x' y':aT} {ks:List Nat} (hr:Rel X T a μ) (ho:o.op= .binOp op t x y t2) (dX:op= .eql∨op= .neq)
   (hg:X.P.eqGuardType X.P.depth t=false) (hk:rR X 100 t=some ks) (hs: ∃fs,bq X t=some (.struct fs))
   (h1:cZ X x=some x') (h2:cZ X y=some y') {neg:Bool} (hn:neg=gI op)
   (aj: (av E (.Gz neg ks x' y')).run C ⟨T,μ.O⟩=some (v,σ')):σ'.T=T∧cM X o a μ σ'.O v:=by
 simp only[av,bD] at aj
 have hx:=aS hr h1 μ.O
 have hy:=aS hr h2 μ.O
 split at aj
 · rename_i p q e1 e2
   split at aj
   · rename_i b hb
     obtain⟨rfl,rfl⟩:=aX aj
     rw[e1] at hx;rw[e2] at hy
     simp only[al] at hx hy
     obtain⟨_,xs,Bq,Wu⟩:=hx
     obtain⟨_,ys,Wv,Ww⟩:=hy
     refine⟨rfl,aM (val:= .bool (b !=neg)) hr.bd ?_ (by simp[al])⟩
     simp only[execOp,ho]
     refine cq ?_
     obtain⟨_,hh⟩:=(LS (X:=X) (μ:=μ) μ.w 100).1 t ks p q _ _ b 10000 hk (by omega) Wu Ww hb
     obtain⟨fs,S7⟩:=hs
     have Dm:jg X t=some true:=by simp[jg,S7]
     rcases hh with⟨_,hh⟩ | ⟨hh,_⟩
     · have heq: (Op.equal t (.agg xs) (.agg ys)).run X.P μ.w= .ok b μ.w:=by simpa [Op.equal,Op.maxDepth] using hh
       have vb: (eqGuard op t x y (.agg xs) (.agg ys)).run X.P μ.w= .ok () μ.w:=run_eqGuard_agg μ.w op t x y xs ys hg
       rw[Bq,Wv]
       rcases dX with rfl| rfl
       · subst hn
         simp only[Sem.run_bind,vb,Result.andThen_ok,Go.binOp,heq,gI];simp
       · subst hn
         simp only[Sem.run_bind,vb,Result.andThen_ok,Go.binOp,heq,gI];simp
     · rw[Dm] at hh;cases hh
   · exact absurd aj au
 · exact absurd aj au
theorem uD {t k:Nat}: ∀ {ks:List (Nat×Nat)},pn t ks=some k→(t,k) ∈ ks
 | [],h=>by simp[pn] at h
 | (t',k')::ks,h=>by
   simp only[pn] at h
   cases hb:Nat.beq t' t with
   | true=>
     have:=Nat.eq_of_beq_eq_true hb
     rw[hb] at h
     simp at h;subst h;subst this;simp
   | false=>
     rw[hb] at h
     exact List.mem_cons_of_mem _ (uD h)
theorem yS {X:TrEnv} {t k:Nat} (h: (t,k) ∈ tA X): ∃T i D,X.iU T=some t∧X.P.info? T=some i∧i.comparable=true∧bq X T=some D∧
   ((k=0∧D= .bool)∨(k=1∧ ∃q,D= .int q)∨(k=2∧D= .string)):=by
 simp only[tA,List.mem_filterMap] at h
 obtain⟨T,_,h⟩:=h
 split at h
 · rename_i h1 h2 h3
   simp only[Option.map_eq_some_iff] at h2
   obtain⟨i,hi,hc⟩:=h2
   simp at h;obtain⟨rfl,rfl⟩:=h
   exact⟨T,i,_,h1,hi,hc,h3,.inl ⟨rfl,rfl⟩⟩
 · rename_i h1 h2 h3
   simp only[Option.map_eq_some_iff] at h2
   obtain⟨i,hi,hc⟩:=h2
   simp at h;obtain⟨rfl,rfl⟩:=h
   exact⟨T,i,_,h1,hi,hc,h3,.inr (.inl ⟨rfl,_,rfl⟩)⟩
 · rename_i h1 h2 h3
   simp only[Option.map_eq_some_iff] at h2
   obtain⟨i,hi,hc⟩:=h2
   simp at h;obtain⟨rfl,rfl⟩:=h
   exact⟨T,i,_,h1,hi,hc,h3,.inr (.inr ⟨rfl,rfl⟩)⟩
 · simp at h
theorem qL {P:Program} {w:World} (d:Nat) {ti tp:TypeId} {ms:Array (String×TypeId)} {i:TypeInfo} {u v:Value} {b:Bool} (hi:P.underlying ti=some (.interface ms)) (PW:P.info? tp=some i) (PX:i.comparable=true)
  (h: (Op.equalIn d tp u v).run P w= .ok b w): (Op.equalIn (d+1) ti (.iface tp u) (.iface tp v)).run P w= .ok b w:=by
 simp[Op.equalIn,run_underlying hi,typeInfo,PW,PX,h]
theorem uE {P:Program} {w:World} (d:Nat) {ti tp:TypeId} {ms:Array (String×TypeId)} {u:Value} (hi:P.underlying ti=some (.interface ms)):
  (Op.equalIn (d+1) ti .nilIface (.iface tp u)).run P w= .ok false w:=by
 simp[Op.equalIn,run_underlying hi]
theorem uF {P:Program} {w:World} (d:Nat) {ti tp:TypeId} {ms:Array (String×TypeId)} {u:Value} (hi:P.underlying ti=some (.interface ms)):
  (Op.equalIn (d+1) ti (.iface tp u) .nilIface).run P w= .ok false w:=by
 simp[Op.equalIn,run_underlying hi]
theorem LW {op:BinOp} {t t2:TypeId} {x y:Operand} {x' y':aT} (hr:Rel X T a μ) (ho:o.op= .binOp op t x y t2) (dX:op= .eql∨op= .neq) (hd: ∃ms,bq X t=some (.interface ms))
   (mE: ∀t1 t2 k,X.iU t1=some k→X.iU t2=some k→t1=t2)
   (h1:cZ X x=some x') (h2:cZ X y=some y') {neg:Bool} (hn:neg=gI op)
   (aj: (av E (.Nc neg (tA X) x' y')).run C ⟨T,μ.O⟩=some (v,σ')):σ'.T=T∧cM X o a μ σ'.O v:=by
 simp only[av,bD] at aj
 have hx:=aS hr h1 μ.O
 have hy:=aS hr h2 μ.O
 obtain⟨ms,hd⟩:=hd
 have fin: ∀b,(Op.equal t (a.eval x) (a.eval y)).run X.P μ.w= .ok b μ.w→(eqGuard op t x y (a.eval x) (a.eval y)).run X.P μ.w= .ok () μ.w→
     (∀k1 k2 m1 m2,¬ (a.eval x= .int k1 m1∧a.eval y= .int k2 m2))→
     (Go.binOp op t (a.eval x) (a.eval y)).run X.P μ.w= .ok (.bool (b !=neg)) μ.w→cM X o a μ μ.O (.bool (b !=neg)):=fun b heq vb _ hb=>by
   refine aM (val:= .bool (b !=neg)) hr.bd ?_ (by simp[al])
   simp only[execOp,ho]
   refine cq ?_
   simp only[Sem.run_bind,vb,Result.andThen_ok,hb]
 split at aj
 · rename_i s p s' q e1 e2
   rw[e1] at hx;rw[e2] at hy
   simp only[al] at hx hy
   obtain⟨T1,u1,hx,HD,hp⟩:=hx
   obtain⟨T2,u2,hy,PA,hq⟩:=hy
   split at aj
   · rename_i Tr
     subst Tr
     split at aj
     · rename_i k hk
       split at aj
       · rename_i b hb
         obtain⟨rfl,rfl⟩:=aX aj
         obtain⟨T0,i,D,k1,k2,k3,k4,k5⟩:=yS (uD hk)
         obtain rfl:=mE T1 T0 _ HD k1
         obtain rfl:=mE T2 T1 _ PA k1
         have heq: (Op.equal t (.iface T2 u1) (.iface T2 u2)).run X.P μ.w= .ok b μ.w:=
           qL 9999 hd k2 k3 (BZ (m:=9998) k4 k5 hp hq hb μ.w)
         refine⟨rfl,fin b (by rw[hx,hy];exact heq) (by rw[hx,hy];rcases dX with rfl| rfl<;>simp[eqGuard]) (by simp[hx]) ?_⟩
         rw[hx,hy]
         rcases dX with rfl| rfl
         · subst hn
           simp[Go.binOp,Sem.run_bind,heq,gI]
         · subst hn
           simp[Go.binOp,Sem.run_bind,heq,gI]
       · exact absurd aj au
     · exact absurd aj au
   · exact absurd aj au
 · rename_i s p e1 e2
   rw[e1] at hx;rw[e2] at hy
   simp only[al] at hx hy
   obtain⟨T2,u2,hy,PA,hq⟩:=hy
   obtain⟨rfl,rfl⟩:=aX aj
   have heq: (Op.equal t .nilIface (.iface T2 u2)).run X.P μ.w= .ok false μ.w:=uE 9999 hd
   refine⟨rfl,?_⟩
   have:=fin false (by rw[hx,hy];exact heq) (by rw[hx,hy];rcases dX with rfl| rfl<;>simp[eqGuard]) (by simp[hx]) (by
     rw[hx,hy]
     rcases dX with rfl| rfl
     · subst hn
       simp[Go.binOp,Sem.run_bind,heq,gI]
     · subst hn
       simp[Go.binOp,Sem.run_bind,heq,gI])
   simpa using this
 · rename_i s p e1 e2
   rw[e1] at hx;rw[e2] at hy
   simp only[al] at hx hy
   obtain⟨T2,u2,hx,PA,hq⟩:=hx
   obtain⟨rfl,rfl⟩:=aX aj
   have heq: (Op.equal t (.iface T2 u2) .nilIface).run X.P μ.w= .ok false μ.w:=uF 9999 hd
   refine⟨rfl,?_⟩
   have:=fin false (by rw[hx,hy];exact heq) (by rw[hx,hy];rcases dX with rfl| rfl<;>simp[eqGuard]) (by simp[hx]) (by
     rw[hx,hy]
     rcases dX with rfl| rfl
     · subst hn
       simp[Go.binOp,Sem.run_bind,heq,gI]
     · subst hn
       simp[Go.binOp,Sem.run_bind,heq,gI])
   simpa using this
 · exact absurd aj au
theorem jK {P:Program} {w:World} (d:Nat) {t e:TypeId} (q:Option Addr) (hi:P.underlying t=some (.pointer e)):
  (Op.equalIn (d+1) t (.pointer none) (.pointer q)).run P w= .ok q.isNone w:=by
 simp[Op.equalIn,run_underlying hi]
theorem nc {P:Program} {w:World} (d:Nat) {t e:TypeId} (p:Addr) (hi:P.underlying t=some (.pointer e)):
  (Op.equalIn (d+1) t (.pointer (some p)) (.pointer none)).run P w= .ok false w:=by
 simp[Op.equalIn,run_underlying hi]
theorem uG {P:Program} {w:World} (d:Nat) {t e:TypeId} {inf:TypeInfo} {n:Nat} {b o o':Nat} (hi:P.underlying t=some (.pointer e)) (va:P.info? e=some inf) (Ts:P.cellsOf e=n+1):
  (Op.equalIn (d+1) t (.pointer (some ⟨b,o,none⟩)) (.pointer (some ⟨b,o',none⟩))).run P w= .ok (o==o') w:=by
 have hq: ((⟨b,o,none⟩:Addr)==⟨b,o',none⟩)=(o==o'):=by
  rw[Bool.eq_iff_iff]
  simp only[beq_iff_eq,Addr.mk.injEq,true_and,and_true]
 simp[Op.equalIn,run_underlying hi,Sem.run_bind,run_sizeOf (w:=w) va,Ts,sameAddr,hq]
theorem LX {op:BinOp} {t e t2:TypeId} {n:Nat} {x y:Operand} {x' y':aT} (hr:Rel X T a μ) (ho:o.op= .binOp op t x y t2) (dX:op= .eql∨op= .neq) (hd:bq X t=some (.pointer e)) (cP:bI X e=some (n+1))
  (h1:cZ X x=some x') (h2:cZ X y=some y') {neg:Bool} (hn:neg=gI op)
  (aj: (av E (.D7 neg x' y')).run C ⟨T,μ.O⟩=some (v,σ')):σ'.T=T∧cM X o a μ σ'.O v:=by
 simp only[av,bD] at aj
 have hx:=aS hr h1 μ.O
 have hy:=aS hr h2 μ.O
 obtain⟨hb,rfl⟩:=dI aj
 rw[Option.map_eq_some_iff] at hb
 obtain⟨b,hb,rfl⟩:=hb
 have kE:X.P.underlying t=some (.pointer e):=hd
 obtain⟨inf,va,Dk⟩: ∃inf,X.P.info? e=some inf∧inf.size=n+1:=by simpa [bI,info] using cP
 have Ts:X.P.cellsOf e=n+1:=by simp[Program.cellsOf,va,Dk]
 have key: ∃p q,a.eval x= .pointer p∧a.eval y= .pointer q∧(Op.equal t (.pointer p) (.pointer q)).run X.P μ.w= .ok b μ.w:=by
  unfold Bv at hb
  split at hb
  · rename_i e1 e2
    rw[e1] at hx;rw[e2] at hy
    simp only[al] at hx hy
    simp only[Option.some.injEq] at hb;subst hb
    exact⟨_,_,hx,hy,jK 9999 none kE⟩
  · rename_i e1 e2
    rw[e1] at hx;rw[e2] at hy
    simp only[al] at hx hy
    simp only[Option.some.injEq] at hb;subst hb
    obtain⟨_,_,_,_,_,_,hy,_⟩:=hy
    exact⟨_,_,hx,hy,jK 9999 _ kE⟩
  · rename_i e1 e2
    rw[e1] at hx;rw[e2] at hy
    simp only[al] at hx hy
    simp only[Option.some.injEq] at hb;subst hb
    obtain⟨_,_,_,hy,_⟩:=hy
    exact⟨_,_,hx,hy,jK 9999 _ kE⟩
  · rename_i e1 e2
    rw[e1] at hx;rw[e2] at hy
    simp only[al] at hx hy
    simp only[Option.some.injEq] at hb;subst hb
    obtain⟨_,_,_,_,_,_,hx,_⟩:=hx
    exact⟨_,_,hx,hy,nc 9999 _ kE⟩
  · rename_i e1 e2
    rw[e1] at hx;rw[e2] at hy
    simp only[al] at hx hy
    simp only[Option.some.injEq] at hb;subst hb
    obtain⟨_,_,_,hx,_⟩:=hx
    exact⟨_,_,hx,hy,nc 9999 _ kE⟩
  · rename_i i z e0 i' z' Ya e1 e2
    rw[e1] at hx;rw[e2] at hy
    simp only[al] at hx hy
    split at hb<;>simp only[Option.some.injEq,reduceCtorEq] at hb
    rename_i hz
    obtain⟨rfl,MP⟩:=hz
    subst hb
    obtain⟨_,_,_,hx,_⟩:=hx
    obtain⟨_,_,_,hy,_⟩:=hy
    refine⟨_,_,hx,hy,?_⟩
    have hq: (X.tok.2+i*z+0==X.tok.2+i'*z+0)=(i==i'):=by
     rw[Bool.eq_iff_iff]
     simp only[beq_iff_eq]
     constructor
     · intro h
       have:i*z=i'*z:=by omega
       exact Nat.eq_of_mul_eq_mul_right MP this
     · rintro rfl;rfl
    exact(uG 9999 kE va Ts).trans (by rw[hq])
  · simp at hb
 obtain⟨p,q,hp,hq,heq⟩:=key
 refine⟨rfl,aM (val:= .bool (b !=neg)) hr.bd ?_ (by simp[al])⟩
 simp only[execOp,ho,hp,hq]
 refine cq ?_
 subst hn
 rcases dX with rfl| rfl<;>simp[eqGuard,Go.binOp,Sem.run_bind,heq,gI]
theorem PY {op:UnOp} {t:TypeId} {x:Operand} {x':aT} (hr:Rel X T a μ) (ho:o.op= .unOp op t x) (h1:cZ X x=some x')
  (aj: (av E (.un op x')).run C ⟨T,μ.O⟩=some (v,σ')):σ'.T=T∧cM X o a μ σ'.O v:=by
 simp only[av,bD] at aj
 obtain⟨hb,rfl⟩:=dI aj
 have hx:=aS hr h1 μ.O
 have: ∃val,(Op.unary op (a.eval x)).run X.P μ.w= .ok val μ.w∧al X μ v val:=by
  unfold zW at hb
  split at hb
  · rename_i k n e
    simp at hb;subst hb
    rw[e] at hx;simp only[al] at hx
    exact⟨.int k (k.wrap (0 - n)),by simp[hx,Op.unary,Op.intArith],by simp[al]⟩
  · rename_i b e
    simp at hb;subst hb
    rw[e] at hx;simp only[al] at hx
    exact⟨.bool (!b),by simp[hx,Op.unary],by simp[al]⟩
  · rename_i k n e
    simp only[j6,Option.some.injEq] at hb;subst hb
    rw[e] at hx;simp only[al] at hx
    exact⟨_,by simp[hx,Op.unary,Op.intBits];rfl,by simp[al]⟩
  · simp at hb
 obtain⟨val,h2,h3⟩:=this
 refine⟨rfl,aM hr.bd ?_ h3⟩
 simp only[execOp,ho]
 exact cq h2
theorem AQ {s d:TypeId} {x:Operand} {x':aT} {k k0:IntKind} (hr:Rel X T a μ) (ho:o.op= .convert s d x) (hs:bq X s=some (.int k0)) (hd:bq X d=some (.int k))
   (h1:cZ X x=some x') (aj: (av E (.j7 k x')).run C ⟨T,μ.O⟩=some (v,σ')):σ'.T=T∧cM X o a μ σ'.O v:=by
 simp only[av,bD] at aj
 have hx:=aS hr h1 μ.O
 split at aj
 · rename_i k1 n1 e
   obtain⟨rfl,rfl⟩:=aX aj
   rw[e] at hx;simp only[al] at hx
   refine⟨rfl,aM (val:= .int k (k.wrap n1)) hr.bd ?_ (by simp[al])⟩
   simp only[execOp,ho]
   refine cq ?_
   simp[convert,Sem.run_bind,run_underlying hs,run_underlying hd,hx,Conv.intToInt]
 · exact absurd aj au
theorem Dn {s d:TypeId} {x:Operand} {x':aT} {k0:IntKind} (hr:Rel X T a μ) (ho:o.op= .convert s d x) (hs:bq X s=some (.int k0)) (hd:bq X d=some (.float .f64))
   (h1:cZ X x=some x') (aj: (av E (.rD x')).run C ⟨T,μ.O⟩=some (v,σ')):σ'.T=T∧cM X o a μ σ'.O v:=by
 simp only[av,bD] at aj
 have hx:=aS hr h1 μ.O
 split at aj
 · rename_i k1 n1 e
   obtain⟨rfl,rfl⟩:=aX aj
   rw[e] at hx;simp only[al] at hx
   refine⟨rfl,aM (val:= .float .f64 (FloatKind.f64.nearest n1)) hr.bd ?_ (by simp[al])⟩
   simp only[execOp,ho]
   refine cq ?_
   simp[convert,Sem.run_bind,run_underlying hs,run_underlying hd,hx,Conv.intToFloat]
 · exact absurd aj au
theorem Dp {s d:TypeId} {x:Operand} {x':aT} {k:IntKind} (hr:Rel X T a μ) (ho:o.op= .convert s d x) (hs:bq X s=some (.float .f64)) (hd:bq X d=some (.int k))
   (h1:cZ X x=some x') (aj: (av E (.rE k x')).run C ⟨T,μ.O⟩=some (v,σ')):σ'.T=T∧cM X o a μ σ'.O v:=by
 simp only[av,bD] at aj
 have hx:=aS hr h1 μ.O
 split at aj
 · rename_i b e
   split at aj
   · rename_i n hn
     split at aj
     · rename_i hle
       obtain⟨rfl,rfl⟩:=aX aj
       rw[e] at hx;simp only[al] at hx
       refine⟨rfl,aM (val:= .int k n) hr.bd ?_ (by simp[al])⟩
       simp only[execOp,ho]
       refine cq ?_
       simp[convert,Sem.run_bind,run_underlying hs,run_underlying hd,hx,Conv.floatToInt,hn,hle]
     · exact absurd aj au
   · exact absurd aj au
 · exact absurd aj au
theorem AR {s d:TypeId} {x:Operand} {x':aT} (hr:Rel X T a μ) (ho:o.op= .convert s d x) (hs:bq X s=some .string) (hd:bq X d=some .string)
   (h1:cZ X x=some x') (aj: (av E (.qh x')).run C ⟨T,μ.O⟩=some (v,σ')):σ'.T=T∧cM X o a μ σ'.O v:=by
 simp only[av,bD] at aj
 have hx:=aS hr h1 μ.O
 split at aj
 · rename_i b e
   obtain⟨rfl,rfl⟩:=aX aj
   rw[e] at hx;simp only[al] at hx
   obtain⟨bs,AS,rfl⟩:=hx
   refine⟨rfl,aM (val:= .string bs) hr.bd ?_ (by simp[al])⟩
   simp only[execOp,ho]
   refine cq ?_
   simp[convert,Sem.run_bind,run_underlying hs,run_underlying hd,AS]
 · exact absurd aj au
theorem eA {c:Call} {b:Builtin} {val:Value} {w w':World} (ho:o.op= .call c) (hc:c.callee= .builtin b)
  (h: (builtin b c.argTypes o.type (c.args.map fun| .const _=>true| _=>false) (c.args.map a.eval)).run X.P w= .ok (.value val) w'):
  (execOp a.eval o).run X.P w= .ok (.value val) w':=by
 simp only[execOp,ho,resolve,hc,Sem.run_bind,Sem.run_pure,Result.andThen_ok,invoke]
 exact h
theorem LY {c:Call} {x:Operand} {t e:TypeId} {x':aT} (hr:Rel X T a μ) (ho:o.op= .call c) (hc:c.callee= .builtin .len) (ha:c.args= #[x]) (ht:c.argTypes= #[t])
  (hd:bq X t=some (.slice e)) (h1:cZ X x=some x') (aj: (av E (.len x')).run C ⟨T,μ.O⟩=some (v,σ')):
  σ'.T=T∧cM X o a μ σ'.O v:=by
 simp only[av,bD] at aj
 obtain⟨hb,rfl⟩:=dI aj
 have hx:=aS hr h1 μ.O
 have key: ∃n:Nat,(Builtin.len_ #[t] o.type #[a.eval x]).run X.P μ.w= .ok (goInt n) μ.w∧v= .int .i64 n:=by
  cases hy:bn ⟨T,μ.O⟩ x'<;>rw[hy] at hb hx<;>simp[oz] at hb
  · simp only[al] at hx
    obtain⟨p,hp⟩:=hx
    exact⟨0,by simp[Builtin.len_,Sem.run_bind,run_underlying hd,hp],hb.symm⟩
  · simp only[al] at hx
    obtain⟨_,_,p,cap,vs,hp,_⟩:=hx
    exact⟨_,by simp[Builtin.len_,Sem.run_bind,run_underlying hd,hp],hb.symm⟩
  · simp only[al] at hx
    obtain⟨p,cap,hp,_⟩:=hx
    exact⟨_,by simp[Builtin.len_,Sem.run_bind,run_underlying hd,hp],hb.symm⟩
  · simp only[al] at hx
    obtain⟨_,_,p,cap,vs,hp,_⟩:=hx
    exact⟨_,by simp[Builtin.len_,Sem.run_bind,run_underlying hd,hp],hb.symm⟩
 obtain⟨n,h2,rfl⟩:=key
 refine⟨rfl,aM (val:=goInt n) hr.bd ?_ (by simp[al,goInt])⟩
 refine eA ho hc ?_
 simp only[builtin,ha,ht]
 refine cq ?_
 simpa using h2
theorem Dr {c:Call} {x:Operand} {t:TypeId} {x':aT} (hr:Rel X T a μ) (ho:o.op= .call c) (hc:c.callee= .builtin .len) (ha:c.args= #[x]) (ht:c.argTypes= #[t])
   (hd:bq X t=some .string) (h1:cZ X x=some x') (aj: (av E (.tU x')).run C ⟨T,μ.O⟩=some (v,σ')):
   σ'.T=T∧cM X o a μ σ'.O v:=by
 simp only[av,bD] at aj
 have hx:=aS hr h1 μ.O
 split at aj
 · rename_i s e
   obtain⟨rfl,rfl⟩:=aX aj
   rw[e] at hx;simp only[al] at hx
   obtain⟨bs,AS,rfl⟩:=hx
   refine⟨rfl,aM (val:=goInt bs.size) hr.bd ?_ (by simp only[al,goInt];rw[Array.length_toList];rfl)⟩
   refine eA ho hc ?_
   simp only[builtin,ha,ht]
   refine cq ?_
   simp[Builtin.len_,Sem.run_bind,run_underlying hd,AS]
 · exact absurd aj au
theorem Dt {c:Call} {x:Operand} {t e:TypeId} {n:Nat} (hr:Rel X T a μ) (ho:o.op= .call c) (hc:c.callee= .builtin .len) (ha:c.args= #[x]) (ht:c.argTypes= #[t])
  (hd:bq X t=some (.array n e)) (aj: (av E (.move (.const (.int .i64 n)))).run C ⟨T,μ.O⟩=some (v,σ')):
  σ'.T=T∧cM X o a μ σ'.O v:=by
 simp only[av,bD,bn] at aj
 obtain⟨rfl,rfl⟩:=aX aj
 refine⟨rfl,aM (val:=goInt n) hr.bd ?_ (by simp[al,goInt])⟩
 refine eA ho hc ?_
 simp only[builtin,ha,ht]
 refine cq ?_
 simp[Builtin.len_,Sem.run_bind,run_underlying hd]
theorem wi {w:World}: ∀ {xs:List V} {x:V} {u:V} {xv:Value} {vs:List Value},al X μ x xv→ak X μ xs vs→gQ min2 (x::xs)=some u→
   ∃val,(vs.foldlM Builtin.min2 xv).run X.P w= .ok val w∧al X μ u val
 | [],x,u,xv,[],hx,_,h=>by simp[gQ,gq] at h;subst h;exact⟨xv,by simp,hx⟩
 | [],_,_,_,_::_,_,hv,_=>by simp[ak] at hv
 | _::_,_,_,_,[],_,hv,_=>by simp[ak] at hv
 | y::ys,x,u,xv,yv::vs,hx,hv,h=>by
   simp only[ak] at hv
   simp only[gQ,gq] at h
   split at h
   · rename_i z hz
     have: ∃zv,(Builtin.min2 xv yv).run X.P w= .ok zv w∧al X μ z zv:=by
      unfold min2 at hz
      split at hz
      · split at hz<;>simp at hz
        rename_i hk;subst hk;subst hz
        have h1:=hv.1
        simp only[al] at hx h1
        subst hx;subst h1
        exact⟨_,by simp[Builtin.min2];rfl,by simp[al]⟩
      · simp at hz
     obtain⟨zv,h1,h2⟩:=this
     obtain⟨val,h3,h4⟩:=wi (w:=w) h2 hv.2 h
     exact⟨val,by simp[List.foldlM_cons,Sem.run_bind,h1,h3],h4⟩
   · simp at h
theorem wj {w:World}: ∀ {xs:List V} {x:V} {u:V} {xv:Value} {vs:List Value},al X μ x xv→ak X μ xs vs→gQ max2 (x::xs)=some u→
   ∃val,(vs.foldlM Builtin.max2 xv).run X.P w= .ok val w∧al X μ u val
 | [],x,u,xv,[],hx,_,h=>by simp[gQ,gq] at h;subst h;exact⟨xv,by simp,hx⟩
 | [],_,_,_,_::_,_,hv,_=>by simp[ak] at hv
 | _::_,_,_,_,[],_,hv,_=>by simp[ak] at hv
 | y::ys,x,u,xv,yv::vs,hx,hv,h=>by
   simp only[ak] at hv
   simp only[gQ,gq] at h
   split at h
   · rename_i z hz
     have: ∃zv,(Builtin.max2 xv yv).run X.P w= .ok zv w∧al X μ z zv:=by
      unfold max2 at hz
      split at hz
      · split at hz<;>simp at hz
        rename_i hk;subst hk;subst hz
        have h1:=hv.1
        simp only[al] at hx h1
        subst hx;subst h1
        exact⟨_,by simp[Builtin.max2];rfl,by simp[al]⟩
      · simp at hz
     obtain⟨zv,h1,h2⟩:=this
     obtain⟨val,h3,h4⟩:=wj (w:=w) h2 hv.2 h
     exact⟨val,by simp[List.foldlM_cons,Sem.run_bind,h1,h3],h4⟩
   · simp at h
theorem LZ {c:Call} {xs:List aT} (hr:Rel X T a μ) (ho:o.op= .call c) (hc:c.callee= .builtin .min) (h1:qC X c.args.toList=some xs)
   (aj: (av E (.min xs)).run C ⟨T,μ.O⟩=some (v,σ')):σ'.T=T∧cM X o a μ σ'.O v:=by
 simp only[av,qI] at aj
 obtain⟨hb,rfl⟩:=dI aj
 have hx:=qJ hr μ.O h1
 generalize hq:xs.map (bn ⟨T,μ.O⟩)=us at hb hx
 generalize hp:c.args.toList.map a.eval=vs at hx
 match us,vs,hx,hb with
 | [],_,_,hb=>simp[gQ,gq] at hb
 | u::us,[],hx,_=>simp[ak] at hx
 | u::us,y::vs,hx,hb=>
   simp only[ak] at hx
   obtain⟨val,h2,h3⟩:=wi (w:=μ.w) hx.1 hx.2 hb
   refine⟨rfl,aM (val:=val) hr.bd (eA ho hc ?_) h3⟩
   simp only[builtin]
   refine cq ?_
   simp only[Builtin.min_,Array.toList_map,hp]
   exact h2
theorem L0 {c:Call} {xs:List aT} (hr:Rel X T a μ) (ho:o.op= .call c) (hc:c.callee= .builtin .max) (h1:qC X c.args.toList=some xs)
   (aj: (av E (.max xs)).run C ⟨T,μ.O⟩=some (v,σ')):σ'.T=T∧cM X o a μ σ'.O v:=by
 simp only[av,qI] at aj
 obtain⟨hb,rfl⟩:=dI aj
 have hx:=qJ hr μ.O h1
 generalize hq:xs.map (bn ⟨T,μ.O⟩)=us at hb hx
 generalize hp:c.args.toList.map a.eval=vs at hx
 match us,vs,hx,hb with
 | [],_,_,hb=>simp[gQ,gq] at hb
 | u::us,[],hx,_=>simp[ak] at hx
 | u::us,y::vs,hx,hb=>
   simp only[ak] at hx
   obtain⟨val,h2,h3⟩:=wj (w:=μ.w) hx.1 hx.2 hb
   refine⟨rfl,aM (val:=val) hr.bd (eA ho hc ?_) h3⟩
   simp only[builtin]
   refine cq ?_
   simp only[Builtin.max_,Array.toList_map,hp]
   exact h2
end
end Go.AM
namespace Go.AM
open Go Go.RowKit
theorem fj (b q n:Nat): (⟨b,q,none⟩:Addr).add n=⟨b,q+n,none⟩:=by unfold Addr.add;split<;>simp_all
theorem nd: ∀ {xs:List V} {i:Nat} {x:V},V.aq xs=true→xs[i]? =some x→V.aE x=true
 | [],_,_,_,h=>by simp at h
 | y::ys,0,x,hp,h=>by simp[V.aq] at hp;simp at h;rw[←h];exact hp.1
 | y::ys,i+1,x,hp,h=>by simp[V.aq] at hp;simp at h;exact nd hp.2 h
theorem qM: ∀ {xs:List V} (n:Nat),V.aq xs=true→V.aq (xs.take n)=true
 | _,0,_=>by simp[V.aq]
 | [],n+1,_=>by simp[V.aq]
 | y::ys,n+1,h=>by simp[V.aq] at h ⊢;exact⟨h.1,qM n h.2⟩
theorem qN: ∀ {xs:List V} (n:Nat),V.aq xs=true→V.aq (xs.drop n)=true
 | _,0,h=>by simpa using h
 | [],n+1,_=>by simp[V.aq]
 | y::ys,n+1,h=>by simp[V.aq] at h;simpa using qN n h.2
theorem jr {p:V→Bool} {xs:List V} (n:Nat) (h:xs.all p=true): (xs.take n).all p=true:=by
 simp only[List.all_eq_true] at h ⊢
 exact fun x hx=>h x (List.mem_of_mem_take hx)
theorem kN {p:V→Bool} {xs:List V} (n:Nat) (h:xs.all p=true): (xs.drop n).all p=true:=by
 simp only[List.all_eq_true] at h ⊢
 exact fun x hx=>h x (List.mem_of_mem_drop hx)
theorem dW.drop {w:World} {b off sz:Nat} {vs:List Value} (h:dW w b off sz vs) (n:Nat):dW w b (off+n*sz) sz (vs.drop n):=by
 intro i v hv
 simp only[List.getElem?_drop] at hv
 obtain⟨h1,h2⟩:=h (n+i) v hv
 refine⟨h1,fun j c hc=> ?_⟩
 rw[←h2 j c hc]
 congr 2
 rw[Nat.add_mul];omega
theorem dW.take {w:World} {b off sz:Nat} {vs:List Value} (h:dW w b off sz vs) (n:Nat):dW w b off sz (vs.take n):=by
 intro i v hv
 rw[List.getElem?_take] at hv
 split at hv
 · exact h i v hv
 · simp at hv
section
variable {X:Ctx} {E:Env} {C:bl} {o:Oper} {a:Go.Act} {T:Nat→V} {μ:Mu} {v:V} {σ':St}
theorem oi {t:TypeId} {e u:V} {x:Value} {off sz:Nat} {agg:Bool} {w:World} {b q:Nat} (hx:al X μ e x) (hp:part agg off sz e=some u)
   (hg:jg X t=some agg) (hn:bI X t=some sz) (hm: ∀j c,x.cells[j]? =some c→w.cell? ⟨b,q+j,none⟩=some c):
   ∃val,(loadVar t ⟨b,q+off,none⟩).run X.P w= .ok val w∧al X μ u val:=by
 cases agg with
 | true=>
   obtain⟨cs,rfl,hle,hv⟩:=lQ hx hp
   refine⟨_,?_,hv⟩
   have hl: (cs.extract off (off+sz)).toList.length=sz:=by simp;omega
   have:=run_loadCells_list (P:=X.P) w ⟨b,q+off,none⟩ (cs.extract off (off+sz)).toList (fun j c hc=>by
    rw[fj]
    have zL:cs[off+j]? =some c:=by
     rw[Array.toList_extract,List.extract_eq_take_drop,List.getElem?_take] at hc
     split at hc
     · simpa using hc
     · simp at hc
    have:=hm (off+j) c (by simpa [Value.cells] using zL)
    rwa [←Nat.add_assoc] at this)
   rw[hl,Array.toArray_toList] at this
   simp[loadVar,Sem.run_bind,oh hg,di hn,this]
 | false=>
   obtain⟨_,c,hc,hv⟩:=kz hx hp
   refine⟨c,?_,hv⟩
   have:=hm off c hc
   simp[loadVar,Sem.run_bind,oh hg,this]
theorem yT (ho:br X μ) {r idx:Nat} {es:List V} {e:V} (bQ: (μ.O r).es=some es) (he:es[idx]? =some e) (h0:0 < (μ.O r).sz):
   ∃x,al X μ e x∧(μ.φ r).cap≠0∧ ∀j c,x.cells[j]? =some c→μ.w.cell? ⟨(μ.φ r).cO,(μ.φ r).base+idx*(μ.O r).sz+j,none⟩=some c:=by
 obtain⟨_,h2,_,h4⟩:=ho.row r es bQ h0
 have bk:idx<es.length:=(List.getElem?_eq_some_iff.1 he).1
 have hc: (μ.φ r).cap≠0:=by omega
 rcases h4 with h4| ⟨c,T',vs,_,_,hv,dL⟩
 · exact absurd h4 hc
 · obtain⟨x,hx,hr⟩:=hv.get he
   exact⟨x,hr,hc,(dL idx x hx).2⟩
theorem B0 {t:TypeId} {x:Operand} {x':aT} {agg:Bool} {sz:Nat} (hr:Rel X T a μ) (ho:o.op= .load t x) (h1:cZ X x=some x') (hg:jg X t=some agg) (hn:bI X t=some sz)
   (aj: (av E (.load agg sz x')).run C ⟨T,μ.O⟩=some (v,σ')):σ'.T=T∧cM X o a μ σ'.O v:=by
 simp only[av,bD] at aj
 have hx:=aS hr h1 μ.O
 have fin: ∀ (p:Addr),a.eval x= .pointer (some p)→ ∀val,(loadVar t p).run X.P μ.w= .ok val μ.w→(execOp a.eval o).run X.P μ.w= .ok (.value val) μ.w:=fun p hp val hv=>by
   simp only[execOp,ho]
   refine cq ?_
   simp[Instr.loadAt,Instr.sureAddr,Sem.run_bind,hp,hv]
 split at aj
 · rename_i r g idx off e
   simp only[Act.run] at aj
   split at aj
   · rename_i es bQ
     split at aj
     · rename_i cD
       split at aj
       · rename_i el sm
         obtain⟨hp,rfl⟩:=dI aj
         rw[e] at hx
         simp only[al] at hx
         obtain⟨p,IW,_,cK⟩:=hx
         obtain⟨xv,sA,_,jL⟩:=yT hr.bd bQ sm (cK cD).1
         obtain⟨val,hl,bV⟩:=oi sA hp hg hn jL
         refine⟨rfl,aM hr.bd (fin p IW val ?_) bV⟩
         rw[(cK cD).2];exact hl
       · exact absurd aj au
     · exact absurd aj au
   · exact absurd aj au
 · rename_i el off e
   obtain⟨hp,rfl⟩:=dI aj
   rw[e] at hx
   simp only[al] at hx
   obtain⟨_,_,b,q,sz',xv,IW,_,_,sA,dL⟩:=hx
   obtain⟨val,hl,bV⟩:=oi (w:=μ.w) (b:=b) (q:=q) sA hp hg hn (fun j c hc=>by simpa using (dL 0 xv (by simp)).2 j c hc)
   exact⟨rfl,aM hr.bd (fin _ IW val hl) bV⟩
 · rename_i i z el off e
   obtain⟨hp,rfl⟩:=dI aj
   rw[e] at hx
   simp only[al] at hx
   obtain⟨_,_,xv,IW,_,_,sA,dL⟩:=hx
   obtain⟨val,hl,bV⟩:=oi (w:=μ.w) (b:=X.tok.1) (q:=X.tok.2+i*z) sA hp hg hn (fun j c hc=>by simpa using (dL 0 xv (by simp)).2 j c hc)
   exact⟨rfl,aM hr.bd (fin _ IW val hl) bV⟩
 · exact absurd aj au
theorem Du {ks:List Nat} {agg:Bool} {sz:Nat} {x:aT} {σ:St} (h: (av E (.oI ks agg sz x)).run C σ=some (v,σ')): ∃v0,(av E (.load agg sz x)).run C σ=some (v0,σ')∧v=AM.zM ks v0:=by
 simp only[av,bD] at h ⊢
 have fin: ∀ (p:Option V),(c8 (p.map (AM.zM ks))).run C σ=some (v,σ')→ ∃v0,(c8 p).run C σ=some (v0,σ')∧v=AM.zM ks v0:=by
   intro p hp
   cases p with
   | none=>exact absurd hp au
   | some v0=>
     obtain⟨h1,h2⟩:=dI hp
     simp only[Option.map_some,Option.some.injEq] at h1
     exact⟨v0,by simp only[c8,Act.run,h2],h1.symm⟩
 split at h
 · rename_i r g idx off e
   simp only[Act.run] at h ⊢
   split at h
   · rename_i es bQ
     split at h
     · rename_i hg
       split at h
       · rename_i el sm
         rw[if_pos hg]
         exact fin _ h
       · exact absurd h au
     · exact absurd h au
   · exact absurd h au
 · exact fin _ h
 · exact fin _ h
 · exact absurd h au
theorem Fw {t:TypeId} {x:Operand} {x':aT} {agg:Bool} {sz:Nat} (ks:List Nat) (hr:Rel X T a μ) (ho:o.op= .load t x) (h1:cZ X x=some x') (hg:jg X t=some agg) (hn:bI X t=some sz)
  (aj: (av E (.oI ks agg sz x')).run C ⟨T,μ.O⟩=some (v,σ')):σ'.T=T∧cM X o a μ σ'.O v:=by
 obtain⟨v0,h2,rfl⟩:=Du aj
 obtain⟨h3,val,w',φ',h4,h5,h6,h7⟩:=B0 hr ho h1 hg hn h2
 exact⟨h3,val,w',φ',h4,al.zM ks h5,h6,h7⟩
theorem xn { t e:TypeId} {x i:Operand} {x' i':aT} {sz:Nat} (hr:Rel X T a μ) (ho:o.op= .indexAddr t x i) (hd:bq X t=some (.slice e)) (hn:bI X e=some sz)
   (h1:cZ X x=some x') (h2:cZ X i=some i') (aj: (av E (.indexAddr sz x' i')).run C ⟨T,μ.O⟩=some (v,σ')):σ'.T=T∧cM X o a μ σ'.O v:=by
 simp only[av,bD] at aj
 have hx:=aS hr h1 μ.O
 have hi:=aS hr h2 μ.O
 have fin: ∀ (p:Addr) (len cap:Nat) (k:IntKind) (n:Int),a.eval x= .slice (some p) len cap→a.eval i= .int k n→0≤n→n<len→
     (execOp a.eval o).run X.P μ.w= .ok (.value (.pointer (some (p.add (n.toNat*sz))))) μ.w:=fun p len cap k n hp hq Tt PZ=>by
   simp only[execOp,ho]
   refine cq ?_
   simp[Instr.indexAt,Sem.run_bind,hp,hq,asIntOf,run_underlying hd,Tt,PZ,di hn]
 split at aj
 · rename_i r g off len k n e1 e2
   simp only[Act.run] at aj
   split at aj
   · rename_i hc
     obtain⟨rfl,rfl⟩:=aX aj
     rw[e1] at hx;rw[e2] at hi
     simp only[al] at hx hi
     obtain⟨p,cap,hp,MQ,wk,cK⟩:=hx
     obtain⟨q0,q1,q2⟩:=cK hc.2.2.2
     have ed:cap≠0:=by omega
     have wo:=q2.resolve_left ed
     rw[wo] at hp
     refine⟨rfl,aM hr.bd (fin _ len cap k n hp hi hc.1 hc.2.1) ?_⟩
     simp only[al]
     refine⟨_,rfl,wk,fun _=> ⟨q0,?_⟩⟩
     rw[fj,hc.2.2.1]
     simp only[Addr.mk.injEq,true_and,and_true]
     rw[Nat.add_mul];omega
   · exact absurd aj au
 · rename_i sz' xs k n e1 e2
   split at aj
   · rename_i hc
     split at aj
     · rename_i el sm
       obtain⟨rfl,rfl⟩:=aX aj
       rw[e1] at hx;rw[e2] at hi
       simp only[al] at hx hi
       obtain⟨mF,gS,p,cap,vs,hp,MQ,rU,jL⟩:=hx
       have bk:n.toNat<xs.length:=(List.getElem?_eq_some_iff.1 sm).1
       rcases jL with jL| ⟨b,q,P0,kf,AS,dL⟩
       · subst jL;simp at bk
       · rw[P0] at hp
         obtain⟨xv,sA,bV⟩:=rU.get sm
         refine⟨rfl,aM hr.bd (fin _ xs.length cap k n hp hi hc.1 (by omega)) ?_⟩
         simp only[al]
         refine⟨nd mF sm,?_,b,q+n.toNat*sz,sz,xv,by rw[fj];simp,kf,AS,bV,?_⟩
         · simp only[List.all_eq_true] at gS
           exact gS el (List.mem_of_getElem? sm)
         · have:=(dL.drop n.toNat).take 1
           rw[hc.2] at this
           have Dl: (vs.drop n.toNat).take 1=[xv]:=by
            have C9:n.toNat<vs.length:=(List.getElem?_eq_some_iff.1 sA).1
            rw[List.drop_eq_getElem_cons C9,List.take_succ_cons,List.take_zero]
            rw[List.getElem?_eq_getElem C9] at sA
            injection sA with sA;rw[sA]
           rwa [Dl] at this
     · exact absurd aj au
   · exact absurd aj au
 · rename_i sz' xs k n e1 e2
   split at aj
   · rename_i hc
     split at aj
     · rename_i el sm
       obtain⟨rfl,rfl⟩:=aX aj
       rw[e1] at hx;rw[e2] at hi
       simp only[al] at hx hi
       obtain⟨mF,gS,p,cap,vs,hp,MQ,rU,jL⟩:=hx
       have bk:n.toNat<xs.length:=(List.getElem?_eq_some_iff.1 sm).1
       rcases jL with jL| ⟨P0,kf,AS,dL⟩
       · subst jL;simp at bk
       · rw[P0] at hp
         obtain⟨xv,sA,bV⟩:=rU.get sm
         refine⟨rfl,aM hr.bd (fin _ xs.length cap k n hp hi hc.1 (by omega)) ?_⟩
         simp only[al]
         refine⟨nd mF sm,?_,xv,by rw[fj];simp,kf,AS,bV,?_⟩
         · simp only[List.all_eq_true] at gS
           exact gS el (List.mem_of_getElem? sm)
         · have:=(dL.drop n.toNat).take 1
           rw[hc.2.1] at this
           have Dl: (vs.drop n.toNat).take 1=[xv]:=by
            have C9:n.toNat<vs.length:=(List.getElem?_eq_some_iff.1 sA).1
            rw[List.drop_eq_getElem_cons C9,List.take_succ_cons,List.take_zero]
            rw[List.getElem?_eq_getElem C9] at sA
            injection sA with sA;rw[sA]
           rwa [Dl] at this
     · exact absurd aj au
   · exact absurd aj au
 · exact absurd aj au
theorem yU {t e:TypeId} {x i:Operand} {x' i':aT} {n sz:Nat} (hr:Rel X T a μ) (ho:o.op= .indexAddr t x i) (hd:bq X t=some (.array n e)) (hn:bI X e=some sz)
   (h1:cZ X x=some x') (h2:cZ X i=some i') (aj: (av E (.bE n sz x' i')).run C ⟨T,μ.O⟩=some (v,σ')):σ'.T=T∧cM X o a μ σ'.O v:=by
 simp only[av,bD] at aj
 have hx:=aS hr h1 μ.O
 have hi:=aS hr h2 μ.O
 have fin: ∀ (p:Addr) (k:IntKind) (j:Int),a.eval x= .pointer (some p)→a.eval i= .int k j→0≤j→j<n→
     (execOp a.eval o).run X.P μ.w= .ok (.value (.pointer (some (p.add (j.toNat*sz))))) μ.w:=fun p k j hp hq Tt PZ=>by
   simp only[execOp,ho]
   refine cq ?_
   simp[Instr.indexAt,Sem.run_bind,hp,hq,asIntOf,run_underlying hd,Tt,PZ,di hn,Instr.sureAddr]
 split at aj
 · rename_i r g idx off k j e1 e2
   split at aj
   · rename_i hc
     obtain⟨rfl,rfl⟩:=aX aj
     rw[e1] at hx;rw[e2] at hi
     simp only[al] at hx hi
     obtain⟨p,hp,wk,cK⟩:=hx
     refine⟨rfl,aM hr.bd (fin p k j hp hi hc.1 hc.2) ?_⟩
     simp only[al]
     refine⟨_,rfl,wk,fun hg=> ⟨(cK hg).1,?_⟩⟩
     rw[(cK hg).2,fj];simp[Nat.add_assoc]
   · exact absurd aj au
 · rename_i el off k j e1 e2
   split at aj
   · rename_i hc
     obtain⟨rfl,rfl⟩:=aX aj
     rw[e1] at hx;rw[e2] at hi
     simp only[al] at hx hi
     obtain⟨R5,zO,b,q,sz',xv,hp,yR⟩:=hx
     refine⟨rfl,aM hr.bd (fin _ k j hp hi hc.1 hc.2) ?_⟩
     simp only[al]
     exact⟨R5,zO,b,q,sz',xv,by rw[fj];simp[Nat.add_assoc],yR⟩
   · exact absurd aj au
 · exact absurd aj au
theorem yV {t:TypeId} {x i:Operand} {x' i':aT} (hr:Rel X T a μ) (ho:o.op= .index t x i) (hd:bq X t=some .string)
   (h1:cZ X x=some x') (h2:cZ X i=some i') (aj: (av E (.mQ x' i')).run C ⟨T,μ.O⟩=some (v,σ')):σ'.T=T∧cM X o a μ σ'.O v:=by
 simp only[av,bD] at aj
 have hx:=aS hr h1 μ.O
 have hi:=aS hr h2 μ.O
 split at aj
 · rename_i s k n e1 e2
   split at aj
   · rename_i hc
     split at aj
     · rename_i b hb
       obtain⟨rfl,rfl⟩:=aX aj
       rw[e1] at hx;rw[e2] at hi
       simp only[al] at hx hi
       obtain⟨bs,AS,rfl⟩:=hx
       refine⟨rfl,aM (val:= .int .u8 b.toNat) hr.bd ?_ (by simp[al])⟩
       simp only[execOp,ho]
       refine cq ?_
       have pR:bs[n.toNat]? =some b:=by
        have bk:=(List.getElem?_eq_some_iff.1 hb).1
        have hv:=(List.getElem?_eq_some_iff.1 hb).2
        have cP:n.toNat<bs.size:=by rw[Array.length_toList] at bk;exact bk
        rw[getElem?_pos bs n.toNat cP]
        congr 1
       simp[Instr.index,Sem.run_bind,AS,hi,asIntOf,run_underlying hd,hc,pR]
     · exact absurd aj au
   · exact absurd aj au
 · exact absurd aj au
theorem yW {t e:TypeId} {x i:Operand} {x' i':aT} {agg:Bool} {n sz:Nat} (hr:Rel X T a μ) (ho:o.op= .index t x i) (hd:bq X t=some (.array n e)) (hg:jg X e=some agg)
   (hn:bI X e=some sz) (h1:cZ X x=some x') (h2:cZ X i=some i') (aj: (av E (.mR agg n sz x' i')).run C ⟨T,μ.O⟩=some (v,σ')):σ'.T=T∧cM X o a μ σ'.O v:=by
 simp only[av,bD] at aj
 have hx:=aS hr h1 μ.O
 have hi:=aS hr h2 μ.O
 split at aj
 · rename_i k j e2
   split at aj
   · rename_i hc
     obtain⟨hp,rfl⟩:=dI aj
     rw[e2] at hi
     simp only[al] at hi
     cases hy:bn ⟨T,μ.O⟩ x'<;>rw[hy] at hc hx hp<;>simp[V.isAgg] at hc
     cases agg with
     | true=>
       obtain⟨cs,dk,hle,hv⟩:=lQ hx hp
       refine⟨rfl,aM hr.bd ?_ hv⟩
       simp only[execOp,ho]
       refine cq ?_
       simp[Instr.index,Sem.run_bind,dk,hi,asIntOf,run_underlying hd,hc,di hn,qK hg hn]
     | false=>
       obtain⟨_,c,GR,hv⟩:=kz hx hp
       simp only[al] at hx
       obtain⟨_,cs,dk,_⟩:=hx
       rw[dk] at GR
       refine⟨rfl,aM hr.bd ?_ hv⟩
       simp only[execOp,ho]
       refine cq ?_
       simp[Instr.index,Sem.run_bind,dk,hi,asIntOf,run_underlying hd,hc,di hn,kA hg cs _ c (by simpa [Value.cells] using GR)]
   · exact absurd aj au
 · exact absurd aj au
end
end Go.AM
namespace Go.AM
open Go Go.RowKit
def HW (X:Ctx) (μ:Mu) (x:Option V) (v:Option Value):Prop:=(x=none∧v=none)∨ ∃x' v',x=some x'∧v=some v'∧al X μ x' v'
theorem kP {X:Ctx} {μ:Mu} {T:Nat→V} {a:Go.Act} {x:Option Operand} {y:Option aT} (hr:Rel X T a μ) (h:rQ X x=some y) (O:Nat→Obj):
  HW X μ (y.map (bn ⟨T,O⟩)) (x.map a.eval):=by
 rcases Fu hr h O with⟨rfl,rfl⟩ | ⟨x',y',rfl,rfl,bV⟩
 · exact .inl ⟨rfl,rfl⟩
 · exact .inr ⟨_,_,rfl,rfl,bV⟩
section
variable {X:Ctx} {E:Env} {C:bl} {o:Oper} {a:Go.Act} {T:Nat→V} {μ:Mu} {v:V} {σ':St}
theorem run_sliceBound {d l y:Nat} {x:V} {xv:Value} {code:BoundsCode} {w:World} (h:al X μ x xv) (hb:bM d (some x)=some l) (hle:l≤y):
  (Instr.sliceBound xv y code).run X.P w= .ok l w:=by
 cases x<;>simp[bM] at hb
 obtain⟨h0,rfl⟩:=hb
 simp only[al] at h
 subst h
 rename_i k n
 have:n≤(y:Int):=by omega
 simp[Instr.sliceBound,asIntOf,Sem.run_bind,h0,this]
theorem fy {isSlice:Bool} {len cap l h:Nat} {lo hi:Option V} {MR MS:Option Value} {w:World} (h1:HW X μ lo MR) (h2:HW X μ hi MS)
   (hl:bM 0 lo=some l) (hh:bM len hi=some h) (MT:l≤h) (ed:h≤cap):
   (Instr.sliceBounds isSlice len cap MR MS none).run X.P w= .ok (l,h,cap) w:=by
 rcases h1 with⟨rfl,rfl⟩ | ⟨lx,lv,rfl,rfl,R6⟩ <;>rcases h2 with⟨rfl,rfl⟩ | ⟨hx,hv,rfl,rfl,U6⟩
 · simp[bM] at hl hh;subst hl;subst hh
   simp[Instr.sliceBounds,Sem.run_bind]
 · simp[bM] at hl;subst hl
   simp[Instr.sliceBounds,Sem.run_bind,run_sliceBound U6 hh ed]
 · have U7:=hh
   simp[bM] at U7;subst U7
   simp[Instr.sliceBounds,Sem.run_bind,run_sliceBound R6 hl MT]
 · simp[Instr.sliceBounds,Sem.run_bind,run_sliceBound R6 hl MT,run_sliceBound U6 hh ed]
theorem ie {isSlice:Bool} {len cap l h m:Nat} {lo:Option V} {hi mx:V} {MR:Option Value} {MS Tu:Value} {w:World} (h1:HW X μ lo MR) (h2:al X μ hi MS) (h3:al X μ mx Tu)
   (hl:bM 0 lo=some l) (hh:bM len (some hi)=some h) (hm:bM 0 (some mx)=some m) (MT:l≤h) (U8:h≤m) (ed:m≤cap):
   (Instr.sliceBounds isSlice len cap MR (some MS) (some Tu)).run X.P w= .ok (l,h,m) w:=by
 rcases h1 with⟨rfl,rfl⟩ | ⟨lx,lv,rfl,rfl,R6⟩
 · simp[bM] at hl;subst hl
   simp[Instr.sliceBounds,Sem.run_bind,run_sliceBound h3 hm ed,run_sliceBound h2 hh U8]
 · simp[Instr.sliceBounds,Sem.run_bind,run_sliceBound h3 hm ed,run_sliceBound h2 hh U8,run_sliceBound R6 hl MT]
theorem yX {t:TypeId} {x:Operand} {lo hi:Option Operand} {x':aT} {IX xP:Option aT} (hr:Rel X T a μ) (ho:o.op= .slice t x lo hi none) (hd:bq X t=some .string)
   (h1:cZ X x=some x') (h2:rQ X lo=some IX) (h3:rQ X hi=some xP) (aj: (av E (.jC x' IX xP)).run C ⟨T,μ.O⟩=some (v,σ')):σ'.T=T∧cM X o a μ σ'.O v:=by
 simp only[av,bD,BY] at aj
 obtain⟨hb,rfl⟩:=dI aj
 have hx:=aS hr h1 μ.O
 cases hy:bn ⟨T,μ.O⟩ x'<;>rw[hy] at hb hx<;>simp only[eP,reduceCtorEq] at hb
 rename_i s
 split at hb
 · rename_i l h hl hh
   split at hb<;>simp at hb
   rename_i hle
   subst hb
   simp only[al] at hx
   obtain⟨bs,AS,U9⟩:=hx
   have cP:s.length=bs.size:=by rw[←U9,Array.length_toList];rfl
   have Tv:=fy (isSlice:=false) (len:=bs.size) (cap:=bs.size) (w:=μ.w) (kP hr h2 μ.O) (kP hr h3 μ.O) hl (by rw[←cP];exact hh) hle.1 (by omega)
   refine⟨rfl,aM (val:= .string (bs.extract l h)) hr.bd ?_ ?_⟩
   · simp only[execOp,ho]
     refine cq ?_
     have kE:X.P.underlying t=some .string:=hd
     simp only[Instr.sliceAt,Sem.run_bind,run_underlying kE,Result.andThen_ok,Instr.slice,AS]
     have hn: (Option.map a.eval (none:Option Operand))=none:=rfl
     simp only[hn,Option.isSome_none,Bool.false_eq_true,if_false,Sem.run_bind,Tv,Result.andThen_ok,Sem.run_pure]
   · simp only[al]
     refine⟨_,rfl,?_⟩
     rw[ByteArray.data_extract,Array.toList_extract,List.extract_eq_take_drop,U9]
 · simp at hb
theorem Fy {     t e:TypeId} {x:Operand} {lo hi mx:Option Operand} {x':aT} {IX xP R7:Option aT} {sz:Nat} (hr:Rel X T a μ) (ho:o.op= .slice t x lo hi mx) (hd:bq X t=some (.slice e))
   (hn:bI X e=some sz) (h1:cZ X x=some x') (h2:rQ X lo=some IX) (h3:rQ X hi=some xP) (h4:rQ X mx=some R7)
   (aj: (av E (.slice sz x' IX xP R7)).run C ⟨T,μ.O⟩=some (v,σ')):σ'.T=T∧cM X o a μ σ'.O v:=by
 simp only[av,bD,BY] at aj
 have hx:=aS hr h1 μ.O
 have rl:=kP hr h2 μ.O
 have rh:=kP hr h3 μ.O
 have rm:=kP hr h4 μ.O
 generalize IX.map (bn ⟨T,μ.O⟩)=MR at aj rl
 generalize xP.map (bn ⟨T,μ.O⟩)=MS at aj rh
 generalize R7.map (bn ⟨T,μ.O⟩)=Tu at aj rm
 have kE:X.P.underlying t=some (.slice e):=hd
 have fin: ∀ (p:Option Addr) (len cap l h m:Nat),a.eval x= .slice p len cap→(Instr.sliceBounds true len cap (lo.map a.eval) (hi.map a.eval) (mx.map a.eval)).run X.P μ.w= .ok (l,h,m) μ.w→
     (execOp a.eval o).run X.P μ.w= .ok (.value (.slice (if m=l then p else p.map (·.add (l*sz))) (h - l) (m - l))) μ.w:=fun p len cap l h m hp hb=>by
   simp only[execOp,ho]
   refine cq ?_
   simp only[Instr.sliceAt,Sem.run_bind,run_underlying kE,Result.andThen_ok,Instr.slice,hp,hb,di hn,Sem.run_pure]
 split at aj
 · rename_i r g off len ey
   rw[ey] at hx
   simp only[al] at hx
   obtain⟨p,cap,hp,MQ,wk,cK⟩:=hx
   simp only[Act.run] at aj
   split at aj
   · rename_i es bQ
     split at aj
     · rename_i yY
       obtain⟨q0,q1,q2⟩:=cK yY.1
       have Tw:es.length≤(μ.φ r).cap:=(hr.bd.row r es bQ q0).2.1
       split at aj
       ·
         rename_i _ l h hl hh
         split at aj
         · rename_i hle
           obtain⟨rfl,rfl⟩:=aX aj
           have rK:mx.map a.eval=none:=by
             rcases rm with⟨h5,h6⟩ | ⟨_,_,h5,_⟩
             · exact h6
             · cases h5
           have hb:=fy (isSlice:=true) (len:=len) (cap:=cap) (w:=μ.w) rl rh hl hh hle.1 (by omega)
           refine⟨rfl,aM hr.bd (fin p len cap l h cap hp (by rw[rK];exact hb)) ?_⟩
           simp only[al]
           refine⟨_,_,rfl,by omega,wk,fun _=> ⟨q0,by omega,?_⟩⟩
           by_cases mG:cap=l
           · left;omega
           · right
             rw[if_neg mG]
             have:cap≠0:=by omega
             rw[q2.resolve_left this,Option.map_some,fj,yY.2]
             congr 2
             rw[Nat.add_mul];omega
         · exact absurd aj au
       ·
         rename_i _ l h' m hl hh
         split at aj
         · rename_i _ _ h m' IY
           split at aj
           · rename_i hle
             obtain⟨rfl,rfl⟩:=aX aj
             rcases rm with⟨h5,_⟩ | ⟨Va,P1,h5,h6,yZ⟩
             · cases h5
             · injection h5 with h5;subst h5
               rcases rh with⟨h7,_⟩ | ⟨Vb,P2,h7,h8,y0⟩
               · cases h7
               · injection h7 with h7;subst h7
                 have hb:=ie (isSlice:=true) (len:=len) (cap:=cap) (w:=μ.w) rl y0 yZ hl hh IY hle.1 hle.2.1 (by omega)
                 refine⟨rfl,aM hr.bd (fin p len cap l h' m' hp (by rw[h6,h8];exact hb)) ?_⟩
                 split
                 · rename_i C7
                   simp only[al]
                   have e1:h' - l=0:=by omega
                   have e2:m' - l=0:=by omega
                   exact⟨_,by rw[e1,e2]⟩
                 · simp[al]
           · exact absurd aj au
         · exact absurd aj au
       · exact absurd aj au
     · exact absurd aj au
   · exact absurd aj au
 · obtain⟨ xo,rfl⟩:=dI aj
   refine⟨rfl,?_⟩
   generalize bn ⟨T,μ.O⟩ x'=y at xo hx
   cases y<;>simp only[jw,reduceCtorEq] at xo
   ·
     simp only[al] at hx
     obtain⟨p,hp⟩:=hx
     split at xo
     · rename_i l h m hl hh hm
       split at xo<;>simp at xo
       rename_i hle
       subst xo
       have e1:l=0:=by omega
       have e2:h=0:=by omega
       have e3:m=0:=by omega
       subst e1;subst e2;subst e3
       have hb: ∃m',(Instr.sliceBounds true 0 0 (lo.map a.eval) (hi.map a.eval) (mx.map a.eval)).run X.P μ.w= .ok (0,0,m') μ.w∧m'=0:=by
         rcases rm with⟨rfl,h6⟩ | ⟨Va,P1,rfl,h6,yZ⟩
         · rw[h6];exact⟨_,fy (isSlice:=true) (len:=0) (cap:=0) (w:=μ.w) rl rh hl hh (Nat.le_refl _) (Nat.le_refl _),rfl⟩
         · rcases rh with⟨rfl,h8⟩ | ⟨Vb,P2,rfl,h8,y0⟩
           · simp at hle
           · rw[h6,h8];exact⟨_,ie (isSlice:=true) (len:=0) (cap:=0) (w:=μ.w) rl y0 yZ hl hh hm (Nat.le_refl _) (Nat.le_refl _) (Nat.le_refl _),rfl⟩
       obtain⟨m',hb,rfl⟩:=hb
       refine aM hr.bd (fin p 0 0 0 0 0 hp hb) ?_
       simp[al]
     · simp at xo
   ·
     rename_i sz' xs
     simp only[al] at hx
     obtain⟨mF,gS,p,cap,vs,hp,MQ,rU,jL⟩:=hx
     split at xo
     · rename_i P3
       subst P3
       split at xo
       · rename_i l h hl hh
         split at xo<;>simp at xo
         rename_i hle
         subst xo
         obtain⟨_,rK⟩: (none:Option V)=none∧mx.map a.eval=none:=by
           rcases rm with⟨h5,h6⟩ | ⟨_,_,h5,_⟩
           · exact⟨rfl,h6⟩
           · cases h5
         have hb:=fy (isSlice:=true) (len:=xs.length) (cap:=cap) (w:=μ.w) rl rh hl hh hle.1 (by omega)
         refine aM hr.bd (fin p xs.length cap l h cap hp (by rw[rK];exact hb)) ?_
         have nZ: (aO xs l (h - l)).length=h - l:=by simp[aO];omega
         simp only[al]
         refine⟨qM _ (qN _ mF),jr _ (kN _ gS),_,_,(vs.drop l).take (h - l),by rw[nZ],by rw[nZ];omega,ak.take _ (ak.drop _ rU),?_⟩
         by_cases MT:l=h
         · left;simp[aO,MT]
         · right
           rcases jL with jL| ⟨b,q,P0,kf,AS,dL⟩
           · subst jL;simp at hle;omega
           · have: ¬cap=l:=by omega
             rw[if_neg this,P0,Option.map_some,fj]
             exact⟨b,q+l*sz',rfl,kf,AS,(dL.drop l).take _⟩
       · rename_i l h m hl hh
         split at xo
         · rename_i Yb m' IY
           split at xo<;>simp at xo
           rename_i hle
           subst xo
           rcases rm with⟨h5,_⟩ | ⟨Va,P1,h5,h6,yZ⟩
           · cases h5
           · injection h5 with h5;subst h5
             rcases rh with⟨h7,_⟩ | ⟨Vb,P2,h7,h8,y0⟩
             · cases h7
             · injection h7 with h7;subst h7
               have hb:=ie (isSlice:=true) (len:=xs.length) (cap:=cap) (w:=μ.w) rl y0 yZ hl hh IY hle.1 hle.2.1 (by omega)
               refine aM hr.bd (fin p xs.length cap l h m' hp (by rw[h6,h8];exact hb)) ?_
               split
               · simp only[al]
                 have e1:h - l=0:=by omega
                 have e2:m' - l=0:=by omega
                 exact⟨_,by rw[e1,e2]⟩
               · simp[al]
         · simp at xo
       · simp at xo
     · simp at xo
end
end Go.AM
namespace Go.AM
open Go Go.RowKit
def cS {α:Type} (L:List α) (p:Nat) (m:List α):List α:=L.take p++m++L.drop (p+m.length)
theorem eR {α:Type} {L m:List α} {p:Nat} (h:p+m.length≤L.length): (cS L p m).length=L.length:=by
 simp[cS];omega
theorem eH {α:Type} {L m:List α} {p:Nat} (h:p+m.length≤L.length) (q:Nat):
   (cS L p m)[q]? =if q<p then L[q]? else if q<p+m.length then m[q - p]? else L[q]? :=by
 unfold cS
 rw[List.append_assoc,List.getElem?_append]
 have hl: (L.take p).length=p:=by simp;omega
 rw[hl]
 split
 · rename_i hq
   rw[List.getElem?_take];simp[hq]
 · rename_i hq
   rw[List.getElem?_append]
   split
   · rename_i hm
     rw[if_pos (by omega)]
   · rename_i hm
     rw[if_neg (by omega),List.getElem?_drop]
     congr 1;omega
def dz (c:List Value) (base sz:Nat) (vs:List Value):Prop:=
 ∀i v,vs[i]? =some v→v.cells.size=sz∧ ∀j x,v.cells[j]? =some x→c[base+i*sz+j]? =some x
def flat (us:List Value):List Value:=us.flatMap fun v=>v.cells.toList
theorem gh {us:List Value} {sz:Nat} (h: ∀v ∈ us,v.cells.size=sz): (flat us).length=us.length*sz:=by
 induction us with
 | nil=>simp[flat]
 | cons u us ih=>
   have h1:=h u (by simp)
   have h2:=ih fun v hv=>h v (by simp[hv])
   simp only[flat,List.flatMap_cons,List.length_append,List.length_cons] at h2 ⊢
   rw[h2,Array.length_toList,h1,Nat.add_mul];omega
theorem qO {us:List Value} {sz:Nat} (h: ∀v ∈ us,v.cells.size=sz) {i j:Nat} {v x:Value} (hv:us[i]? =some v) (hx:v.cells[j]? =some x):
   (flat us)[i*sz+j]? =some x:=by
 induction us generalizing i with
 | nil=>simp at hv
 | cons u us ih=>
   have h1:=h u (by simp)
   simp only[flat,List.flatMap_cons]
   cases i with
   | zero=>
     simp at hv;subst hv
     have hj:j<u.cells.size:=(Array.getElem?_eq_some_iff.1 hx).1
     rw[List.getElem?_append_left (by rw[Array.length_toList];omega)]
     simpa using hx
   | succ i=>
     simp at hv
     have:=ih (fun v hv=>h v (by simp[hv])) hv
     rw[List.getElem?_append_right (by rw[Array.length_toList,h1,Nat.add_mul];omega)]
     rw[Array.length_toList,h1]
     have e: (i+1)*sz+j - sz=i*sz+j:=by rw[Nat.add_mul];omega
     rw[e];exact this
theorem tB {sz i j k:Nat} (hj:j<sz) (vz:i<k):i*sz+j<k*sz:=by
 have: (i+1)*sz≤k*sz:=Nat.mul_le_mul_right _ (by omega)
 rw[Nat.add_mul] at this;omega
theorem xp {sz i j k:Nat} (vz:k≤i):k*sz≤i*sz+j:=by
 have:k*sz≤i*sz:=Nat.mul_le_mul_right _ vz
 omega
theorem dz.write {c:List Value} {base sz k:Nat} {vs us:List Value} (h:dz c base sz vs) (hk:k≤vs.length) (Fz: ∀v ∈ us,v.cells.size=sz)
   (oN:base+k*sz+us.length*sz≤c.length):
   dz (cS c (base+k*sz) (flat us)) base sz (vs.take k++us++vs.drop (k+us.length)):=by
 have y6:=gh Fz
 intro i v hv
 have bk: (vs.take k).length=k:=by simp;omega
 rw[List.append_assoc,List.getElem?_append,bk] at hv
 split at hv
 · rename_i hi
   rw[List.getElem?_take] at hv
   simp only[hi,if_true] at hv
   obtain⟨h1,h2⟩:=h i v hv
   refine⟨h1,fun j x hx=> ?_⟩
   have hj:j<sz:=h1 ▸ (Array.getElem?_eq_some_iff.1 hx).1
   rw[eH (by rw[y6];omega),if_pos (by have:=tB hj hi;omega)]
   exact h2 j x hx
 · rename_i hi
   rw[List.getElem?_append] at hv
   split at hv
   · rename_i Dk
     have Vc:=List.mem_of_getElem? hv
     refine⟨Fz v Vc,fun j x hx=> ?_⟩
     have hj:j<sz:=Fz v Vc ▸ (Array.getElem?_eq_some_iff.1 hx).1
     have wk:=xp (sz:=sz) (j:=j) (show k≤i by omega)
     have fS:=tB (k:=k+us.length) hj (show i<k+us.length by omega)
     rw[Nat.add_mul] at fS
     rw[eH (by rw[y6];omega),if_neg (by omega),if_pos (by rw[y6];omega)]
     have e:base+i*sz+j - (base+k*sz)=(i - k)*sz+j:=by
      rw[Nat.sub_mul]
      have:=Nat.mul_le_mul_right sz (show k≤i by omega)
      omega
     rw[e]
     exact qO Fz hv hx
   · rename_i Dk
     rw[List.getElem?_drop] at hv
     have e:k+us.length+(i - k - us.length)=i:=by omega
     rw[e] at hv
     obtain⟨h1,h2⟩:=h i v hv
     refine⟨h1,fun j x hx=> ?_⟩
     have wk:=xp (sz:=sz) (j:=j) (show k+us.length≤i by omega)
     rw[Nat.add_mul] at wk
     rw[eH (by rw[y6];omega),if_neg (by omega),if_neg (by rw[y6];omega)]
     exact h2 j x hx
theorem dz.take {c:List Value} {base sz:Nat} {vs:List Value} (h:dz c base sz vs) (n:Nat):dz c base sz (vs.take n):=by
 intro i v hv
 rw[List.getElem?_take] at hv
 split at hv
 · exact h i v hv
 · simp at hv
theorem dz.drop {c:List Value} {base sz:Nat} {vs:List Value} (h:dz c base sz vs) (n:Nat):dz c (base+n*sz) sz (vs.drop n):=by
 intro i v hv
 rw[List.getElem?_drop] at hv
 obtain⟨h1,h2⟩:=h (n+i) v hv
 refine⟨h1,fun j x hx=> ?_⟩
 rw[←h2 j x hx,Nat.add_mul]
 congr 1;omega
theorem dz.put {c:List Value} {base sz idx off:Nat} {vs m:List Value} {x x':Value} (h:dz c base sz vs) (hx:vs[idx]? =some x)
   (oN:base+(idx+1)*sz≤c.length) (hm:off+m.length≤sz) (BI:x'.cells.toList=cS x.cells.toList off m):
   dz (cS c (base+idx*sz+off) m) base sz (vs.set idx x'):=by
 have cP:=(h idx x hx).1
 rw[Nat.add_mul] at oN
 have gO:base+idx*sz+off+m.length≤c.length:=by omega
 have vg:off+m.length≤x.cells.toList.length:=by have:x.cells.toList.length=x.cells.size:=Array.length_toList;omega
 intro i v hv
 rw[List.getElem?_set] at hv
 split at hv
 · rename_i e;subst e
   have bk:idx<vs.length:=(List.getElem?_eq_some_iff.1 hx).1
   simp only[bk,if_true,Option.some.injEq] at hv
   subst hv
   have HX:x'.cells.size=sz:=by rw[←Array.length_toList,BI,eR vg,Array.length_toList];exact cP
   refine⟨HX,fun j y hy=> ?_⟩
   have hj:j<sz:=HX ▸ (Array.getElem?_eq_some_iff.1 hy).1
   have GF: (cS x.cells.toList off m)[j]? =some y:=by rw[←BI];simpa using hy
   rw[eH vg] at GF
   rw[eH gO]
   have e2:base+idx*sz+j - (base+idx*sz+off)=j - off:=by omega
   split at GF
   · rw[if_pos (by omega)]
     exact(h idx x hx).2 j y (by simpa using GF)
   · split at GF
     · rw[if_neg (by omega),if_pos (by omega),e2];exact GF
     · rw[if_neg (by omega),if_neg (by omega)]
       exact(h idx x hx).2 j y (by simpa using GF)
 · rename_i cT
   obtain⟨h1,h2⟩:=h i v hv
   refine⟨h1,fun j y hy=> ?_⟩
   have hj:j<sz:=h1 ▸ (Array.getElem?_eq_some_iff.1 hy).1
   rw[eH gO]
   by_cases bk:i<idx
   · have:=tB hj bk
     rw[if_pos (by omega)];exact h2 j y hy
   · have:=xp (sz:=sz) (j:=j) (show idx+1≤i by omega)
     rw[Nat.add_mul] at this
     rw[if_neg (by omega),if_neg (by omega)];exact h2 j y hy
theorem iy {w:World} {b base sz:Nat} {vs:List Value} {c:Array Value} {T:TypeId} {fr:Nat×Nat} (hb:w.heap[b]? =some (.cells c T fr))
  (h:dW w b base sz vs):dz c.toList base sz vs:=by
 intro i v hv
 obtain⟨h1,h2⟩:=h.Fl hb i v hv
 exact⟨h1,fun j x hx=>by simpa using h2 j x hx⟩
theorem rV {P:Program} {w:World} {b q sz n:Nat} {vs:List Value} (h:dW w b q sz vs) (hn:n≤vs.length):
  (loadCells ⟨b,q,none⟩ (n*sz)).run P w= .ok (flat (vs.take n)).toArray w:=by
 have hs: ∀v ∈ vs.take n,v.cells.size=sz:=fun v hv=>by
  obtain⟨i,hi⟩:=List.getElem?_of_mem (List.mem_of_mem_take hv)
  exact(h i v hi).1
 have hl: (flat (vs.take n)).length=n*sz:=by rw[gh hs,List.length_take,Nat.min_eq_left hn]
 rw[←hl]
 refine run_loadCells_list w ⟨b,q,none⟩ _ fun p x hx=> ?_
 rw[fj]
 have hp:p<n*sz:=by rw[←hl];exact(List.getElem?_eq_some_iff.1 hx).1
 have cP:0 <sz:=by
  rcases Nat.eq_zero_or_pos sz with e| e
  · subst e;simp at hp
  · exact e
 have hi:p / sz<n:=Nat.div_lt_of_lt_mul (by rw[Nat.mul_comm];exact hp)
 have wo:p / sz*sz+p % sz=p:=by rw[Nat.mul_comm];exact Nat.div_add_mod p sz
 have Tx:p / sz<vs.length:=by omega
 have hv:vs[p / sz]? =some vs[p / sz]:=List.getElem?_eq_getElem Tx
 have Wx: (vs.take n)[p / sz]? =some vs[p / sz]:=by rw[List.getElem?_take];simp[hi,hv]
 obtain⟨h1,h2⟩:=h _ _ hv
 have hm:p % sz< (vs[p / sz]).cells.size:=by rw[h1];exact Nat.mod_lt _ cP
 have hc: (vs[p / sz]).cells[p % sz]? =some (vs[p / sz]).cells[p % sz]:=Array.getElem?_eq_getElem hm
 have g1:=qO hs Wx hc
 rw[wo,hx] at g1
 injection g1 with g1
 have g2:=h2 _ _ hc
 rw[Nat.add_assoc,wo,←g1] at g2
 exact g2
end Go.AM
namespace Go.AM
open Go Go.RowKit
theorem cn {v:V} {sz:Nat} (h:aQ v sz=true):v.dh=true∧v.cells.length=sz:=by
 simp[aQ] at h;exact⟨h.2,h.1⟩
theorem gL {X:Ctx} {t:TypeId} {z:V} (h:ez X t=some z) (w:World): ∃zv,(zeroValue t).run X.P w= .ok zv w∧uu zv=some z:=by
 simp only[ez,info,Option.bind_eq_some_iff] at h
 obtain⟨i,h1,zv,h2,h3⟩:=h
 exact⟨zv,by simp[zeroValue,Sem.run_bind,run_typeInfo w h1,h2],h3⟩
theorem ak.rW {X:Ctx} {μ:Mu} {ys:List V} {us:List Value} {sz:Nat} (h:ak X μ ys us) (hb:ys.all (aQ · sz)=true):
   (∀u ∈ us,u.cells.size=sz)∧ ∀c ∈ flat us,c.oneCell'=true:=by
 have hh: ∀u ∈ us,∃y,y ∈ ys∧al X μ y u:=fun u hu=>by
   obtain⟨i,hi⟩:=List.getElem?_of_mem hu
   have bk:i<ys.length:=by rw[h.length];exact(List.getElem?_eq_some_iff.1 hi).1
   obtain⟨u',h1,h2⟩:=h.get (List.getElem?_eq_getElem bk)
   rw[hi] at h1;injection h1 with h1;subst h1
   exact⟨_,List.getElem_mem bk,h2⟩
 simp only[List.all_eq_true] at hb
 refine⟨fun u hu=> ?_,fun c hc=> ?_⟩
 · obtain⟨y,hy,hr⟩:=hh u hu
   obtain⟨h1,h2⟩:=cn (hb y hy)
   rw[hr.eb h1,h2]
 · simp only[flat,List.mem_flatMap] at hc
   obtain⟨u,hu,Wy⟩:=hc
   obtain⟨y,hy,hr⟩:=hh u hu
   obtain⟨h1,h2⟩:=cn (hb y hy)
   obtain⟨j,hj⟩:=List.getElem?_of_mem Wy
   have dk:=hr.cells h1
   have bk:j<y.cells.length:=by rw[dk.length];exact(List.getElem?_eq_some_iff.1 hj).1
   obtain⟨u',g1,g2⟩:=dk.get (List.getElem?_eq_getElem bk)
   rw[hj] at g1;injection g1 with g1;subst g1
   have IZ:=hr.ji h1
   simp only[List.all_eq_true] at IZ
   exact(g2.lO (IZ _ (List.getElem_mem bk))).1
theorem iz {P:Program} {w:World} {g q:Nat} {cur:Array Value} {T:TypeId} (hg:w.heap[g]? =some (.cells cur T (0,0))) (m:List Value) (hl:q+m.length≤cur.size)
  (h1: ∀v ∈ m,v.oneCell'=true): (storeCells ⟨g,q,none⟩ m).run P w= .ok () (w.setRow g (cS cur.toList q m).toArray):=by
 have:=run_storeCells_at (P:=P) g q T m 0 cur w hg (by simpa using hl) h1
 simpa [cS] using this
section
variable {X:Ctx} {E:Env} {C:bl} {o:Oper} {a:Go.Act} {T:Nat→V} {μ:Mu} {v:V} {σ':St}
theorem y7 (hr:Rel X T a μ) {r sz:Nat} {arr:Bool} {es:List V} {vs:List Value} {c:Array Value} {t:TypeId} {val:Value} (cP:0 <sz) (cap:Nat)
  (ed:es.length≤cap) (lP:es.all (aQ · sz)=true) (bV:ak X μ es vs) (hc:cap*sz≤c.size) (dL:dz c.toList 0 sz vs)
  (aj: (execOp a.eval o).run X.P μ.w= .ok (.value val) (μ.w.alloc (.cells c t (0,0))))
  (hv:let μ':Mu:=⟨μ.w.alloc (.cells c t (0,0)),dm μ.φ r ⟨μ.w.heap.size,0,cap⟩,dm μ.O r {gen:=(μ.O r).gen+1,sz:=sz,arr:=arr,fz:=false,es:=some es}⟩;al X μ' v val):
  cM X o a μ (dm μ.O r {gen:=(μ.O r).gen+1,sz:=sz,arr:=arr,fz:=false,es:=some es}) v:=by
 obtain⟨h1,h2⟩:=xl (X:=X) hr.bd r sz cap arr (es:=es) (vs:=vs) (c:=c) t cP ed lP bV hc (fun i u hu=>by
  obtain⟨k1,k2⟩:=dL i u hu
  exact⟨k1,fun j x hx=>by simpa using k2 j x hx⟩)
 exact⟨val,_,_,.inl aj,hv,h1,h2⟩
theorem AT {x:Value}:dz x.cells.toList 0 x.cells.size [x]:=by
 intro i v hv
 cases i with
 | zero=>simp at hv;subst hv;exact⟨rfl,fun j y hy=>by simpa using hy⟩
 | succ i=>simp at hv
theorem FA {t:TypeId} {x':aT} {r sz:Nat} {xv:Value} (hr:Rel X T a μ) (hx:al X μ (bn ⟨T,μ.O⟩ x') xv)
   (P4: (execOp a.eval o).run X.P μ.w= .ok (.value (.pointer (some ⟨μ.w.heap.size,0,none⟩))) (μ.w.alloc (.cells xv.cells t (0,0))))
   (aj: (av E (.new r sz x')).run C ⟨T,μ.O⟩=some (v,σ')):σ'.T=T∧cM X o a μ σ'.O v:=by
 simp only[av,bD] at aj
 split at aj
 · rename_i hb
   simp only[Bool.and_eq_true,decide_eq_true_eq] at hb
   simp only[Act.run,Option.some.injEq,Prod.mk.injEq] at aj
   obtain⟨rfl,rfl⟩:=aj
   obtain⟨hl,mG⟩:=cn hb.1
   have cP:xv.cells.size=sz:=by rw[hx.eb hl,mG]
   refine⟨rfl,y7 hr (cap:=1) (es:=[bn ⟨T,μ.O⟩ x']) (vs:=[xv]) (c:=xv.cells) hb.2 (by simp) (by simp[hb.1]) (by simp[ak,hx]) (by omega) (cP ▸ AT) P4 ?_⟩
   simp only[al,aD]
   exact⟨_,rfl,Nat.le_refl _,fun _=> ⟨hb.2,by simp⟩⟩
 · exact absurd aj au
theorem FB {t:TypeId} {r sz:Nat} {z:V} (ks:List Nat) (hr:Rel X T a μ) (ho:o.op= .alloc t) (hz:ez X t=some z)
  (aj: (av E (.new r sz (.const (zM ks z)))).run C ⟨T,μ.O⟩=some (v,σ')):σ'.T=T∧cM X o a μ σ'.O v:=by
 obtain⟨zv,h1,h2⟩:=gL hz μ.w
 refine FA (t:=t) (xv:=zv) hr (al.zM ks (eG h2).1) ?_ aj
 simp only[execOp,ho]
 refine cq ?_
 simp[Instr.alloc,Sem.run_bind,h1,newVar,newRow]
theorem L1 {t:TypeId} {r sz:Nat} {x:Operand} {x':aT} (ks:List Nat) (hr:Rel X T a μ) (ho:o.op= .box t x) (h1:cZ X x=some x')
  (aj: (av E (.new r sz (IT ks x'))).run C ⟨T,μ.O⟩=some (v,σ')):σ'.T=T∧cM X o a μ σ'.O v:=by
 refine FA (t:=t) (xv:=a.eval x) hr (al.IT ks (aS hr h1 μ.O)) ?_ aj
 simp only[execOp,ho]
 refine cq ?_
 simp[Instr.box,Sem.run_bind,newVar,newRow]
theorem sB {zv:Value} {sz n:Nat} (hz:zv.cells.size=sz):
  ((Array.range (n*sz)).map (fun i=>zv.cells[i % zv.cells.size]!)).size=n*sz∧
    dz ((Array.range (n*sz)).map (fun i=>zv.cells[i % zv.cells.size]!)).toList 0 sz (List.replicate n zv):=by
 refine⟨by simp,fun i v hv=> ?_⟩
 rw[List.getElem?_replicate] at hv
 split at hv<;>simp at hv
 rename_i hi
 subst hv
 refine⟨hz,fun j x hx=> ?_⟩
 have hj:j<sz:=hz ▸ (Array.getElem?_eq_some_iff.1 hx).1
 have bk:=tB hj hi
 have hm: (i*sz+j) % sz=j:=by rw[Nat.mul_comm,Nat.mul_add_mod];exact Nat.mod_eq_of_lt hj
 have hr: (Array.range (n*sz))[i*sz+j]? =some (i*sz+j):=by simp[bk]
 simp only[Nat.zero_add,Array.toList_map,List.getElem?_map]
 rw[Array.getElem?_toList,hr]
 simp only[Option.map_some,hz,hm]
 rw[getElem!_def,hx]
theorem ak.replicate {z:V} {zv:Value} (h:al X μ z zv): ∀n,ak X μ (List.replicate n z) (List.replicate n zv)
 | 0=>by simp[ak]
 | n+1=>by simp only[List.replicate_succ,ak];exact⟨h,ak.replicate h n⟩
theorem xq {t e:TypeId} {x y:Operand} {x' y':aT} {r sz:Nat} {i:TypeInfo} {z:V} (hr:Rel X T a μ) (ho:o.op= .makeSlice t x y) (hd:bq X t=some (.slice e)) (hn:bI X e=some sz)
   (hi:info X e=some i) (hz:ez X e=some z) (h1:cZ X x=some x') (h2:cZ X y=some y')
   (aj: (av E (.makeSlice r sz i.bytes z x' y')).run C ⟨T,μ.O⟩=some (v,σ')):σ'.T=T∧cM X o a μ σ'.O v:=by
 simp only[av,bD] at aj
 have hx:=aS hr h1 μ.O
 have hy:=aS hr h2 μ.O
 split at aj
 · rename_i k n k' m e1 e2
   split at aj
   · rename_i hc
     obtain⟨AE,BK,MU,Ed,Wz,Yc⟩:=hc
     simp only[Act.run,Option.some.injEq,Prod.mk.injEq] at aj
     obtain⟨rfl,rfl⟩:=aj
     rw[e1] at hx;rw[e2] at hy
     simp only[al] at hx hy
     obtain⟨zv,vh,wq⟩:=gL hz μ.w
     obtain⟨uH,FC⟩:=eG (X:=X) (μ:=μ) wq
     have FD:zv.cells.size=sz:=by rw[uH.eb FC,(cn Ed).2]
     obtain⟨Ty,uq⟩:=sB (n:=m.toNat) FD
     have Ps:IntKind.i64.wrap n=n:=IntWalk.i64_in _ (by omega)
     have zN:IntKind.i64.wrap m=m:=IntWalk.i64_in _ (by omega)
     have Eb:X.P.underlying t=some (.slice e):=hd
     have WA:X.P.info? e=some i:=hi
     have LI: ¬ (((decide (m< 0) || decide ((i.bytes:Int)*m >2 ^ 48)) || decide (n< 0) || decide (n >m))=true):=by
       simp only[Bool.or_eq_true,decide_eq_true_eq,not_or]
       have: (i.bytes:Int)*m=m*i.bytes:=Int.mul_comm _ _
       have Yd: (2:Int) ^ 48=281474976710656:=by decide
       refine⟨⟨⟨by omega,by omega⟩,by omega⟩,by omega⟩
     refine⟨rfl,y7 hr (cap:=m.toNat) (es:=List.replicate m.toNat z) (vs:=List.replicate m.toNat zv) (val:= .slice (some ⟨μ.w.heap.size,0,none⟩) n.toNat m.toNat) Wz (by simp) ?_ (ak.replicate uH _) (by rw[Ty];exact Nat.le_refl _) uq (t:=e) ?_ ?_⟩
     · simp only[List.all_eq_true,List.mem_replicate]
       rintro q ⟨_,rfl⟩;exact Ed
     · simp only[execOp,ho]
       refine cq ?_
       simp only[Instr.makeSlice,Sem.run_bind,run_underlying Eb,Result.andThen_ok,hx,hy,asInt,asIntOf,Sem.run_pure,run_typeInfo μ.w WA,Ps,zN]
       rw[if_neg LI]
       simp only[Sem.run_bind,run_askRoom,Result.andThen_ok,di hn]
       by_cases EW:m.toNat*sz=0
       · rw[if_pos EW]
         simp only[Sem.run_pure,Result.andThen_ok,newRow,Sem.run_bind,run_newObj]
         have Tz:Array.range 0= #[]:=rfl
         rw[EW,Tz]
         simp
       · rw[if_neg EW]
         simp only[Sem.run_bind,vh,Result.andThen_ok,Sem.run_pure,newRow,run_newObj]
         simp
     · simp only[al,aD]
       exact⟨_,_,rfl,by omega,Nat.le_refl _,fun _=> ⟨by omega,by simp,by simp⟩⟩
   · exact absurd aj au
 · exact absurd aj au
theorem oQ {      c:V} {k:V→Act} {val:Value} {O:Nat→Obj} {p:V×St} (ho:br X ⟨μ.w,μ.φ,O⟩) (hv:al X ⟨μ.w,μ.φ,O⟩ c val) (aj: (cm c k).run C ⟨T,O⟩=some p):
   ∃c' O',(k c').run C ⟨T,O'⟩=some p∧al X ⟨μ.w,μ.φ,O'⟩ c' val∧Le ⟨μ.w,μ.φ,O⟩ ⟨μ.w,μ.φ,O'⟩∧br X ⟨μ.w,μ.φ,O'⟩∧(c.aN=true→c'.aN=true):=by
 have same: (cm c k).run C ⟨T,O⟩=(k c).run C ⟨T,O⟩→_:=fun e=> (⟨c,O,e ▸ aj,hv,Le.refl _,ho,id⟩: ∃c' O',(k c').run C ⟨T,O'⟩=some p∧al X ⟨μ.w,μ.φ,O'⟩ c' val∧Le ⟨μ.w,μ.φ,O⟩ ⟨μ.w,μ.φ,O'⟩∧br X ⟨μ.w,μ.φ,O'⟩∧(c.aN=true→c'.aN=true))
 cases c with
 | mp r g=>
   simp only[cm,Act.run] at aj
   split at aj
   · rename_i es bQ
     split at aj
     · rename_i hc
       obtain⟨AE,BK,MU,Ed⟩:=hc
       simp only[Act.run] at aj
       obtain⟨le,vm⟩:=pF (μ:=⟨μ.w,μ.φ,O⟩) ho r
       refine⟨_,_,aj,?_,le,vm,fun _=>rfl⟩
       simp only[al] at hv
       obtain⟨a,rfl,h1,h2⟩:=hv
       obtain⟨k0,rfl⟩:=h2 AE
       have uI:=vm.ents r es (by simp[aD,bQ]) (by simp[aD,BK])
       rcases uI with⟨ed,ents,clock,hm,bV,kQ⟩ | ⟨_,s,pos,_,rfl⟩ | ⟨mC,rfl⟩
       rotate_left
       · simp[V.isTuple] at Ed
       · simp[V.isTuple] at Ed
       simp only[al]
       refine⟨MU,.inr ⟨_,ents,clock,rfl,?_,(Array.getElem?_eq_some_iff.1 hm).1,⟨hm,kQ⟩,bV⟩⟩
       rintro(⟨r',h1,h2,h3,h4⟩ | L2)
       · by_cases e:r'=r
         · subst e;simp[aD] at h2
         · exact vm.inj r' r e h1 (by simp[aD,bQ]) h3 ed h4
       · exact vm.sx r (by simp[aD,bQ]) ed L2
     · exact absurd aj au
   · exact absurd aj au
 | sl r g off len=>
   simp only[cm,Act.run] at aj
   split at aj
   · rename_i es bQ
     split at aj
     · rename_i hc
       obtain⟨AE,BK,MU,Ed⟩:=hc
       simp only[Act.run] at aj
       obtain⟨le,vm⟩:=pF (μ:=⟨μ.w,μ.φ,O⟩) ho r
       refine⟨_,_,aj,?_,le,vm,fun _=>rfl⟩
       have nZ: (aO es off len).length=len:=by simp[aO];omega
       have zP:=al.mono le hv
       simp only[al,aD] at zP
       obtain⟨a0,cap,rfl,hle,_,cK⟩:=zP
       obtain⟨k0,k1,k2⟩:=cK AE
       obtain⟨q1,q2,q3,q4⟩:=vm.row r es (by simp[aD,bQ]) (by simpa [aD] using k0)
       simp only[aD] at q1 q2 q3 q4
       simp only[al]
       refine⟨Ed,?_,a0,cap,?_⟩
       · simp only[List.all_eq_true] at q3 ⊢
         exact fun x hx=> (cn (q3 x (List.mem_of_mem_drop (List.mem_of_mem_take hx)))).1
       · by_cases ed:cap=0
         · have:len=0:=by omega
           subst this
           refine⟨[],by rw[nZ],by rw[nZ];omega,?_,.inl ?_⟩
           · simp[aO,ak]
           · simp[aO]
         · have jY: (μ.φ r).cap≠0:=by omega
           rcases q4 with q4| ⟨cc,TT,vs,p1,p2,p3,p4⟩
           · exact absurd q4 jY
           · refine⟨(vs.drop off).take len,by rw[nZ],by rw[nZ];omega,ak.take _ (ak.drop _ p3),.inr ⟨_,_,k2.resolve_left ed,?_,(Array.getElem?_eq_some_iff.1 p1).1,(p4.drop off).take len⟩⟩
             rintro(⟨r',h1,h2,h3,h4⟩ | L2)
             · by_cases e:r'=r
               · subst e;simp[aD] at h2
               · have:=vm.inj r' r e h1 (by simp[aD,bQ]) h3 jY
                 exact this h4
             · exact vm.sx r (by simp[aD,bQ]) jY L2
     · exact absurd aj au
   · exact absurd aj au
 | own _ _=>exact absurd aj au
 | msl _ _ _ _=>exact absurd aj au
 | mptr _ _ _ _=>exact absurd aj au
 | any=>exact absurd aj au
 | it _ _=>exact absurd aj au
 | _=>exact same rfl
theorem ng: ∀ {cs:List V} {k:List V→Act} {vals:List Value} {O:Nat→Obj} {p:V×St},br X ⟨μ.w,μ.φ,O⟩→ak X ⟨μ.w,μ.φ,O⟩ cs vals→(dP cs k).run C ⟨T,O⟩=some p→
   ∃cY O',(k cY).run C ⟨T,O'⟩=some p∧ak X ⟨μ.w,μ.φ,O'⟩ cY vals∧Le ⟨μ.w,μ.φ,O⟩ ⟨μ.w,μ.φ,O'⟩∧br X ⟨μ.w,μ.φ,O'⟩∧(cs.all V.aN=true→cY.all V.aN=true)
 | [],k,[],O,p,ho,_,aj=> ⟨[],O,aj,by simp[ak],Le.refl _,ho,id⟩
 | [],_,_::_,_,_,_,h,_=>by simp[ak] at h
 | _::_,_,[],_,_,_,h,_=>by simp[ak] at h
 | c::cs,k,v::vals,O,p,ho,h,aj=>by
   simp only[ak] at h
   obtain⟨c',O1,h1,h2,h3,h4,h5⟩:=oQ ho h.1 aj
   obtain⟨cY,O2,k1,k2,k3,k4,k5⟩:=ng h4 (ak.mono h3 h.2) h1
   refine⟨c'::cY,O2,k1,?_,h3.trans k3,k4,?_⟩
   · simp only[ak];exact⟨al.mono k3 h2,k2⟩
   · intro hh
     simp only[List.all_cons,Bool.and_eq_true] at hh ⊢
     exact⟨h5 hh.1,k5 hh.2⟩
theorem kR {c:V} {k:V→Act} {val:Value} {O:Nat→Obj} {p:V×St} (ho:br X ⟨μ.w,μ.φ,O⟩) (hv:al X ⟨μ.w,μ.φ,O⟩ c val) (aj: (sa c k).run C ⟨T,O⟩=some p):
   ∃c' O',(k c').run C ⟨T,O'⟩=some p∧al X ⟨μ.w,μ.φ,O'⟩ c' val∧Le ⟨μ.w,μ.φ,O⟩ ⟨μ.w,μ.φ,O'⟩∧br X ⟨μ.w,μ.φ,O'⟩:=by
 unfold sa at aj
 split at aj
 · exact⟨c,O,aj,hv,Le.refl _,ho⟩
 · split at aj
   · simp only[al] at hv
     obtain⟨h0,vs,rfl,rU⟩:=hv
     obtain⟨cY,O',h1,h2,h3,h4,h5⟩:=ng ho rU aj
     exact⟨_,O',h1,by simp only[al];exact⟨h5 h0,vs,rfl,h2⟩,h3,h4⟩
   · obtain⟨c',O',h1,h2,h3,h4,_⟩:=oQ ho hv aj
     exact⟨c',O',h1,h2,h3,h4⟩
theorem oR: ∀ {cs:List V} {k:List V→Act} {vals:List Value} {O:Nat→Obj} {p:V×St},br X ⟨μ.w,μ.φ,O⟩→ak X ⟨μ.w,μ.φ,O⟩ cs vals→(gm.go cs k).run C ⟨T,O⟩=some p→
   ∃cY O',(k cY).run C ⟨T,O'⟩=some p∧ak X ⟨μ.w,μ.φ,O'⟩ cY vals∧Le ⟨μ.w,μ.φ,O⟩ ⟨μ.w,μ.φ,O'⟩∧br X ⟨μ.w,μ.φ,O'⟩
 | [],k,[],O,p,ho,_,aj=> ⟨[],O,aj,by simp[ak],Le.refl _,ho⟩
 | [],_,_::_,_,_,_,h,_=>by simp[ak] at h
 | _::_,_,[],_,_,_,h,_=>by simp[ak] at h
 | c::cs,k,v::vals,O,p,ho,h,aj=>by
   simp only[ak] at h
   obtain⟨c',O1,h1,h2,h3,h4⟩:=kR ho h.1 aj
   obtain⟨cY,O2,k1,k2,k3,k4⟩:=oR h4 (ak.mono h3 h.2) h1
   refine⟨c'::cY,O2,k1,?_,h3.trans k3,k4⟩
   simp only[ak];exact⟨al.mono k3 h2,k2⟩
theorem uJ {cs:List V} {k:List V→Act} {vals:List Value} {O:Nat→Obj} {p:V×St} (ho:br X ⟨μ.w,μ.φ,O⟩) (hv:ak X ⟨μ.w,μ.φ,O⟩ cs vals) (aj: (gm cs k).run C ⟨T,O⟩=some p):
  ∃cY O',(k cY).run C ⟨T,O'⟩=some p∧ak X ⟨μ.w,μ.φ,O'⟩ cY vals∧Le ⟨μ.w,μ.φ,O⟩ ⟨μ.w,μ.φ,O'⟩∧br X ⟨μ.w,μ.φ,O'⟩:=by
 unfold gm at aj
 split at aj
 · exact⟨cs,O,aj,hv,Le.refl _,ho⟩
 · exact oR ho hv aj
end
end Go.AM
namespace Go.AM
open Go Go.RowKit
theorem oS {α:Type} (L:List α) (p:Nat) (x:α) (h:p<L.length):L.set p x=cS L p [x]:=by
 apply List.ext_getElem?
 intro q
 rw[eH (by simp;omega),List.getElem?_set]
 by_cases hq:q<p
 · simp[hq];omega
 · by_cases R8:p=q
   · subst R8;simp[h]
   · have: ¬q<p+1:=by omega
     simp[hq,R8,this]
theorem cb {α:Type} (xs:Array α):xs.toList.length=xs.size:=Array.length_toList
section
variable {X:Ctx} {E:Env} {C:bl} {o:Oper} {a:Go.Act} {T:Nat→V} {μ:Mu} {v:V} {σ':St}
theorem y8 {agg:Bool} {off sz:Nat} {e u e':V} {x val:Value} (he:al X μ e x) (hl:e.dh=true) (hu:al X μ u val) (h:dj agg off sz e u=some e'):
   ∃x',al X μ e' x'∧e'.dh=true∧e'.cells.length=e.cells.length∧val.cells.size=sz∧off+sz≤x.cells.size∧x'.cells.toList=cS x.cells.toList off val.cells.toList∧
     ∀c ∈ val.cells.toList,c.oneCell'=true:=by
 unfold dj at h
 split at h
 · split at h
   · rename_i cs vs
     split at h<;>simp at h
     rename_i hc
     subst h
     simp only[al] at he hu
     obtain⟨h0,xs,rfl,hx⟩:=he
     obtain⟨k0,ys,rfl,hy⟩:=hu
     have l1:=hx.length
     have l2:=hy.length
     rw[cb xs] at l1
     rw[cb ys] at l2
     refine⟨.agg (cS xs.toList off ys.toList).toArray,?_,rfl,?_,?_,?_,?_,?_⟩
     · simp only[al]
       refine⟨?_,_,rfl,?_⟩
       · have t1:=jr (p:=V.aN) off h0
         have t2:=kN (p:=V.aN) (off+sz) h0
         simp only[List.all_append,t1,k0,t2,Bool.and_self]
       · have:=((ak.take off hx).append hy).append (ak.drop (off+sz) hx)
         simpa [cS,←l2,hc.1] using this
     · simp[V.cells];omega
     · simp only[Value.cells];omega
     · simp only[Value.cells];omega
     · simp[Value.cells]
     · intro c R9
       simp only[Value.cells] at R9
       obtain⟨j,hj⟩:=List.getElem?_of_mem R9
       have bk:j<vs.length:=by rw[hy.length];exact(List.getElem?_eq_some_iff.1 hj).1
       obtain⟨c',g1,g2⟩:=hy.get (List.getElem?_eq_getElem bk)
       rw[hj] at g1;injection g1 with g1;subst g1
       simp only[List.all_eq_true] at k0
       exact(g2.lO (k0 _ (List.getElem_mem bk))).1
   · simp at h
 · split at h
   · rename_i dc
     obtain⟨xr,dk⟩:=hu.lO dc.1
     have B1: ∀c ∈ val.cells.toList,c.oneCell'=true:=by rw[dk];simpa using xr
     split at h
     · rename_i cs
       split at h<;>simp at h
       rename_i HV
       subst h
       simp only[al] at he
       obtain⟨h0,xs,rfl,hx⟩:=he
       have l1:=hx.length
       rw[cb xs] at l1
       refine⟨.agg (xs.toList.set off val).toArray,?_,rfl,?_,?_,?_,?_,B1⟩
       · simp only[al]
         refine⟨?_,_,rfl,by simpa using ak.set hx off hu⟩
         simp only[List.all_eq_true] at h0 ⊢
         intro c R9
         rcases List.mem_or_eq_of_mem_set R9 with hm| rfl
         · exact h0 c hm
         · exact dc.1
       · simp[V.cells]
       · rw[dk,dc.2];rfl
       · simp only[Value.cells];omega
       · rw[dk]
         simp only[Value.cells]
         rw[oS _ _ _ (by rw[Array.length_toList];omega)]
     · split at h<;>simp at h
       rename_i cT jY
       subst h
       obtain⟨_,Vd⟩:=he.lO jY.1
       refine⟨val,hu,by simp[V.dh,dc.1],?_,?_,?_,?_,B1⟩
       · rw[V.fM dc.1,V.fM jY.1];rfl
       · rw[dk,dc.2];rfl
       · rw[Vd,dc.2,jY.2];simp
       · rw[dk,Vd,jY.2];simp[cS]
   · simp at h
theorem xu {t:TypeId} {w:World} {g q sz:Nat} {cur:Array Value} {T0:TypeId} {val:Value} (hn:bI X t=some sz) (hg:w.heap[g]? =some (.cells cur T0 (0,0)))
  (hs:val.cells.size=sz) (hl:q+sz≤cur.size) (h1: ∀c ∈ val.cells.toList,c.oneCell'=true):
  (storeVar t ⟨g,q,none⟩ val).run X.P w= .ok () (w.setRow g (cS cur.toList q val.cells.toList).toArray):=by
 have:=iz (P:=X.P) hg val.cells.toList (by rw[Array.length_toList,hs];exact hl) h1
 simp[storeVar,Sem.run_bind,di hn,hs,this]
theorem y9 {    t:TypeId} {agg:Bool} {sz r g idx off:Nat} {u:V} {val:Value} {O:Nat→Obj} (ho:br X ⟨μ.w,μ.φ,O⟩) (hu:al X ⟨μ.w,μ.φ,O⟩ u val) (hn:bI X t=some sz) (h0:0 < (O r).sz)
   (aj: (av.j4 agg sz r g idx off u).run C ⟨T,O⟩=some (v,σ')):
   σ'.T=T∧v= .tuple []∧ ∃w' φ',(storeVar t ⟨(μ.φ r).cO,(μ.φ r).base+idx*(O r).sz+off,none⟩ val).run X.P μ.w= .ok () w'∧Le ⟨μ.w,μ.φ,O⟩ ⟨w',φ',σ'.O⟩∧br X ⟨w',φ',σ'.O⟩:=by
 simp only[av.j4,Act.run] at aj
 split at aj
 · rename_i es bQ
   split at aj
   · rename_i hc
     split at aj
     · rename_i e he
       split at aj
       · rename_i e' hp
         simp only[Act.run,Option.some.injEq,Prod.mk.injEq] at aj
         obtain⟨rfl,rfl⟩:=aj
         obtain⟨k1,k2,k3,k4⟩:=ho.row r es bQ h0
         simp only at k1 k2 k3 k4
         have bk:idx<es.length:=(List.getElem?_eq_some_iff.1 he).1
         have jY: (μ.φ r).cap≠0:=by omega
         rcases k4 with k4| ⟨c,T0,vs,hb,oN,rU,dL⟩
         · exact absurd k4 jY
         · obtain⟨x,hx,bV⟩:=rU.get he
           have lP:aQ e (O r).sz=true:=by
            simp only[List.all_eq_true] at k3
            exact k3 e (List.mem_of_getElem? he)
           obtain⟨kS,mG⟩:=cn lP
           obtain⟨x',p1,p2,p3,p4,p5,p6,p7⟩:=y8 bV kS hu hp
           have Bq:x.cells.size=(O r).sz:=by rw[bV.eb kS,mG]
           have uq:dz c.toList (μ.φ r).base (O r).sz vs:=iy hb dL
           have hmul: (idx+1)*(O r).sz≤(μ.φ r).cap*(O r).sz:=Nat.mul_le_mul_right _ (by omega)
           have L3: (μ.φ r).base+(idx+1)*(O r).sz≤c.toList.length:=by rw[Array.length_toList];omega
           have gZ:=uq.put (x':=x') hx L3 (m:=val.cells.toList) (by rw[Array.length_toList,p4];omega) p6
           have oK:=xu (X:=X) (t:=t) (q:=(μ.φ r).base+idx*(O r).sz+off) (val:=val) hn hb p4 (by rw[Nat.add_mul] at hmul;omega) p7
           have hw:=kM (μ:=⟨μ.w,μ.φ,O⟩) ho r bQ hc.2 hb jY (c':=(cS c.toList ((μ.φ r).base+idx*(O r).sz+off) val.cells.toList).toArray)
            (by
              have: (cS c.toList ((μ.φ r).base+idx*(O r).sz+off) val.cells.toList).length=c.toList.length:=eR (by
               rw[Array.length_toList,Array.length_toList,p4];rw[Nat.add_mul] at hmul;omega)
              simpa using this)
            (O r).gen (μ.φ r).base (μ.φ r).cap (es':=es.set idx e') (vs':=vs.set idx x') (.inl ⟨rfl,rfl,rfl⟩) jY (by simpa using k2)
            (by
              simp only[List.all_eq_true] at k3 ⊢
              intro y hy
              rcases List.mem_or_eq_of_mem_set hy with hm| rfl
              · exact k3 y hm
              · simp[aQ,p2,p3,mG])
            (ak.set rU idx p1) oN (fun i y hy=>by
              obtain⟨q1,q2⟩:=gZ i y hy
              exact⟨q1,fun j z hz=>by simpa using q2 j z hz⟩)
           refine⟨rfl,rfl,_,_,oK,hw.1,hw.2⟩
       · exact absurd aj au
     · exact absurd aj au
   · exact absurd aj au
 · exact absurd aj au
theorem FE {t:TypeId} {x y:Operand} {x' y':aT} {agg:Bool} {sz:Nat} (hr:Rel X T a μ) (ho:o.op= .store t x y) (h1:cZ X x=some x') (h2:cZ X y=some y')
   (hn:bI X t=some sz) (aj: (av E (.store agg sz x' y')).run C ⟨T,μ.O⟩=some (v,σ')):σ'.T=T∧cM X o a μ σ'.O v:=by
 simp only[av,bD] at aj
 have hx:=aS hr h1 μ.O
 have hy:=aS hr h2 μ.O
 split at aj
 · rename_i r g idx off e
   rw[e] at hx
   simp only[al] at hx
   obtain⟨p,hp,wk,cK⟩:=hx
   have fin: ∀w',(storeVar t p (a.eval y)).run X.P μ.w= .ok () w'→(execOp a.eval o).run X.P μ.w= .ok .skip w':=fun w' hw=>by
     simp only[execOp,ho]
     refine Fm ?_
     simp[Instr.storeAt,Instr.sureAddr,Sem.run_bind,hp,hw]
   have main: ∀ {O:Nat→Obj} {u:V},Le μ ⟨μ.w,μ.φ,O⟩→br X ⟨μ.w,μ.φ,O⟩→al X ⟨μ.w,μ.φ,O⟩ u (a.eval y)→(av.j4 agg sz r g idx off u).run C ⟨T,O⟩=some (v,σ')→
       σ'.T=T∧cM X o a μ σ'.O v:=by
     intro O u le fI hu gZ
     have Ye: (O r).gen=g:=by
       simp only[av.j4,Act.run] at gZ
       split at gZ
       · split at gZ
         · rename_i hc;exact hc.1
         · exact absurd gZ au
       · exact absurd gZ au
     have TA:=le.gen r
     simp only at TA
     have Ve: (μ.O r).gen=g:=by omega
     obtain⟨_,HY⟩:=le.row r (by simp only;omega)
     obtain⟨q1,q2,w',φ',q3,q4,q5⟩:=y9 (t:=t) fI hu hn (by simp only at HY;rw[HY];exact(cK Ve).1) gZ
     refine⟨q1,undef,w',φ',.inr ⟨fin w' ?_,rfl⟩,?_,le.trans q4,q5⟩
     · rw[(cK Ve).2]
       simp only at HY
       rw[←HY];exact q3
     · rw[q2];simp only[al];exact⟨#[],rfl,by simp[ak]⟩
   simp only[Act.run] at aj
   split at aj
   · rw[bD] at aj
     obtain⟨u,O1,k1,k2,k3,k4⟩:=kR (μ:=μ) hr.bd hy aj
     exact main k3 k4 k2 k1
   · rw[bD] at aj
     exact main (Le.refl μ) hr.bd hy aj
 · exact absurd aj au
theorem wu {off:Nat}: ∀ (m:List Value) (k:Nat) (cs:Array Value),off+k+m.length≤cs.size→
   ((m.zipIdx k).foldl (fun cs (p:Value×Nat)=>cs.setIfInBounds (off+p.2) p.1) cs).toList=cS cs.toList (off+k) m
 | [],k,cs,_=>by simp[cS]
 | x::m,k,cs,h=>by
   simp only[List.zipIdx_cons,List.foldl_cons]
   simp at h
   rw[wu m (k+1) _ (by simp;omega)]
   rw[Array.toList_setIfInBounds]
   apply List.ext_getElem?
   intro q
   rw[eH (by simp;omega),eH (by simp;omega),List.getElem?_set]
   by_cases h1:q<off+k
   · have:q<off+(k+1):=by omega
     have h2: ¬off+k=q:=by omega
     simp[h1,this,h2]
   · by_cases h2:q=off+k
     · subst h2
       have h3:off+k<off+(k+1):=by omega
       have h4:off+k<cs.size:=by omega
       simp[h3,h4]
     · by_cases h3:q<off+k+(m.length+1)
       · have h4: ¬q<off+(k+1):=by omega
         have h5:q<off+(k+1)+m.length:=by omega
         have h6:q - (off+k)=(q - (off+(k+1)))+1:=by omega
         simp[h1,h4,h3,h5,h6]
       · have h4: ¬q<off+(k+1):=by omega
         have h5: ¬q<off+(k+1)+m.length:=by omega
         have h6: ¬off+k=q:=by omega
         simp[h1,h4,h3,h5,h6]
theorem wv {off:Nat} {x:Value} {cs:Array Value} (h:off+x.cells.size≤cs.size):
  (x.cells.zipIdx.foldl (fun cs (p:Value×Nat)=>cs.setIfInBounds (off+p.2) p.1) cs).toList=cS cs.toList off x.cells.toList:=by
 rw[←Array.foldl_toList,Array.toList_zipIdx]
 have:=wu (off:=off) x.cells.toList 0 cs (by rw[Array.length_toList];omega)
 simpa using this
theorem za {place:Nat→Option (Nat×Nat)}: ∀ {ps:List (Nat×Nat×V)} {qs:List (Nat×Value)} {cs cY:List V} {xs:Array Value},
   (ps.length=qs.length)→(∀ (i:Nat) p q,ps[i]? =some p→qs[i]? =some q→place q.1=some (p.1,p.2.1)∧al X μ p.2.2 q.2)→ak X μ cs xs.toList→cs.all V.aN=true→
   dE cs ps=some cY→ ∃HZ,Instr.fill place xs qs=some HZ∧ak X μ cY HZ.toList∧cY.all V.aN=true
 | [],[],cs,cY,xs,_,_,hv,hc,h=>by
   simp[dE] at h;subst h
   exact⟨xs,rfl,hv,hc⟩
 | [],_::_,_,_,_,h,_,_,_,_=>by simp at h
 | _::_,[],_,_,_,h,_,_,_,_=>by simp at h
 | (off,sz,u)::ps,(i,q)::qs,cs,cY,xs,hl,hp,hv,hc,h=>by
   simp only[dE] at h
   split at h
   · rename_i wx
     obtain⟨h1,h2,h3⟩:=wx
     obtain⟨FF,bV⟩:=hp 0 _ _ rfl rfl
     simp only at FF bV
     have TB:q.cells.size=sz:=by rw[bV.eb h3,h1]
     have hlen:=hv.length
     rw[cb xs] at hlen
     have gO:off+q.cells.size≤xs.size:=by omega
     have wy:=wv (x:=q) (cs:=xs) gO
     have B2:ak X μ (cs.take off++u.cells++cs.drop (off+sz)) (q.cells.zipIdx.foldl (fun cs (p:Value×Nat)=>cs.setIfInBounds (off+p.2) p.1) xs).toList:=by
      rw[wy]
      have:=((ak.take off hv).append (bV.cells h3)).append (ak.drop (off+sz) hv)
      simpa [cS,TB] using this
     have BK: (cs.take off++u.cells++cs.drop (off+sz)).all V.aN=true:=by
      have t1:=jr (p:=V.aN) off hc
      have t2:=kN (p:=V.aN) (off+sz) hc
      simp only[List.all_append,t1,bV.ji h3,t2,Bool.and_self]
     obtain⟨HZ,g1,g2,g3⟩:=za (place:=place) (ps:=ps) (qs:=qs) (by simpa using hl) (fun j p q' hj FG=>hp (j+1) p q' (by simpa using hj) (by simpa using FG)) B2 BK h
     refine⟨HZ,?_,g2,g3⟩
     have AU: ¬ (q.cells.size≠sz∨xs.size<off+q.cells.size):=by omega
     simp only[Instr.fill,FF]
     rw[if_neg (by simpa using AU)]
     exact g1
   · simp at h
end
end Go.AM
namespace Go.AM
open Go Go.RowKit
theorem oT {α β:Type} {P:Program} {w:World} {f:α→Sem β} {g:α→β}: ∀ (l:List α),(∀x ∈ l,(f x).run P w= .ok (g x) w)→(l.mapM f).run P w= .ok (l.map g) w
 | [],_=>by simp
 | x::l,h=>by
   have h1:=h x (by simp)
   have h2:=oT (f:=f) (g:=g) l fun y hy=>h y (by simp[hy])
   simp[List.mapM_cons,Sem.run_bind,h1,h2]
theorem uK {α β:Type} {P:Program} {w:World} {f:α→Sem β} {g:α→β} (l:Array α) (h: ∀x ∈ l.toList,(f x).run P w= .ok (g x) w): (l.mapM f).run P w= .ok (l.map g) w:=by
 have:=oT l.toList h
 rw[Array.mapM_eq_mapM_toList]
 simp only[map_eq_pure_bind,Sem.run_bind,this,Result.andThen_ok,Sem.run_pure]
 congr 1
 apply Array.ext';simp
section
variable {X:Ctx} {E:Env} {C:bl} {o:Oper} {a:Go.Act} {T:Nat→V} {μ:Mu} {v:V} {σ':St}
theorem sC: ∀ (ps:List (Nat×Nat×aT)) (k:List (Nat×Nat×V)→Act) (σ:St),(eT ps k).run C σ=(k (ps.map fun p=> (p.1,p.2.1,bn σ p.2.2))).run C σ
 | [],_,_=>rfl
 | (_,_,x)::ps,k,σ=>by simp only[eT,bD,sC ps,List.map_cons]
theorem sD (hr:Rel X T a μ) (O:Nat→Obj) {place:Nat→Option (Nat×Nat)}: ∀ {ps:List (Nat×Operand)} {as:List (Nat×Nat×aT)},jh X place ps=some as→
   as.length=ps.length∧ ∀ (i:Nat) p q,as[i]? =some p→ps[i]? =some q→place q.1=some (p.1,p.2.1)∧al X μ (bn ⟨T,O⟩ p.2.2) (a.eval q.2)
 | [],as,h=>by simp[jh] at h;subst h;simp
 | (i,x)::ps,as,h=>by
   simp only[jh] at h
   split at h
   · rename_i off sz y Sa h1 h2 h3
     injection h with h;subst h
     obtain⟨k1,k2⟩:=sD hr O h3
     refine⟨by simp[k1],fun j p q hp hq=> ?_⟩
     cases j with
     | zero=>simp at hp hq;subst hp;subst hq;exact⟨h1,aS hr h2 O⟩
     | succ j=>exact k2 j p q (by simpa using hp) (by simpa using hq)
   · simp at h
theorem uL (ks:List Nat) (hr:Rel X T a μ) {t:TypeId} {z:List V} (hz:ez X t=some (.agg z)) {place:Nat→Option (Nat×Nat)} {parts:Array (Nat×Operand)} {as:List (Nat×Nat×aT)}
   (hp:jh X place parts.toList=some as) (aj: (av E (.build (w4 ks z) as)).run C ⟨T,μ.O⟩=some (v,σ')):
   σ'=⟨T,μ.O⟩∧ ∃zv cells,(zeroValue t).run X.P μ.w= .ok zv μ.w∧Instr.fill place zv.cells (parts.map fun (i,x)=> (i,a.eval x)).toList=some cells∧al X μ v (.agg cells):=by
 simp only[av,sC] at aj
 obtain⟨zv,vh,wq⟩:=gL hz μ.w
 obtain⟨uH,_⟩:=eG (X:=X) (μ:=μ) wq
 simp only[al] at uH
 obtain⟨h0,xs,rfl,Bq⟩:=uH
 obtain⟨l1,l2⟩:=sD hr μ.O hp
 split at aj
 · rename_i cs dk
   obtain⟨rfl,rfl⟩:=aX aj
   have key:=za (X:=X) (μ:=μ) (place:=place) (ps:=as.map fun p=> (p.1,p.2.1,bn ⟨T,μ.O⟩ p.2.2)) (qs:=(parts.map fun (i,x)=> (i,a.eval x)).toList) (xs:=xs)
    (by simp[l1]) (fun j p q hp hq=>by
      simp only[List.getElem?_map,Option.map_eq_some_iff] at hp
      obtain⟨p',zQ,rfl⟩:=hp
      rw[Array.toList_map,List.getElem?_map,Option.map_eq_some_iff] at hq
      obtain⟨q',FH,rfl⟩:=hq
      exact l2 j p' q' zQ FH) (Bq.w4 ks) (pH ks h0) dk
   obtain⟨HZ,g1,g2,g3⟩:=key
   exact⟨rfl,_,HZ,vh,g1,by simp only[al];exact⟨g3,HZ,rfl,g2⟩⟩
 · exact absurd aj au
theorem Dv (ks:List Nat) {t:TypeId} {parts:Array (Nat×Operand)} {z:List V} {fs:Array Field} {as:List (Nat×Nat×aT)} (hr:Rel X T a μ) (ho:o.op= .build t parts) (hz:ez X t=some (.agg z))
  (hd:bq X t=some (.struct fs)) (qm:fs.toList.all (fun f=> (bI X f.type).isSome)=true)
  (hp:jh X (fun i=>match fs[i]? with| some f=> (bI X f.type).map fun s=> (f.offset,s) | none=>none) parts.toList=some as)
  (aj: (av E (.build (w4 ks z) as)).run C ⟨T,μ.O⟩=some (v,σ')):σ'.T=T∧cM X o a μ σ'.O v:=by
 obtain⟨rfl,zv,cells,h1,h2,h3⟩:=uL ks hr hz hp aj
 refine⟨rfl,aM hr.bd ?_ h3⟩
 simp only[execOp,ho]
 refine cq ?_
 have kE:X.P.underlying t=some (.struct fs):=hd
 have hm:=uK (P:=X.P) (w:=μ.w) (f:=fun f:Field=>do pure (f.offset,←sizeOf f.type)) (g:=fun f:Field=> (f.offset,(bI X f.type).getD 0)) fs (fun f hf=>by
  simp only[List.all_eq_true] at qm
  obtain⟨s,hs⟩:=Option.isSome_iff_exists.1 (qm f hf)
  simp[Sem.run_bind,di hs,hs])
 have RZ: (fun (i:Nat)=> (fs.map fun (f:Field)=> (f.offset,(bI X f.type).getD 0))[i]?)=fun (i:Nat)=>match fs[i]? with| some f=> (bI X f.type).map fun s=> (f.offset,s) | none=>none:=by
  funext i
  rw[Array.getElem?_map]
  cases hf:fs[i]? with
  | none=>rfl
  | some f=>
    simp only[List.all_eq_true] at qm
    obtain⟨s,hs⟩:=Option.isSome_iff_exists.1 (qm f (by simpa using Array.mem_of_getElem? hf))
    simp[hs]
 simp only[Instr.build,Sem.run_bind,h1,Result.andThen_ok,run_underlying kE,hm,RZ,h2,Sem.run_pure]
theorem Dw (ks:List Nat) {t e:TypeId} {n s:Nat} {parts:Array (Nat×Operand)} {z:List V} {as:List (Nat×Nat×aT)} (hr:Rel X T a μ) (ho:o.op= .build t parts) (hz:ez X t=some (.agg z))
  (hd:bq X t=some (.array n e)) (hs:bI X e=some s) (hp:jh X (fun i=>some (i*s,s)) parts.toList=some as)
  (aj: (av E (.build (w4 ks z) as)).run C ⟨T,μ.O⟩=some (v,σ')):σ'.T=T∧cM X o a μ σ'.O v:=by
 obtain⟨rfl,zv,cells,h1,h2,h3⟩:=uL ks hr hz hp aj
 refine⟨rfl,aM hr.bd ?_ h3⟩
 simp only[execOp,ho]
 refine cq ?_
 have kE:X.P.underlying t=some (.array n e):=hd
 simp only[Instr.build,Sem.run_bind,h1,Result.andThen_ok,run_underlying kE,di hs,h2,Sem.run_pure]
theorem oU (hr:Rel X T a μ): ∀ {ps:List (Nat×Operand)} {as:List (Nat×aT)} {k:List (Nat×V)→Act} {O:Nat→Obj} {p:V×St},gG X ps=some as→Le μ ⟨μ.w,μ.φ,O⟩→br X ⟨μ.w,μ.φ,O⟩→
   (eh as k).run C ⟨T,O⟩=some p→
   ∃vs O',(k vs).run C ⟨T,O'⟩=some p∧vs.length=ps.length∧Le ⟨μ.w,μ.φ,O⟩ ⟨μ.w,μ.φ,O'⟩∧br X ⟨μ.w,μ.φ,O'⟩∧
     ∀ (i:Nat) q q',vs[i]? =some q→ps[i]? =some q'→q.1=q'.1∧al X ⟨μ.w,μ.φ,O'⟩ q.2 (a.eval q'.2)
 | [],as,k,O,p,h,le,ho,aj=>by
   simp[gG] at h;subst h
   exact⟨[],O,aj,rfl,Le.refl _,ho,by simp⟩
 | (i,x)::ps,as,k,O,p,h,le,ho,aj=>by
   simp only[gG] at h
   split at h
   · rename_i y Sa h1 h2
     injection h with h;subst h
     simp only[eh,bD] at aj
     have hx:al X ⟨μ.w,μ.φ,O⟩ (bn ⟨T,O⟩ y) (a.eval x):=by
      have:=al.mono le (aS hr h1 O)
      exact this
     obtain⟨u,O1,k1,k2,k3,k4⟩:=kR (μ:=μ) ho hx aj
     obtain⟨vs,O2,g1,g2,g3,g4,g5⟩:=oU hr h2 (le.trans k3) k4 k1
     refine⟨(i,u)::vs,O2,g1,by simp[g2],k3.trans g3,g4,fun j q q' hq FH=> ?_⟩
     cases j with
     | zero=>simp at hq FH;subst hq;subst FH;exact⟨rfl,al.mono g3 k2⟩
     | succ j=>exact g5 j q q' (by simpa using hq) (by simpa using FH)
   · simp at h
theorem rX {α:Type} (L:List α) (i:Nat) (x:α) (h:i<L.length):L.set i x=L.take i++[x]++L.drop (i+1):=by
 rw[oS L i x h];rfl
theorem oV {sz:Nat}: ∀ {vs:List (Nat×V)} {qs:List (Nat×Value)} {es es':List V} {us:List Value} {c:Array Value},vs.length=qs.length→
   (∀ (i:Nat) p q,vs[i]? =some p→qs[i]? =some q→p.1=q.1∧al X μ p.2 q.2)→ak X μ es us→dz c.toList 0 sz us→c.size=us.length*sz→es.all (aQ · sz)=true→
   cp sz es vs=some es'→ ∃c' GG,Instr.fill (fun i=>some (i*sz,sz)) c qs=some c'∧ak X μ es' GG∧dz c'.toList 0 sz GG∧c'.size=GG.length*sz∧
     es'.all (aQ · sz)=true∧es'.length=es.length
 | [],[],es,es',us,c,_,_,hv,hs,hc,hb,h=>by
   simp[cp] at h;subst h
   exact⟨c,us,rfl,hv,hs,hc,hb,rfl⟩
 | [],_::_,_,_,_,_,h,_,_,_,_,_,_=>by simp at h
 | _::_,[],_,_,_,_,h,_,_,_,_,_,_=>by simp at h
 | (i,u)::vs,(i',q)::qs,es,es',us,c,hl,hp,hv,hs,hc,hb,h=>by
   simp only[cp] at h
   split at h
   · rename_i wx
     obtain⟨hi,lP⟩:=wx
     obtain⟨e1,bV⟩:=hp 0 _ _ rfl rfl
     simp only at e1 bV
     subst e1
     obtain⟨kS,mG⟩:=cn lP
     have TB:q.cells.size=sz:=by rw[bV.eb kS,mG]
     have WB:i<us.length:=by rw[←hv.length];exact hi
     have hmul: (i+1)*sz≤us.length*sz:=Nat.mul_le_mul_right _ (by omega)
     rw[Nat.add_mul] at hmul
     have gO:i*sz+q.cells.size≤c.size:=by omega
     have wy:=wv (x:=q) (cs:=c) gO
     have P5:flat [q]=q.cells.toList:=by simp[flat]
     have hw:=hs.write (k:=i) (us:=[q]) (by omega) (by simpa using TB) (by rw[cb];simp;omega)
     rw[P5,Nat.zero_add] at hw
     have jG:us.take i++[q]++us.drop (i+[q].length)=us.set i q:=(rX us i q WB).symm
     rw[jG,←wy] at hw
     have cP: (q.cells.zipIdx.foldl (fun cs (p:Value×Nat)=>cs.setIfInBounds (i*sz+p.2) p.1) c).size=(us.set i q).length*sz:=by
      rw[←cb,wy,eR (by rw[cb,cb];exact gO),cb];simpa using hc
     have TC: (es.set i u).all (aQ · sz)=true:=by
      simp only[List.all_eq_true] at hb ⊢
      intro y hy
      rcases List.mem_or_eq_of_mem_set hy with hm| rfl
      · exact hb y hm
      · exact lP
     obtain⟨c',GG,g1,g2,g3,g4,g5,g6⟩:=oV (vs:=vs) (qs:=qs) (by simpa using hl) (fun j p q' hj FG=>hp (j+1) p q' (by simpa using hj) (by simpa using FG)) (ak.set hv i bV) hw cP TC h
     refine⟨c',GG,?_,g2,g3,g4,g5,by simpa using g6⟩
     have AU: ¬ (q.cells.size≠sz∨c.size<i*sz+q.cells.size):=by omega
     simp only[Instr.fill]
     rw[if_neg (by simpa using AU)]
     exact g1
   · simp at h
theorem jM {t e:TypeId} {n sz r:Nat} {parts:Array (Nat×Operand)} {z:V} (hr:Rel X T a μ) (ho:o.op= .buildSlice t n parts) (hd:bq X t=some (.slice e))
   (hn:bI X e=some sz) (hz:ez X e=some z) (C6: ∃vs O',(match cp sz (List.replicate n z) vs with
     | some es=>if aQ z sz &&decide (0 <sz∧n*sz≤16777216) then AM.Act.bY r fun o=>AM.Act.bJ r {gen:=o.gen+1,sz,arr:=true,fz:=false,es:=some es} (.done (.sl r (o.gen+1) 0 n)) else AM.Act.fail
     | none=>AM.Act.fail).run C ⟨T,O'⟩=some (v,σ')∧vs.length=parts.toList.length∧Le μ ⟨μ.w,μ.φ,O'⟩∧br X ⟨μ.w,μ.φ,O'⟩∧
     ∀ (i:Nat) q q',vs[i]? =some q→parts.toList[i]? =some q'→q.1=q'.1∧al X ⟨μ.w,μ.φ,O'⟩ q.2 (a.eval q'.2)):σ'.T=T∧cM X o a μ σ'.O v:=by
 obtain⟨vs,O1,k1,k2,k3,k4,k5⟩:=C6
 split at k1
 · rename_i es bQ
   split at k1
   · rename_i hc
     simp only[Bool.and_eq_true,decide_eq_true_eq] at hc
     obtain⟨FI,cP,zb⟩:=hc
     simp only[Act.run,Option.some.injEq,Prod.mk.injEq] at k1
     obtain⟨rfl,rfl⟩:=k1
     refine⟨rfl,?_⟩
     obtain⟨zv,vh,wq⟩:=gL hz μ.w
     obtain⟨uH,FC⟩:=eG (X:=X) (μ:=⟨μ.w,μ.φ,O1⟩) wq
     have FD:zv.cells.size=sz:=by rw[uH.eb FC,(cn FI).2]
     obtain⟨q1,q2⟩:=sB (n:=n) FD
     have WC: (List.replicate n z).all (aQ · sz)=true:=by
       simp only[List.all_eq_true,List.mem_replicate]
       rintro y ⟨_,rfl⟩;exact FI
     obtain⟨c',GG,g1,g2,g3,g4,g5,g6⟩:=oV (X:=X) (μ:=⟨μ.w,μ.φ,O1⟩) (sz:=sz) (vs:=vs) (qs:=(parts.map fun (i,x)=> (i,a.eval x)).toList) (by simp[k2]) (fun j p q hj hq=>by
       rw[Array.toList_map,List.getElem?_map,Option.map_eq_some_iff] at hq
       obtain⟨q',FH,rfl⟩:=hq
       exact k5 j p q' hj FH) (ak.replicate uH n) q2 (by rw[q1];simp) WC bQ
     have hlen:es.length=n:=by simpa using g6
     have sE:GG.length=n:=by rw[←g2.length];exact hlen
     obtain⟨GH,MV⟩:=xl (X:=X) (μ:=⟨μ.w,μ.φ,O1⟩) k4 r sz n true (es:=es) (vs:=GG) (c:=c') e cP (by omega) g5 g2 (by rw[g4,sE];exact Nat.le_refl _) (fun i u hu=>by
       obtain⟨m1,m2⟩:=g3 i u hu
       exact⟨m1,fun j x hx=>by simpa using m2 j x hx⟩)
     refine⟨.slice (some ⟨μ.w.heap.size,0,none⟩) n n,_,_,.inl ?_,?_,k3.trans GH,MV⟩
     · simp only[execOp,ho]
       refine cq ?_
       have kE:X.P.underlying t=some (.slice e):=hd
       have P6: ¬n*sz >2 ^ 24:=by
         have: (2:Nat) ^ 24=16777216:=by decide
         omega
       simp only[Instr.buildSlice,Sem.run_bind,run_underlying kE,Result.andThen_ok,di hn]
       rw[if_neg P6]
       have iV: ∀zero:Array Value,(n*sz=0∨zero=zv.cells)→(Array.range (n*sz)).map (fun i=>zero[i % zero.size]!)=(Array.range (n*sz)).map (fun i=>zv.cells[i % zv.cells.size]!):=by
         rintro zero (h0| rfl)
         · have Tz:Array.range 0= #[]:=rfl
           rw[h0,Tz];simp
         · rfl
       by_cases EW:n*sz=0
       · rw[if_pos EW]
         simp only[Sem.run_bind,Sem.run_pure,Result.andThen_ok]
         rw[iV #[] (.inl EW),g1]
         simp only[newRow,Sem.run_bind,run_newObj,Result.andThen_ok,Sem.run_pure]
         rfl
       · rw[if_neg EW]
         simp only[Sem.run_bind,vh,Result.andThen_ok,Sem.run_pure]
         rw[iV zv.cells (.inr rfl),g1]
         simp only[newRow,Sem.run_bind,run_newObj,Result.andThen_ok,Sem.run_pure]
         rfl
     · simp only[al,aD]
       exact⟨_,_,rfl,Nat.le_refl _,Nat.le_refl _,fun _=> ⟨cP,by simp,by simp⟩⟩
   · exact absurd k1 au
 · exact absurd k1 au
theorem oW {t e:TypeId} {n sz r:Nat} {parts:Array (Nat×Operand)} {z:V} {as:List (Nat×aT)} (hr:Rel X T a μ) (ho:o.op= .buildSlice t n parts) (hd:bq X t=some (.slice e))
  (hn:bI X e=some sz) (hz:ez X e=some z) (hp:gG X parts.toList=some as) (aj: (av E (.buildSlice r sz z n as)).run C ⟨T,μ.O⟩=some (v,σ')):σ'.T=T∧cM X o a μ σ'.O v:=by
 simp only[av] at aj
 exact jM hr ho hd hn hz (oU hr hp (Le.refl μ) hr.bd aj)
theorem ni (hr:Rel X T a μ): ∀ {ps:List (Nat×Operand)} {as:List (Nat×aT)} {k:List (Nat×V)→Act} {p:V×St},gG X ps=some as→
   (iF as k).run C ⟨T,μ.O⟩=some p→
   ∃vs,(k vs).run C ⟨T,μ.O⟩=some p∧vs.length=ps.length∧
     ∀ (i:Nat) q q',vs[i]? =some q→ps[i]? =some q'→q.1=q'.1∧al X μ q.2 (a.eval q'.2)
 | [],as,k,p,h,aj=>by
   simp[gG] at h;subst h
   exact⟨[],aj,rfl,by simp⟩
 | (i,x)::ps,as,k,p,h,aj=>by
   simp only[gG] at h
   split at h
   · rename_i y Sa h1 h2
     injection h with h;subst h
     simp only[iF,bD] at aj
     have hx:=aS hr h1 μ.O
     obtain⟨vs,g1,g2,g5⟩:=ni hr h2 aj
     refine⟨(i,_)::vs,g1,by simp[g2],fun j q q' hq FH=> ?_⟩
     cases j with
     | zero=>simp at hq FH;subst hq;subst FH;exact⟨rfl,hx⟩
     | succ j=>exact g5 j q q' (by simpa using hq) (by simpa using FH)
   · simp at h
theorem uM {t e:TypeId} {n sz r:Nat} {parts:Array (Nat×Operand)} {z:V} {as:List (Nat×aT)} (hr:Rel X T a μ) (ho:o.op= .buildSlice t n parts) (hd:bq X t=some (.slice e))
  (hn:bI X e=some sz) (hz:ez X e=some z) (hp:gG X parts.toList=some as) (aj: (av E (.ga r sz z n as)).run C ⟨T,μ.O⟩=some (v,σ')):σ'.T=T∧cM X o a μ σ'.O v:=by
 simp only[av] at aj
 obtain⟨vs,g1,g2,g3⟩:=ni hr hp aj
 exact jM hr ho hd hn hz ⟨vs,μ.O,g1,g2,Le.refl μ,hr.bd,g3⟩
theorem uN {t e:TypeId} {n sz r ix:Nat} {parts:Array (Nat×Operand)} {z:V} {as:List (Nat×aT)} (hr:Rel X T a μ) (ho:o.op= .buildSlice t n parts) (hd:bq X t=some (.slice e))
  (hn:bI X e=some sz) (hz:ez X e=some z) (hp:gG X parts.toList=some as) (aj: (av E (.fZ ix r sz z n as)).run C ⟨T,μ.O⟩=some (v,σ')):σ'.T=T∧cM X o a μ σ'.O v:=by
 have h: (match bn ⟨T,μ.O⟩ (.tmp ix) with| .int _ j=>Iv (r+16*j.toNat) sz z n as| _=> .fail).run C ⟨T,μ.O⟩=some (v,σ'):=aj
 split at h
 · exact oW (E:=E) (r:=_) hr ho hd hn hz hp h
 · exact absurd h au
theorem Dx {x:Operand} {t0 t:TypeId} {ok:Bool} {x':aT} {n:Nat} {z:V} (hr:Rel X T a μ) (ho:o.op= .typeAssert x t0 t ok) (mE: ∀t1 t2 k,X.iU t1=some k→X.iU t2=some k→t1=t2)
   (hn:X.iU t=some n) (h1:cZ X x=some x') (hz:ez X t=some z) (hd: ∃d,bq X t=some d∧ ∀ms,d≠ .interface ms)
   (aj: (av E (.assert n ok z x')).run C ⟨T,μ.O⟩=some (v,σ')):σ'.T=T∧cM X o a μ σ'.O v:=by
 simp only[av,bD] at aj
 have hx:=aS hr h1 μ.O
 obtain⟨d,Dl,Ea⟩:=hd
 have L4:X.P.underlying t=some d:=Dl
 obtain⟨zv,vh,wq⟩:=gL hz μ.w
 obtain⟨uH,_⟩:=eG (X:=X) (μ:=μ) wq
 have fin: ∀val,(Instr.typeAssert (a.eval x) t0 t ok).run X.P μ.w= .ok val μ.w→(execOp a.eval o).run X.P μ.w= .ok (.value val) μ.w:=fun val hv=>by
   simp only[execOp,ho]
   exact cq hv
 split at aj
 · rename_i e
   rw[e] at hx;simp only[al] at hx
   split at aj
   · rename_i P7
     obtain⟨rfl,rfl⟩:=aX aj
     refine⟨rfl,aM (val:= .tuple #[zv,.bool false]) hr.bd (fin _ ?_) ?_⟩
     · simp only[Instr.typeAssert,Sem.run_bind,run_underlying L4,Result.andThen_ok,hx]
       cases d<;>first| exact absurd rfl (Ea _) | simp[P7,Sem.run_bind,vh]
     · simp only[al];exact⟨_,rfl,by simp[ak,al,uH]⟩
   · exact absurd aj au
 · rename_i t' u e
   rw[e] at hx;simp only[al] at hx
   obtain⟨t1,y,hy,HD,bV⟩:=hx
   split at aj
   · rename_i TD
     obtain⟨rfl,rfl⟩:=aX aj
     have TE:t1=t:=mE t1 t n (by rw[HD,TD]) hn
     refine⟨rfl,aM (val:=if ok then .tuple #[y,.bool true] else y) hr.bd (fin _ ?_) ?_⟩
     · simp only[Instr.typeAssert,Sem.run_bind,run_underlying L4,Result.andThen_ok,hy]
       cases d<;>first| exact absurd rfl (Ea _) | simp[TE]
     · cases ok
       · simpa using bV
       · simp only[if_true,al];exact⟨_,rfl,by simp[ak,al,bV]⟩
   · rename_i TD
     split at aj
     · rename_i P7
       obtain⟨rfl,rfl⟩:=aX aj
       have TE:t1≠t:=fun e=>TD (by rw[e,hn] at HD;injection HD with HD;exact HD.symm)
       refine⟨rfl,aM (val:= .tuple #[zv,.bool false]) hr.bd (fin _ ?_) ?_⟩
       · simp only[Instr.typeAssert,Sem.run_bind,run_underlying L4,Result.andThen_ok,hy]
         cases d<;>first| exact absurd rfl (Ea _) | simp[TE,P7,Sem.run_bind,vh]
       · simp only[al];exact⟨_,rfl,by simp[ak,al,uH]⟩
     · exact absurd aj au
 · exact absurd aj au
end
end Go.AM
