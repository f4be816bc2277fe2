/-
  Texts of the proof, joined by program: AmTr, AmRel, AmObj, AmOps1, AmEq, AmOps2, AmOps3, AmOps4, AmRow, AmOps5, AmOps6, AmOps7. Own work.
-/
import Derived.Test.YtkdfnbahehdhmaaGreatDefs
import Derived.Calls
import Derived.Orders
import Derived.Below
import Derived.Laws.Cells
import Derived.Laws.Rows
import Derived.Laws.Tables
import Derived.Laws.CopyRow
import Derived.ChangeKeysEq
import Derived.Laws.StructEq
import Derived.IntWalk
set_option linter.unusedSimpArgs false
set_option linter.unusedVariables false
namespace Go.AM
structure Hints where
 ux:List (Option Nat):=[]
 bK:List Nat:=[]
 name:List (Nat×Nat):=[]
 lits:List (Nat×List Nat):=[]
 abw:List (Nat×Nat×Nat):=[]
 abx:List (Nat×Nat×Nat):=[]
 dyn:List (Nat×Nat):=[]
 cD:List Nat:=[]
 deep:List Nat:=[]
 aby:List Nat:=[]
 tag:Option (Nat×Nat):=none
 keys:List (Nat×List Nat×List Nat):=[]
 n:Nat:=0
structure TrEnv where
 P:Program
 jR:FuncId→Option Nat
 jb:TypeId→Option Nat
variable (X:TrEnv)
def oo:Value→Option V
 | .bool b=>some (.bool b)
 | .int k n=>some (.int k n)
 | .float .f64 b=>some (.float b)
 | .string s=>some (.str s.data.toList)
 | .pointer none=>some .nilp
 | .slice none 0 0=>some .nils
 | .map none=>some (.mlit [])
 | .nilFunc=>some .nilfn
 | .nilIface=>some .nili
 | _=>none
def jS:List Value→Option (List V)
 | []=>some []
 | v::vs=>match oo v,jS vs with
   | some c,some cs=>some (c::cs)
   | _,_=>none
def uQ:Value→Option V
 | .agg cs=> (jS cs.toList).map .agg
 | v=>oo v
def info (t:TypeId):Option TypeInfo:=X.P.info? t
def bG (t:TypeId):Option Nat:=(info X t).map (·.size)
def bq (t:TypeId):Option TypeDesc:=X.P.underlying t
def gJ (t:TypeId):Option Bool:=(bq X t).map fun| .struct _=>true| .array .. =>true| _=>false
def eA (t:TypeId):Option V:=(info X t).bind fun i=>i.zero.bind uQ
def cR:Operand→Option aW
 | .tmp t=>some (.tmp t)
 | .const v=> (uQ v).map .const
 | .func f=> (X.jR f).map fun n=> .const (.fn n [])
 | .global _=>none
def qI:List Operand→Option (List aW)
 | []=>some []
 | o::os=>match cR X o,qI os with
   | some a,some as=>some (a::as)
   | _,_=>none
def r6:Option Operand→Option (Option aW)
 | none=>some none
 | some o=> (cR X o).map some
mutual
def kK:Nat→TypeId→Option (List Nat)
 | 0,_=>none
 | d+1,t=>match bq X t with
   | some .bool=>if bG X t=some 1 then some [0] else none
   | some (.int _)=>if bG X t=some 1 then some [1] else none
   | some .string=>if bG X t=some 1 then some [2] else none
   | some (.struct fs)=>if X.P.stoodInHeld t=false then(match r7 d fs.toList 0 with
      | some ks=>if bG X t=some ks.length then some ks else none
      | none=>none) else none
   | some (.array n e)=>if gJ X e=some false∧bG X t=some n then(match kK d e with
      | some [k]=>some (List.replicate n k)
      | _=>none) else none
   | _=>none
def r7:Nat→List Field→Nat→Option (List Nat)
 | 0,_,_=>none
 | _+1,[],_=>some []
 | d+1,f::fs,off=>if f.name≠ "_" ∧f.offset=off then match kK d f.type with
    | some ks=>match r7 d fs (off+ks.length) with
      | some Kq=>some (ks++Kq)
      | none=>none
    | none=>none
   else none
end
def jt (place:Nat→Option (Nat×Nat)):List (Nat×Operand)→Option (List (Nat×Nat×aW))
 | []=>some []
 | (i,o)::ps=>match place i,cR X o,jt place ps with
   | some (off,sz),some a,some as=>some ((off,sz,a)::as)
   | _,_,_=>none
def gK:List (Nat×Operand)→Option (List (Nat×aW))
 | []=>some []
 | (i,o)::ps=>match cR X o,gK ps with
   | some a,some as=>some ((i,a)::as)
   | _,_=>none
def gL (t:Nat):Nat:=16*(t+1)
def nameOf (h:Hints) (dst:Nat):Nat:=((h.name.find? (·.1==dst)).map (·.2)).getD (gL dst)
def Mj (ks:List Nat):aW→aW
 | .const v=> .const (A5 ks v)
 | x=>x
def Xj (h:Hints) (dst:Nat):Option Nat:=(h.dyn.find? (·.1==dst)).map (·.2)
def pA (h:Hints) (dst:Nat):List Nat:=((h.lits.find? (·.1==dst)).map (·.2)).getD []
def Xk (h:Hints) (dst:Nat):Option (Nat×Nat):=(h.abw.find? (·.1==dst)).map (·.2)
def isNil:Operand→Bool
 | .const (.slice none 0 0)=>true
 | _=>false
def Xl (h:Hints) (dst:Nat) (x:Operand):Option Nat:=match x with
 | .tmp t=> (h.abx.find? (fun p=>p.1==dst &&p.2.1==t)).map (·.2.2)
 | _=>none
def uR (h:Hints) (dst:Nat) (x:Operand):Option rA:=
 match isNil x,Xk h dst with
 | true,some (r,sz)=>some (.cr r sz)
 | _,_=>match Xl h dst x with
   | some r=> (cR X x).map fun y=> .m7 r y
   | none=> (cR X x).map fun y=> .move (Mj (pA h dst) y)
def oQ (bytes:Nat):Nat:=(140737488355328 - 200*(bytes+1)) / (bytes+1)
def uS (h:Hints) (dst:Nat) (c:Call):Option rA:=
 match c.callee with
 | .value f=>match cR X f,qI X c.args.toList with
   | some f,some as=>some (.call (gL dst) (h.bK.contains dst) f as)
   | _,_=>none
 | .invoke .. =>none
 | .builtin b=>match b,c.args.toList,c.argTypes.toList with
   | .len,[x],[t]=>match cR X x,bq X t with
     | some x,some (.slice _)=>some (.len x)
     | some x,some .string=>some (.uz x)
     | some _,some (.array n _)=>some (.move (.const (.int .i64 n)))
     | _,_=>none
   | .min,xs,_=> (qI X xs).map .min
   | .max,xs,_=> (qI X xs).map .max
   | .append,[s,x],[t,t']=>match cR X s,cR X x,bq X t,bq X t' with
     | some s,some x,some (.slice e),some d=>match bG X e,info X e,eA X e,d with
       | some sz,some i,some z,.slice _| some sz,some i,some z,.string=>if aS z sz then some (if h.cD.contains dst then .lS (nameOf h dst) sz (oQ i.bytes) s x else .append (nameOf h dst) sz (oQ i.bytes) s x) else none
       | _,_,_,_=>none
     | _,_,_,_=>none
   | .copy,[d,s],[t,_]=>match cR X d,cR X s,bq X t with
     | some d,some s,some (.slice e)=> (bG X e).map fun sz=> .copy sz d s
     | _,_,_=>none
   | .clear,[x],[t]=>match cR X x,bq X t with
     | some x,some (.slice e)=>match bG X e,eA X e with
       | some sz,some z=>some (.clear sz z x)
       | _,_=>none
     | _,_=>none
   | _,_,_=>none
def G0:BinOp→Bool
 | .eql=>true
 | .neq=>true
 | _=>false
def gg:BinOp→Bool
 | .neq=>true
 | _=>false
def ua:List (Nat×Nat):=(List.range 40).filterMap fun T=>match X.jb T,(X.P.info? T).map (·.comparable),bq X T with
 | some t,some true,some .bool=>some (t,0)
 | some t,some true,some (.int _)=>some (t,1)
 | some t,some true,some .string=>some (t,2)
 | _,_,_=>none
def Da (op:BinOp) (t:TypeId) (x y:aW):Option rA:=
 if G0 op then match bq X t with
  | some .bool=>some (.qp (gg op) x y)
  | some (.int _) | some .string=>some (.bin op x y)
  | some (.interface _)=>some (.To (gg op) (ua X) x y)
  | some (.pointer e)=> (match bG X e with
    | some (_+1)=>some (.MZ (gg op) x y)
    | _=>none)
  | some (.struct _)=>if X.P.eqGuardType X.P.depth t=false then(kK X 100 t).map fun ks=> .rP (gg op) ks x y else none
  | some (.array _ _)=>if X.P.eqGuardType X.P.depth t=false then(kK X 100 t).map fun ks=> .rP (gg op) ks x y else none
  | _=>none
 else some (.bin op x y)
def qJ (kt:TypeId):Option (Option IntKind):=match bq X kt with
 | some (.int k)=>some (some k)
 | some .string=>some none
 | _=>none
def we (h:Hints) (dst:Nat):Op→Option rA
 | .move x| .assign x=>if h.deep.contains dst then(cR X x).map .deep else if h.aby.contains dst then(cR X x).map .xN else uR X h dst x
 | .pick c a b=>match cR X c,cR X a,cR X b with
   | some c,some a,some b=>some (.pick c a b)
   | _,_,_=>none
 | .alloc t=>match bG X t,eA X t with
   | some sz,some z=>some (.new (gL dst) sz (.const (A5 (pA h dst) z)))
   | _,_=>none
 | .box t x=>match bG X t,cR X x with
   | some sz,some x=>some (.new (gL dst) sz (Mj (pA h dst) x))
   | _,_=>none
 | .build t ps=>match eA X t,bq X t with
   | some (.agg z),some (.struct fs)=>if !fs.toList.all (fun f=> (bG X f.type).isSome) then none else(jt X (fun i=>match fs[i]? with| some f=> (bG X f.type).map fun s=> (f.offset,s) | none=>none) ps.toList).map (.build (xV (pA h dst) z))
   | some (.agg z),some (.array _ e)=>match bG X e with
     | some s=> (jt X (fun i=>some (i*s,s)) ps.toList).map (.build (xV (pA h dst) z))
     | none=>none
   | _,_=>none
 | .buildSlice t n ps=>match bq X t with
   | some (.slice e)=>match bG X e,eA X e,gK X ps.toList with
     | some sz,some z,some as=>some (match Xj h dst with| some ix=> .fY ix (16000000+gL dst) sz z n as| none=>if h.cD.contains dst then .fZ (gL dst) sz z n as else .buildSlice (gL dst) sz z n as)
     | _,_,_=>none
   | _=>none
 | .load t x=>match gJ X t,bG X t,cR X x with
   | some a,some sz,some x=>some (if (pA h dst).isEmpty then .load a sz x else .sC (pA h dst) a sz x)
   | _,_,_=>none
 | .store t x v=>match gJ X t,bG X t,cR X x,cR X v with
   | some a,some sz,some x,some v=>some (.store a sz x v)
   | _,_,_,_=>none
 | .nilCheck x=> (cR X x).map .nilCheck
 | .binOp op t x y _=>match cR X x,cR X y with
   | some x,some y=>Da X op t x y
   | _,_=>none
 | .unOp op _ x=> (cR X x).map (.un op)
 | .convert s d x=>match bq X s,bq X d,cR X x with
   | some (.int _),some (.int k),some x=>some (.ef k x)
   | some (.int _),some (.float .f64),some x=>some (.rQ x)
   | some (.float .f64),some (.int k),some x=>some (.rR k x)
   | some .string,some .string,some x=>some (.qq x)
   | _,_,_=>none
 | .makeInterface t x=>match X.jb t,cR X x,bq X t with
   | some _,some _,some (.interface _)=>none
   | some n,some x,some _=>some (.jo n x)
   | _,_,_=>none
 | .typeAssert x _ t ok=>match X.jb t,cR X x,eA X t,bq X t with
   | some _,some _,some _,some (.interface _)=>none
   | some n,some x,some z,some _=>some (.assert n ok z x)
   | _,_,_,_=>none
 | .makeFunc (.func f) first caps=>if first.isEmpty then match X.jR f,qI X caps.toList with
     | some n,some cs=>some (.ie n cs)
     | _,_=>none
   else none
 | .makeSlice t l c=>match bq X t with
   | some (.slice e)=>match bG X e,info X e,eA X e,cR X l,cR X c with
     | some sz,some i,some z,some l,some c=>some (.makeSlice (gL dst) sz i.bytes z l c)
     | _,_,_,_,_=>none
   | _=>none
 | .slice t x lo hi mx=>match bq X t,cR X x,r6 X lo,r6 X hi,r6 X mx with
   | some (.slice e),some x,some lo,some hi,some mx=> (bG X e).map fun sz=> .slice sz x lo hi mx
   | some .string,some x,some lo,some hi,some none=>some (.jK x lo hi)
   | _,_,_,_,_=>none
 | .fieldAddr s x i=>match bq X s,cR X x with
   | some (.struct fs),some x=>match fs[i]? with
     | some f=>match bG X f.type with
       | some (_+1)=>some (.fieldAddr f.offset x)
       | _=>none
     | none=>none
   | _,_=>none
 | .field s x i=>match bq X s,cR X x with
   | some (.struct fs),some x=>match fs[i]? with
     | some f=>match gJ X f.type,bG X f.type with
       | some a,some sz=>some (.field a f.offset sz x)
       | _,_=>none
     | none=>none
   | _,_=>none
 | .indexAddr t x i=>match bq X t,cR X x,cR X i with
   | some (.slice e),some x,some i=> (bG X e).map fun sz=> .indexAddr sz x i
   | some (.array n e),some x,some i=> (bG X e).map fun sz=> .aU n sz x i
   | _,_,_=>none
 | .index t x i=>match bq X t,cR X x,cR X i with
   | some .string,some x,some i=>some (.jL x i)
   | some (.array n e),some x,some i=>match gJ X e,bG X e with
     | some a,some sz=>some (.m8 a n sz x i)
     | _,_=>none
   | _,_,_=>none
 | .extract x i=> (cR X x).map fun x=> .extract x i
 | .makeMap _ none=>some (.mkMap (gL dst))
 | .range t x=>match bq X t,cR X x with
   | some .string,some x=>some (.qt (gL dst) x)
   | some (.map _ _),some x=>some (.mapIter (gL dst) x)
   | _,_=>none
 | .next x true=> (cR X x).map .qu
 | .lookup t x i ok=>match bq X t,cR X x,cR X i with
   | some (.map kt et),some x,some i=>match qJ X kt,eA X et with
     | some q,some z=>some (.uA q ok z x i)
     | _,_=>none
   | _,_,_=>none
 | .mapUpdate t m k v=>match bq X t,cR X m,cR X k,cR X v with
   | some (.map kt _),some m,some k,some v=> (qJ X kt).map fun q=> .rS q m k v
   | _,_,_,_=>none
 | .insert t m k v=>match bq X t,cR X m,cR X k,cR X v with
   | some (.map kt _),some m,some k,some v=> (qJ X kt).map fun q=> .rS q m k v
   | _,_,_,_=>none
 | .call c=>uS X h dst c
 | _=>none
def np (h:Hints) (ops:Array Oper) (o:Oper):Option bD:=
 let g:Option (Option (Nat×Bool)):=match o.guard with
  | none=>some none
  | some (j,want)=>match (ops[j]?).bind (·.dst) with
    | some d=>some (some (d,want))
    | none=>none
 match g,o.dst.all (· <h.n) with
 | some g,true=>some {dst:=o.dst,op:=(we X h (o.dst.getD 0) o.op).getD .bad,guard:=g,pre:=(o.after.toList.filter (Region.binds .any)).map (·.on)}
 | _,_=>none
def fN (h:Hints) (ops:Array Oper):List Oper→Option (List bD)
 | []=>some []
 | o::os=>match np X h ops o,fN h ops os with
   | some a,some as=>some (a::as)
   | _,_=>none
def yh (h:Hints) (a:Code):Option (Nat×Nat×Nat×Nat×List Nat×List Nat):=
 match a with
 | .seq (.region ..) (.block id (.loop (.seq (.region _ ops false) (.seq (.cond ..) (.block _ (.seq (.region _ gM false) _))))))=>match ops[0]?,gM[0]? with
   | some o,some o5=>match o.op,o.dst,o.guard,o5.op,o5.dst,o5.guard with
     | .next (.tmp it) false,some nx,none,.entry (.tmp it'),some ne,none=> (match h.keys.find? (·.1==nx) with
       | some k=>if nx<h.n∧ne<h.n∧it'=it then some (it,nx,ne,id,k.2.1,k.2.2) else none
       | none=>none)
     | _,_,_,_,_,_=>none
   | _,_=>none
 | _=>none
def zA:Code→Bool
 | .seq (.region ..) _=>true
 | _=>false
def zB (h:Hints) (a b:Code) (ta tb:al):al:=
 match yh h a,zA b,ta,tb with
 | some (it,nx,ne,id,kT,kO),true,.seq tR (.block _ (.loop (.seq (.region as) (.seq tc (.block b1 (.seq (.region bs) tz)))))),.seq tS uT=> .seq tR (.seq (.keys it nx ne id kT kO (.seq (.region (as.drop 1)) tc) (.block b1 (.seq (.region (bs.drop 1)) tz)) tS) uT)
 | _,_,_,_=> .seq ta tb
def cQ (h:Hints):Code→Option al
 | .skip=>some .skip
 | .region _ ops false=> (fN X h ops ops.toList).map fun l=> .region (l.map fun o=> {o with pre:=[]})
 | .region _ ops true=> (fN X h ops ops.toList).map .drawn
 | .seq a b=>match cQ h a,cQ h b with
   | some ta,some tb=>some (zB h a b ta tb)
   | _,_=>none
 | .cond c a b=>match cR X c,cQ h a,cQ h b with
   | some c,some a,some b=>some (.cond c a b)
   | _,_,_=>none
 | .block id b=> (cQ h b).map (.block id)
 | .loop b=> (cQ h b).map .loop
 | .exit id=>some (.exit id)
 | .ret=>some .ret
 | .scope b=> (cQ h b).map .scope
 | .rangeFunc f ps a b=>match cR X f,cQ h a,cQ h b with
   | some f,some a,some b=>if ps.toList.all (fun p=>Nat.blt p h.n)=true then some (.kF f ps.toList a b) else none
   | _,_,_=>none
 | .label _=>some .skip
 | _=>some .bad
def qK:ResultVar→Option qh
 | .tmp t=>some (.tmp t)
 | .cell a t=>match gJ X t,bG X t with
   | some g,some sz=>some (.cell a g sz)
   | _,_=>none
def jy:List ResultVar→Option (List qh)
 | []=>some []
 | r::rs=>match qK X r,jy rs with
   | some a,some as=>some (a::as)
   | _,_=>none
def az (h:Hints) (f:Func):Option aF:=
 match f.body with
 | none=>none
 | some b=>match cQ X {h with n:=f.ntmps} b,jy X f.results.toList with
   | some c,some rs=>some {nparams:=f.params.size+f.nfree,ntmps:=f.ntmps,ux:=h.ux,results:=rs,body:=c,tag:=h.tag}
   | _,_=>none
end Go.AM
namespace Go.AM
open Go Go.RowKit
structure Ctx extends TrEnv where
 Mk:Nat→Prop
 tok:Nat×Nat
instance:CoeOut Ctx TrEnv:=⟨Ctx.toTrEnv⟩
structure Row where
 dc:Nat
 base:Nat
 cap:Nat
structure Mu where
 w:World
 φ:Nat→Row
 O:Nat→Obj
def Mu.own (μ:Mu) (b:Nat):Prop:= ∃r,(μ.O r).es.isSome=true∧(μ.O r).fz=false∧(μ.φ r).cap≠0∧(μ.φ r).dc=b
def Own (X:Ctx) (μ:Mu) (b:Nat):Prop:=μ.own b∨X.Mk b
def di (w:World) (b off sz:Nat) (vs:List Value):Prop:=
 ∀i v,vs[i]? =some v→v.cells.size=sz∧ ∀j c,v.cells[j]? =some c→w.cell? ⟨b,off+i*sz+j,none⟩=some c
def uU (ents:Array MapEntry) (clock:Nat):Prop:=(∀e ∈ ents.toList,e.born<clock)∧(ents.toList.map (·.born)).Nodup
section
variable (X:Ctx) (μ:Mu)
mutual
def ak:V→Value→Prop
 | .bool b,v=>v= .bool b
 | .int k n,v=>v= .int k n
 | .float b,v=>v= .float .f64 b
 | .str s,v=> ∃bs:ByteArray,v= .string bs∧bs.data.toList=s
 | .agg cs,v=>cs.all V.aP=true∧ ∃vs,v= .agg vs∧aj cs vs.toList
 | .tuple cs,v=> ∃vs,v= .tuple vs∧aj cs vs.toList
 | .nilp,v=>v= .pointer none
 | .nilfn,v=>v= .nilFunc
 | .nili,v=>v= .nilIface
 | .fn f caps,v=> ∃F cv,v= .func (.func F) #[] cv∧X.jR F=some f∧aj caps cv.toList
 | .iface t x,v=> ∃T y,v= .iface T y∧X.jb T=some t∧ak x y
 | .nils,v=> ∃a,v= .slice a 0 0
 | .lit sz xs,v=>V.an xs=true∧xs.all V.c6=true∧ ∃a cap vs,v= .slice a xs.length cap∧xs.length≤cap∧aj xs vs∧
    (xs=[]∨ ∃b o,a=some ⟨b,o,none⟩∧ ¬Own X μ b∧b<μ.w.heap.size∧di μ.w b o sz vs)
 | .own ..,_=>False
 | .sl r g off len,v=> ∃a cap,v= .slice a len cap∧len≤cap∧g≤(μ.O r).gen∧
    ((μ.O r).gen=g→0 < (μ.O r).sz∧cap+off=(μ.φ r).cap∧(cap=0∨a=some ⟨(μ.φ r).dc,(μ.φ r).base+off*(μ.O r).sz,none⟩))
 | .ptr r g idx off,v=> ∃a,v= .pointer (some a)∧g≤(μ.O r).gen∧
    ((μ.O r).gen=g→0 < (μ.O r).sz∧a=⟨(μ.φ r).dc,(μ.φ r).base+idx*(μ.O r).sz+off,none⟩)
 | .eptr e off,v=>V.aC e=true∧V.c6 e=true∧ ∃b o sz x,v= .pointer (some ⟨b,o+off,none⟩)∧ ¬Own X μ b∧b<μ.w.heap.size∧ak e x∧di μ.w b o sz [x]
 | .mp r g,v=> ∃a,v= .map (some a)∧g≤(μ.O r).gen∧((μ.O r).gen=g→(μ.O r).sz=0∧a=(μ.φ r).dc)
 | .mlit es,v=>V.an es=true∧(es=[]∧v= .map none∨ ∃a ents clock,v= .map (some a)∧ ¬Own X μ a∧a<μ.w.heap.size∧(μ.w.heap[a]? =some (.map ents clock)∧uU ents clock)∧
    aj es (ents.toList.map fun e=> .tuple #[e.key,e.val]))
 | .it r g,v=> ∃a,v= .pointer (some ⟨a,0,none⟩)∧g≤(μ.O r).gen∧((μ.O r).gen=g→(μ.O r).sz=0∧a=(μ.φ r).dc)
 | .litk sz xs,v=>V.an xs=true∧xs.all V.c6=true∧ ∃a cap vs,v= .slice a xs.length cap∧xs.length≤cap∧aj xs vs∧
    (xs=[]∨a=some ⟨X.tok.1,X.tok.2,none⟩∧ ¬Own X μ X.tok.1∧X.tok.1 <μ.w.heap.size∧di μ.w X.tok.1 X.tok.2 sz vs)
 | .epk i sz e off,v=>V.aC e=true∧V.c6 e=true∧ ∃x,v= .pointer (some ⟨X.tok.1,X.tok.2+i*sz+off,none⟩)∧ ¬Own X μ X.tok.1∧X.tok.1 <μ.w.heap.size∧ak e x∧di μ.w X.tok.1 (X.tok.2+i*sz) sz [x]
 | .msl ..,_=>False
 | .mptr ..,_=>False
 | .any,_=>True
def aj:List V→List Value→Prop
 | [],[]=>True
 | x::xs,v::vs=>ak x v∧aj xs vs
 | _,_=>False
end
end
theorem aj.length {X:Ctx} {μ:Mu}: ∀ {xs:List V} {vs:List Value},aj X μ xs vs→xs.length=vs.length
 | [],[],_=>rfl
 | [],_::_,h=>by simp[aj] at h
 | _::_,[],h=>by simp[aj] at h
 | _::_,_::_,h=>by simp only[aj] at h;simp[aj.length h.2]
theorem aj.get {X:Ctx} {μ:Mu}: ∀ {xs:List V} {vs:List Value},aj X μ xs vs→ ∀ {i:Nat} {x:V},xs[i]? =some x→ ∃v,vs[i]? =some v∧ak X μ x v
 | [],_,_,i,x,hx=>by simp at hx
 | _::_,[],h,_,_,_=>by simp[aj] at h
 | y::ys,v::vs,h,i,x,hx=>by
   simp only[aj] at h
   cases i with
   | zero=>simp at hx;subst hx;exact⟨v,by simp,h.1⟩
   | succ i=>simp at hx;simpa using aj.get h.2 hx
theorem aj.uV {X:Ctx} {μ:Mu}: ∀ {xs:List V} {vs:List Value},xs.length=vs.length→(∀ (i:Nat) (x:V) (v:Value),xs[i]? =some x→vs[i]? =some v→ak X μ x v)→aj X μ xs vs
 | [],[],_,_=>by simp[aj]
 | [],_::_,h,_=>by simp at h
 | _::_,[],h,_=>by simp at h
 | x::xs,v::vs,h,hg=>by
   simp only[aj]
   exact⟨hg 0 x v (by simp) (by simp),aj.uV (by simpa using h) fun i y u hy hu=>hg (i+1) y u (by simpa using hy) (by simpa using hu)⟩
theorem aj.append {X:Ctx} {μ:Mu}: ∀ {xs ys:List V} {vs us:List Value},aj X μ xs vs→aj X μ ys us→aj X μ (xs++ys) (vs++us)
 | [],_,[],_,_,h=>by simpa using h
 | [],_,_::_,_,h,_=>by simp[aj] at h
 | _::_,_,[],_,h,_=>by simp[aj] at h
 | x::xs,ys,v::vs,us,h,h'=>by
   simp only[aj] at h
   simp only[List.cons_append,aj]
   exact⟨h.1,aj.append h.2 h'⟩
theorem aj.take {X:Ctx} {μ:Mu}: ∀ {xs:List V} {vs:List Value} (n:Nat),aj X μ xs vs→aj X μ (xs.take n) (vs.take n)
 | _,_,0,_=>by simp[aj]
 | [],[],n+1,_=>by simp[aj]
 | [],_::_,n+1,h=>by simp[aj] at h
 | _::_,[],n+1,h=>by simp[aj] at h
 | x::xs,v::vs,n+1,h=>by
   simp only[aj] at h
   simp only[List.take_succ_cons,aj]
   exact⟨h.1,aj.take n h.2⟩
theorem aj.drop {X:Ctx} {μ:Mu}: ∀ {xs:List V} {vs:List Value} (n:Nat),aj X μ xs vs→aj X μ (xs.drop n) (vs.drop n)
 | _,_,0,h=>by simpa using h
 | [],[],n+1,_=>by simp[aj]
 | [],_::_,n+1,h=>by simp[aj] at h
 | _::_,[],n+1,h=>by simp[aj] at h
 | x::xs,v::vs,n+1,h=>by
   simp only[aj] at h
   simpa using aj.drop n h.2
theorem aj.set {X:Ctx} {μ:Mu} {xs:List V} {vs:List Value} (h:aj X μ xs vs) (i:Nat) {x:V} {v:Value} (hx:ak X μ x v):aj X μ (xs.set i x) (vs.set i v):=by
 refine aj.uV (by simpa using h.length) fun j y u hy hu=> ?_
 rw[List.getElem?_set] at hy hu
 split at hy
 · rename_i e
   subst e
   by_cases hl:i<xs.length
   · have wQ:i<vs.length:=by rw[←h.length];exact hl
     simp[hl] at hy;simp[wQ] at hu
     subst hy hu;exact hx
   · simp[hl] at hy
 · rename_i e
   simp[e] at hu
   obtain⟨u',BD,hr⟩:=h.get hy
   rw[hu] at BD;injection BD with BD;subst BD;exact hr
structure Le (μ μ':Mu):Prop where
 size:μ.w.heap.size≤μ'.w.heap.size
 cD: ∀b,b<μ.w.heap.size→ ¬μ.own b→μ'.w.heap[b]? =μ.w.heap[b]? ∧ ¬μ'.own b
 gen: ∀r,(μ.O r).gen≤(μ'.O r).gen
 row: ∀r,(μ'.O r).gen=(μ.O r).gen→μ'.φ r=μ.φ r∧(μ'.O r).sz=(μ.O r).sz
 os:μ'.w.os=μ.w.os
 output:μ'.w.output=μ.w.output
 tape:μ'.w.tape=μ.w.tape
 frozen: ∀a:Addr,a.block<μ.w.heap.size→μ'.w.frozen? a=μ.w.frozen? a
theorem Le.refl (μ:Mu):Le μ μ:=
 ⟨Nat.le_refl _,fun _ _ h=> ⟨rfl,h⟩,fun _=>Nat.le_refl _,fun _ _=> ⟨rfl,rfl⟩,rfl,rfl,rfl,fun _ _=>rfl⟩
theorem Le.trans {a b c:Mu} (h:Le a b) (k:Le b c):Le a c where
 size:=Nat.le_trans h.size k.size
 cD:=fun i hi ho=>by
  obtain⟨h1,h2⟩:=h.cD i hi ho
  obtain⟨k1,k2⟩:=k.cD i (Nat.lt_of_lt_of_le hi h.size) h2
  exact⟨k1.trans h1,k2⟩
 gen:=fun r=>Nat.le_trans (h.gen r) (k.gen r)
 row:=fun r e=>by
  have h1:=h.gen r
  have k1:=k.gen r
  obtain⟨a1,a2⟩:=h.row r (by omega)
  obtain⟨b1,b2⟩:=k.row r (by omega)
  exact⟨b1.trans a1,b2.trans a2⟩
 os:=k.os.trans h.os
 output:=k.output.trans h.output
 tape:=k.tape.trans h.tape
 frozen:=fun x hx=> (k.frozen x (Nat.lt_of_lt_of_le hx h.size)).trans (h.frozen x hx)
theorem di.cD {w w':World} {b off sz:Nat} {vs:List Value} (h:di w b off sz vs) (e:w'.heap[b]? =w.heap[b]?):di w' b off sz vs:=by
 intro i v hv
 obtain⟨h1,h2⟩:=h i v hv
 refine⟨h1,fun j c hc=> ?_⟩
 rw[←h2 j c hc]
 simp[World.cell?,e]
mutual
theorem ak.mono {X:Ctx} {μ μ':Mu} (le:Le μ μ'): ∀ {x:V} {v:Value},ak X μ x v→ak X μ' x v
 | .bool _,_,h| .int ..,_,h| .float _,_,h| .str _,_,h| .nilp,_,h| .nilfn,_,h| .nili,_,h| .nils,_,h=>by simpa [ak] using h
 | .any,_,_=>by simp[ak]
 | .own ..,_,h| .msl ..,_,h| .mptr ..,_,h=>by simp[ak] at h
 | .agg cs,_,h=>by
   simp only[ak] at h ⊢
   obtain⟨h1,vs,rfl,h2⟩:=h
   exact⟨h1,vs,rfl,aj.mono le h2⟩
 | .tuple cs,_,h=>by
   simp only[ak] at h ⊢
   obtain⟨vs,rfl,h2⟩:=h
   exact⟨vs,rfl,aj.mono le h2⟩
 | .fn f cs,_,h=>by
   simp only[ak] at h ⊢
   obtain⟨F,cv,rfl,h1,h2⟩:=h
   exact⟨F,cv,rfl,h1,aj.mono le h2⟩
 | .iface t x,_,h=>by
   simp only[ak] at h ⊢
   obtain⟨T,y,rfl,h1,h2⟩:=h
   exact⟨T,y,rfl,h1,ak.mono le h2⟩
 | .lit sz xs,_,h=>by
   simp only[ak] at h ⊢
   obtain⟨h0,ke,a,cap,vs,rfl,h1,h2,h3⟩:=h
   refine⟨h0,ke,a,cap,vs,rfl,h1,aj.mono le h2,h3.imp id ?_⟩
   rintro⟨b,o,rfl,hb,hs,hr⟩
   obtain⟨k1,k2⟩:=le.cD b hs (fun h=>hb (.inl h))
   exact⟨b,o,rfl,(fun h=>h.elim k2 fun h=>hb (.inr h)),Nat.lt_of_lt_of_le hs le.size,hr.cD k1⟩
 | .sl r g off len,_,h=>by
   simp only[ak] at h ⊢
   obtain⟨a,cap,rfl,h1,h2,h3⟩:=h
   have hg:=le.gen r
   refine⟨a,cap,rfl,h1,by omega,fun e=> ?_⟩
   obtain⟨e1,e2⟩:=le.row r (by omega)
   rw[e1,e2];exact h3 (by omega)
 | .ptr r g idx off,_,h=>by
   simp only[ak] at h ⊢
   obtain⟨a,rfl,h2,h3⟩:=h
   have hg:=le.gen r
   refine⟨a,rfl,by omega,fun e=> ?_⟩
   obtain⟨e1,e2⟩:=le.row r (by omega)
   rw[e1,e2];exact h3 (by omega)
 | .eptr e off,_,h=>by
   simp only[ak] at h ⊢
   obtain⟨h0,ke,b,o,sz,x,rfl,hb,hs,h1,hr⟩:=h
   obtain⟨k1,k2⟩:=le.cD b hs (fun h=>hb (.inl h))
   exact⟨h0,ke,b,o,sz,x,rfl,(fun h=>h.elim k2 fun h=>hb (.inr h)),Nat.lt_of_lt_of_le hs le.size,ak.mono le h1,hr.cD k1⟩
 | .litk sz xs,_,h=>by
   simp only[ak] at h ⊢
   obtain⟨h0,ke,a,cap,vs,rfl,h1,h2,h3⟩:=h
   refine⟨h0,ke,a,cap,vs,rfl,h1,aj.mono le h2,h3.imp id ?_⟩
   rintro⟨rfl,hb,hs,hr⟩
   obtain⟨k1,k2⟩:=le.cD _ hs (fun h=>hb (.inl h))
   exact⟨rfl,(fun h=>h.elim k2 fun h=>hb (.inr h)),Nat.lt_of_lt_of_le hs le.size,hr.cD k1⟩
 | .epk i sz e off,_,h=>by
   simp only[ak] at h ⊢
   obtain⟨h0,ke,x,rfl,hb,hs,h1,hr⟩:=h
   obtain⟨k1,k2⟩:=le.cD _ hs (fun h=>hb (.inl h))
   exact⟨h0,ke,x,rfl,(fun h=>h.elim k2 fun h=>hb (.inr h)),Nat.lt_of_lt_of_le hs le.size,ak.mono le h1,hr.cD k1⟩
 | .mp r g,_,h=>by
   simp only[ak] at h ⊢
   obtain⟨a,rfl,h2,h3⟩:=h
   have hg:=le.gen r
   refine⟨a,rfl,by omega,fun e=> ?_⟩
   obtain⟨e1,e2⟩:=le.row r (by omega)
   rw[e1,e2];exact h3 (by omega)
 | .it r g,_,h=>by
   simp only[ak] at h ⊢
   obtain⟨a,rfl,h2,h3⟩:=h
   have hg:=le.gen r
   refine⟨a,rfl,by omega,fun e=> ?_⟩
   obtain⟨e1,e2⟩:=le.row r (by omega)
   rw[e1,e2];exact h3 (by omega)
 | .mlit es,_,h=>by
   simp only[ak] at h ⊢
   obtain⟨h0,h⟩:=h
   refine⟨h0,h.imp id ?_⟩
   rintro⟨a,ents,clock,rfl,hb,hs,h1,h2⟩
   obtain⟨k1,k2⟩:=le.cD a hs (fun h=>hb (.inl h))
   exact⟨a,ents,clock,rfl,(fun h=>h.elim k2 fun h=>hb (.inr h)),Nat.lt_of_lt_of_le hs le.size,by rw[k1];exact h1,aj.mono le h2⟩
theorem aj.mono {X:Ctx} {μ μ':Mu} (le:Le μ μ'): ∀ {xs:List V} {vs:List Value},aj X μ xs vs→aj X μ' xs vs
 | [],[],_=>by simp[aj]
 | [],_::_,h=>by simp[aj] at h
 | _::_,[],h=>by simp[aj] at h
 | x::xs,v::vs,h=>by
   simp only[aj] at h ⊢
   exact⟨ak.mono le h.1,aj.mono le h.2⟩
end
def kr (X:Ctx) (μ:Mu) (r:Nat) (es:List V):Prop:=0 < (μ.O r).sz∧es.length≤(μ.φ r).cap∧es.all (aS · (μ.O r).sz)=true∧
 ((μ.φ r).cap=0∨ ∃c T vs,μ.w.heap[(μ.φ r).dc]? =some (.cells c T (0,0))∧(μ.φ r).base+(μ.φ r).cap*(μ.O r).sz≤c.size∧aj X μ es vs∧
   di μ.w (μ.φ r).dc (μ.φ r).base (μ.O r).sz vs)
def ma (X:Ctx) (μ:Mu) (ob:Go.Obj) (es:List V):Prop:=
 (∃ents clock,ob= .map ents clock∧aj X μ es (ents.toList.map fun e=> .tuple #[e.key,e.val])∧uU ents clock)∨(∃ (s:ByteArray) (pos:Nat),ob= .stringIter s pos∧es=[.str s.data.toList,.int .i64 (pos:Int)])∨
 ∃mo since ng,ob= .mapIter mo since #[] since∧es=[.mlit ng]∧(mo=none∧ng=[]∨ ∃m ents,mo=some m∧ ¬Own X μ m∧m<μ.w.heap.size∧μ.w.heap[m]? =some (.map ents since)∧uU ents since∧aj X μ ng (ents.toList.map fun e=> .tuple #[e.key,e.val]))
theorem ma.mono {X:Ctx} {μ μ':Mu} (le:Le μ μ') {ob:Go.Obj} {es:List V} (h:ma X μ ob es):ma X μ' ob es:=by
 rcases h with⟨ents,clock,h1,h2,h3⟩ | h| ⟨mo,since,ng,h1,h2,h3⟩
 · exact .inl ⟨ents,clock,h1,aj.mono le h2,h3⟩
 · exact .inr (.inl h)
 · refine .inr (.inr ⟨mo,since,ng,h1,h2,h3.imp id ?_⟩)
   rintro⟨m,ents,k1,k2,k3,k4,k5,k6⟩
   obtain⟨l1,l2⟩:=le.cD m k3 (fun h=>k2 (.inl h))
   exact⟨m,ents,k1,(fun h=>h.elim l2 fun h=>k2 (.inr h)),Nat.lt_of_lt_of_le k3 le.size,by rw[l1];exact k4,k5,aj.mono le k6⟩
theorem ma.live {X:Ctx} {μ:Mu} {ob:Go.Obj} {es:List V} (h:ma X μ ob es) (a:Addr) (w:World) (hw:w.heap[a.block]? =some ob):w.frozen? a=false:=by
 rcases h with⟨_,_,rfl,_⟩ | ⟨_,_,rfl,_⟩ | ⟨_,_,_,rfl,_⟩ <;>simp only[World.frozen?,hw]
def qL (X:Ctx) (μ:Mu) (r:Nat) (es:List V):Prop:=(μ.O r).sz=0∧(μ.φ r).cap≠0∧
 ∃ob,μ.w.heap[(μ.φ r).dc]? =some ob∧ma X μ ob es
def fE (X:Ctx) (μ:Mu) (r:Nat):Prop:= ∀es,(μ.O r).es=some es→kr X μ r es∨qL X μ r es
def Inj (μ:Mu):Prop:= ∀r r',r≠r'→(μ.O r).es.isSome=true→(μ.O r').es.isSome=true→(μ.φ r).cap≠0→(μ.φ r').cap≠0→(μ.φ r).dc≠(μ.φ r').dc
structure bu (X:Ctx) (μ:Mu):Prop where
 ok: ∀r,fE X μ r
 inj:Inj μ
 sR: ∀r,(μ.O r).es.isSome=true→(μ.φ r).cap≠0→ ¬X.Mk (μ.φ r).dc
 blt: ∀b,X.Mk b→b<μ.w.heap.size
theorem bu.row {X:Ctx} {μ:Mu} (ho:bu X μ) (r:Nat) (es:List V) (bR: (μ.O r).es=some es) (h0:0 < (μ.O r).sz):kr X μ r es:=by
 rcases ho.ok r es bR with h| ⟨h,_⟩
 · exact h
 · omega
theorem bu.map {X:Ctx} {μ:Mu} (ho:bu X μ) (r:Nat) (es:List V) (bR: (μ.O r).es=some es) (h0: (μ.O r).sz=0):qL X μ r es:=by
 rcases ho.ok r es bR with⟨h,_⟩ | h
 · omega
 · exact h
theorem bu.ents {X:Ctx} {μ:Mu} (ho:bu X μ) (r:Nat) (es:List V) (bR: (μ.O r).es=some es) (h0: (μ.O r).sz=0): ((μ.φ r).cap≠0∧ ∃ents clock,μ.w.heap[(μ.φ r).dc]? =some (.map ents clock)∧aj X μ es (ents.toList.map fun e=> .tuple #[e.key,e.val])∧uU ents clock)∨
  ((μ.φ r).cap≠0∧ ∃ (s:ByteArray) (pos:Nat),μ.w.heap[(μ.φ r).dc]? =some (.stringIter s pos)∧es=[.str s.data.toList,.int .i64 (pos:Int)])∨ ∃ng,es=[.mlit ng]:=by
 obtain⟨_,h2,ob,h3,h4⟩:=ho.map r es bR h0
 rcases h4 with⟨ents,clock,rfl,h⟩ | ⟨s,pos,rfl,h⟩ | ⟨_,_,ng,_,h,_⟩
 · exact .inl ⟨h2,ents,clock,h3,h⟩
 · exact .inr (.inl ⟨h2,s,pos,h3,h⟩)
 · exact .inr (.inr ⟨ng,h⟩)
theorem fE.dc {X:Ctx} {μ:Mu} {r:Nat} {es:List V} (h:kr X μ r es∨qL X μ r es) (hc: (μ.φ r).cap≠0): (μ.φ r).dc<μ.w.heap.size:=by
 rcases h with⟨_,_,_,h⟩ | ⟨_,_,ob,h,_⟩
 · rcases h with h| ⟨_,_,_,h,_⟩
   · exact absurd h hc
   · exact(Array.getElem?_eq_some_iff.1 h).1
 · exact(Array.getElem?_eq_some_iff.1 h).1
theorem fE.cD {X:Ctx} {μ μ':Mu} {r r':Nat} {es:List V} (le:Le μ μ') (h:kr X μ r es∨qL X μ r es) (cH: (μ'.O r').sz=(μ.O r).sz) (hφ:μ'.φ r'=μ.φ r)
   (hb: (μ.φ r).cap≠0→μ'.w.heap[(μ.φ r).dc]? =μ.w.heap[(μ.φ r).dc]?):kr X μ' r' es∨qL X μ' r' es:=by
 rcases h with⟨h1,h2,h3,h4⟩ | ⟨h1,h2,ob,h3,h4⟩
 · left
   unfold kr
   rw[cH,hφ]
   by_cases hc: (μ.φ r).cap=0
   · exact⟨h1,h2,h3,.inl hc⟩
   · rcases h4 with h4| ⟨c,T,vs,k1,k2,k3,k4⟩
     · exact absurd h4 hc
     · exact⟨h1,h2,h3,.inr ⟨c,T,vs,by rw[hb hc];exact k1,k2,aj.mono le k3,k4.cD (hb hc)⟩⟩
 · right
   unfold qL
   rw[cH,hφ]
   exact⟨h1,h2,ob,by rw[hb h2];exact h3,h4.mono le⟩
structure BE (w0:World) (Kr:Nat→Prop) (μ:Mu):Prop where
 size:w0.heap.size≤μ.w.heap.size
 cD: ∀b,b<w0.heap.size→ ¬Kr b→μ.w.heap[b]? =w0.heap[b]? ∧ ¬μ.own b
 os:μ.w.os=w0.os
 output:μ.w.output=w0.output
 tape:μ.w.tape=w0.tape
 frozen: ∀a:Addr,a.block<w0.heap.size→μ.w.frozen? a=w0.frozen? a
theorem BE.step {w0:World} {Kr:Nat→Prop} {μ μ':Mu} (h:BE w0 Kr μ) (k:Le μ μ'):BE w0 Kr μ' where
 size:=Nat.le_trans h.size k.size
 cD:=fun i hi ho=>by
  obtain⟨h1,h2⟩:=h.cD i hi ho
  obtain⟨k1,k2⟩:=k.cD i (Nat.lt_of_lt_of_le hi h.size) h2
  exact⟨k1.trans h1,k2⟩
 os:=k.os.trans h.os
 output:=k.output.trans h.output
 tape:=k.tape.trans h.tape
 frozen:=fun x hx=> (k.frozen x (Nat.lt_of_lt_of_le hx h.size)).trans (h.frozen x hx)
theorem ak.mb {X:Ctx} {μ:Mu} {x:V} {v:Value} (h:ak X μ x v) (hc:x.aP=true):v.oneCell'=true∧v.cells= #[v]:=by
 cases x<;>simp[V.aP] at hc<;>simp only[ak] at h
 case bool=>subst h;exact⟨rfl,rfl⟩
 case int=>subst h;exact⟨rfl,rfl⟩
 case float=>subst h;exact⟨rfl,rfl⟩
 case str=>obtain⟨_,rfl,_⟩:=h;exact⟨rfl,rfl⟩
 case nilp=>subst h;exact⟨rfl,rfl⟩
 case nilfn=>subst h;exact⟨rfl,rfl⟩
 case nili=>subst h;exact⟨rfl,rfl⟩
 case fn=>obtain⟨_,_,rfl,_⟩:=h;exact⟨rfl,rfl⟩
 case iface=>obtain⟨_,_,rfl,_⟩:=h;exact⟨rfl,rfl⟩
 case nils=>obtain⟨_,rfl⟩:=h;exact⟨rfl,rfl⟩
 case lit=>obtain⟨_,_,_,_,_,rfl,_⟩:=h;exact⟨rfl,rfl⟩
 case sl=>obtain⟨_,_,rfl,_⟩:=h;exact⟨rfl,rfl⟩
 case ptr=>obtain⟨_,rfl,_⟩:=h;exact⟨rfl,rfl⟩
 case eptr=>obtain⟨_,_,_,_,_,_,rfl,_⟩:=h;exact⟨rfl,rfl⟩
 case litk=>obtain⟨_,_,_,_,_,rfl,_⟩:=h;exact⟨rfl,rfl⟩
 case epk=>obtain⟨_,_,_,rfl,_⟩:=h;exact⟨rfl,rfl⟩
 case mp=>obtain⟨_,rfl,_⟩:=h;exact⟨rfl,rfl⟩
 case it=>obtain⟨_,rfl,_⟩:=h;exact⟨rfl,rfl⟩
 case mlit=>obtain⟨_,⟨_,rfl⟩ | ⟨_,_,_,rfl,_⟩⟩:=h<;>exact⟨rfl,rfl⟩
theorem V.fP {x:V} (h:x.aP=true):x.cells=[x]:=by
 cases x<;>simp_all[V.aP,V.cells]
theorem ak.cells {X:Ctx} {μ:Mu} {x:V} {v:Value} (h:ak X μ x v) (hl:x.c6=true):aj X μ x.cells v.cells.toList:=by
 simp only[V.c6,Bool.or_eq_true] at hl
 rcases hl with hl| hl
 · cases x<;>simp[V.isAgg] at hl
   simp only[ak] at h
   obtain⟨_,vs,rfl,h2⟩:=h
   exact h2
 · rw[(h.mb hl).2,V.fP hl]
   simp[aj,h]
theorem ak.dY {X:Ctx} {μ:Mu} {x:V} {v:Value} (h:ak X μ x v) (hl:x.c6=true):v.cells.size=x.cells.length:=by
 have:=(h.cells hl).length
 simpa using this.symm
theorem ak.ju {X:Ctx} {μ:Mu} {x:V} {v:Value} (h:ak X μ x v) (hl:x.c6=true):x.cells.all V.aP=true:=by
 simp only[V.c6,Bool.or_eq_true] at hl
 rcases hl with hl| hl
 · cases x<;>simp[V.isAgg] at hl
   simp only[ak] at h
   exact h.1
 · rw[V.fP hl];simp[hl]
end Go.AM
namespace Go.AM
open Go Go.RowKit
theorem aB {α:Type} (f:Nat→α) (t:Nat) (v:α):dn f t v t=v:=by simp[dn]
theorem a8 {α:Type} (f:Nat→α) {t n:Nat} (v:α) (h:n≠t):dn f t v n=f n:=by simp[dn,h]
theorem di.zC {w:World} {b off sz:Nat} {vs:List Value} {c:Array Value} {T:TypeId} {fr:Nat×Nat} (hb:w.heap[b]? =some (.cells c T fr))
  (h: ∀i v,vs[i]? =some v→v.cells.size=sz∧ ∀j x,v.cells[j]? =some x→c[off+i*sz+j]? =some x):di w b off sz vs:=by
 intro i v hv
 obtain⟨h1,h2⟩:=h i v hv
 refine⟨h1,fun j x hx=> ?_⟩
 simp[World.cell?,hb,h2 j x hx]
theorem di.G1 {w:World} {b off sz:Nat} {vs:List Value} {c:Array Value} {T:TypeId} {fr:Nat×Nat} (hb:w.heap[b]? =some (.cells c T fr))
  (h:di w b off sz vs): ∀i v,vs[i]? =some v→v.cells.size=sz∧ ∀j x,v.cells[j]? =some x→c[off+i*sz+j]? =some x:=by
 intro i v hv
 obtain⟨h1,h2⟩:=h i v hv
 refine⟨h1,fun j x hx=> ?_⟩
 have:=h2 j x hx
 simpa [World.cell?,hb] using this
theorem zD {μ:Mu} {r:Nat} {o:Obj} {w':World} (h:o.es.isSome=true→o.fz=false→(μ.O r).es.isSome=true∧(μ.O r).fz=false) {b:Nat}
   (hb: (⟨w',μ.φ,dn μ.O r o⟩:Mu).own b):μ.own b:=by
 obtain⟨r',h1,h2,h3,h4⟩:=hb
 by_cases e:r'=r
 · subst e
   simp only[aB] at h1 h2
   obtain⟨k1,k2⟩:=h h1 h2
   exact⟨r',k1,k2,h3,h4⟩
 · simp only[a8 _ _ e] at h1 h2
   exact⟨r',h1,h2,h3,h4⟩
theorem bu.BF {X:Ctx} {μ μ':Mu} (ho:bu X μ) (le:Le μ μ') (hO:μ'.O=μ.O) (hφ:μ'.φ=μ.φ)
  (hb: ∀b,b<μ.w.heap.size→μ'.w.heap[b]? =μ.w.heap[b]?):bu X μ' where
 ok:=fun r es bR=>by
  rw[hO] at bR
  exact fE.cD le (ho.ok r es bR) (by rw[hO]) (by rw[hφ]) fun hc=>hb _ (fE.dc (ho.ok r es bR) hc)
 inj:=by unfold Inj;rw[hO,hφ];exact ho.inj
 sR:=by rw[hO,hφ];exact ho.sR
 blt:=fun b hb=>Nat.lt_of_lt_of_le (ho.blt b hb) le.size
theorem Le.drew {X:Ctx} {μ:Mu} (ho:bu X μ):Le μ ⟨μ.w.drew,μ.φ,μ.O⟩∧bu X ⟨μ.w.drew,μ.φ,μ.O⟩:=by
 have le:Le μ ⟨μ.w.drew,μ.φ,μ.O⟩:=
  ⟨Nat.le_refl _,fun _ _ h=> ⟨rfl,h⟩,fun _=>Nat.le_refl _,fun _ _=> ⟨rfl,rfl⟩,rfl,rfl,rfl,fun _ _=>rfl⟩
 exact⟨le,ho.BF le rfl rfl fun _ _=>rfl⟩
theorem yi {X:Ctx} {μ:Mu} (ho:bu X μ) (r sz cap:Nat) (arr:Bool) {es:List V} {vs:List Value} {c:Array Value} (T:TypeId) (cH:0 <sz)
   (dz:es.length≤cap) (mf:es.all (aS · sz)=true) (bU:aj X μ es vs) (hc:cap*sz≤c.size)
   (cP: ∀i v,vs[i]? =some v→v.cells.size=sz∧ ∀j x,v.cells[j]? =some x→c[i*sz+j]? =some x):
   let μ':Mu:=⟨μ.w.alloc (.cells c T (0,0)),dn μ.φ r ⟨μ.w.heap.size,0,cap⟩,dn μ.O r {gen:=(μ.O r).gen+1,sz:=sz,arr:=arr,fz:=false,es:=some es}⟩
   Le μ μ'∧bu X μ':=by
 intro μ'
 have iU: ∀b,b<μ.w.heap.size→μ'.w.heap[b]? =μ.w.heap[b]? :=fun b hb=>heap_alloc_old _ _ _ hb
 have zE:μ'.w.heap.size=μ.w.heap.size+1:=Array.size_push _
 have pB:μ'.w.heap[μ.w.heap.size]? =some (.cells c T (0,0)):=heap_alloc_new _ _
 have le:Le μ μ':=by
   refine⟨by omega,fun b hb ez=> ⟨iU b hb,?_⟩,fun r'=> ?_,fun r' e=> ?_,rfl,rfl,rfl,fun a ha=> ?_⟩
   · rintro⟨r',h1,h2,h3,h4⟩
     by_cases e:r'=r
     · subst e
       simp only[μ',aB] at h4
       omega
     · simp only[μ',a8 _ _ e] at h1 h2 h3 h4
       exact ez ⟨r',h1,h2,h3,h4⟩
   · by_cases e:r'=r
     · subst e;simp[μ',aB]
     · simp[μ',a8 _ _ e]
   · by_cases e':r'=r
     · subst e';simp[μ',aB] at e
     · simp[μ',a8 _ _ e']
   · simp only[World.frozen?,iU a.block ha]
 refine⟨le,fun r' es' fF=> ?_,fun r1 r2 c7 h1 h2 h3 h4=> ?_,fun r' h1 h2 hb=> ?_,fun b hb=>Nat.lt_of_lt_of_le (ho.blt b hb) le.size⟩
 rotate_left 2
 · by_cases e:r'=r
   · subst e
     simp only[μ',aB] at hb
     have:=ho.blt _ hb
     omega
   · simp only[μ',a8 _ _ e] at h1 h2 hb
     exact ho.sR r' h1 h2 hb
 · by_cases e:r'=r
   · subst e
     simp only[μ',aB] at fF ⊢
     injection fF with fF
     subst fF
     refine .inl ?_
     unfold kr
     simp only[μ',aB]
     refine⟨cH,dz,mf,.inr ⟨c,T,vs,pB,by simpa using hc,aj.mono le bU,di.zC pB ?_⟩⟩
     simpa using cP
   · have hO:μ'.O r'=μ.O r':=by simp[μ',a8 _ _ e]
     have hφ:μ'.φ r'=μ.φ r':=by simp[μ',a8 _ _ e]
     rw[hO] at fF
     exact fE.cD le (ho.ok r' es' fF) (by rw[hO]) hφ fun hc=>iU _ (fE.dc (ho.ok r' es' fF) hc)
 · have hold: ∀r',r'≠r→(μ.O r').es.isSome=true→(μ.φ r').cap≠0→(μ.φ r').dc<μ.w.heap.size:=fun r' _ hs A4=>by
     obtain⟨es',he⟩:=Option.isSome_iff_exists.1 hs
     exact fE.dc (ho.ok r' es' he) A4
   by_cases e1:r1=r
   · subst e1
     have e2:r2≠r1:=fun e=>c7 e.symm
     simp only[μ',aB,a8 _ _ e2] at h1 h2 h3 h4 ⊢
     have:=hold r2 e2 h2 h4
     omega
   · by_cases e2:r2=r
     · subst e2
       simp only[μ',aB,a8 _ _ e1] at h1 h2 h3 h4 ⊢
       have:=hold r1 e1 h1 h3
       omega
     · simp only[μ',a8 _ _ e1,a8 _ _ e2] at h1 h2 h3 h4 ⊢
       exact ho.inj r1 r2 c7 h1 h2 h3 h4
theorem Eu {X:Ctx} {μ:Mu} (ho:bu X μ) (r sz:Nat) (cH:0 <sz):
   let μ':Mu:=⟨μ.w,dn μ.φ r ⟨0,0,0⟩,dn μ.O r {gen:=(μ.O r).gen+1,sz:=sz,arr:=true,fz:=false,es:=some []}⟩
   Le μ μ'∧bu X μ':=by
 intro μ'
 have le:Le μ μ':=by
   refine⟨Nat.le_refl _,fun b hb ez=> ⟨rfl,?_⟩,fun r'=> ?_,fun r' e=> ?_,rfl,rfl,rfl,fun _ _=>rfl⟩
   · rintro⟨r',h1,h2,h3,h4⟩
     by_cases e:r'=r
     · subst e
       simp only[μ',aB] at h3
       exact h3 rfl
     · simp only[μ',a8 _ _ e] at h1 h2 h3 h4
       exact ez ⟨r',h1,h2,h3,h4⟩
   · by_cases e:r'=r
     · subst e;simp[μ',aB]
     · simp[μ',a8 _ _ e]
   · by_cases e':r'=r
     · subst e';simp[μ',aB] at e
     · simp[μ',a8 _ _ e']
 refine⟨le,fun r' es' fF=> ?_,fun r1 r2 c7 h1 h2 h3 h4=> ?_,fun r' h1 h2 hb=> ?_,ho.blt⟩
 · by_cases e:r'=r
   · subst e
     simp only[μ',aB] at fF
     injection fF with fF
     subst fF
     refine .inl ?_
     unfold kr
     simp only[μ',aB]
     exact⟨cH,Nat.le_refl _,rfl,.inl (by simp)⟩
   · have hO:μ'.O r'=μ.O r':=by simp[μ',a8 _ _ e]
     have hφ:μ'.φ r'=μ.φ r':=by simp[μ',a8 _ _ e]
     rw[hO] at fF
     exact fE.cD le (ho.ok r' es' fF) (by rw[hO]) hφ fun _=>rfl
 · have e1:r1≠r:=by
     intro e;subst e
     simp only[μ',aB] at h3
     exact h3 rfl
   have e2:r2≠r:=by
     intro e;subst e
     simp only[μ',aB] at h4
     exact h4 rfl
   simp only[μ',a8 _ _ e1,a8 _ _ e2] at h1 h2 h3 h4 ⊢
   exact ho.inj r1 r2 c7 h1 h2 h3 h4
 · have e:r'≠r:=by
     intro e;subst e
     simp only[μ',aB] at h2
     exact h2 rfl
   simp only[μ',a8 _ _ e] at h1 h2 hb
   exact ho.sR r' h1 h2 hb
theorem Ks {X:Ctx} {μ:Mu} (ho:bu X μ) {r r1:Nat} (c7:r1≠r):
   let μ':Mu:=⟨μ.w,dn μ.φ r (μ.φ r1),dn (dn μ.O r ⟨(μ.O r).gen+1,(μ.O r1).sz,(μ.O r1).arr,(μ.O r1).fz,(μ.O r1).es⟩) r1 ⟨(μ.O r1).gen+1,(μ.O r1).sz,(μ.O r1).arr,(μ.O r1).fz,none⟩⟩
   Le μ μ'∧bu X μ':=by
 intro μ'
 have uW:r≠r1:=Ne.symm c7
 have Rk:μ'.O r1=⟨(μ.O r1).gen+1,(μ.O r1).sz,(μ.O r1).arr,(μ.O r1).fz,none⟩:=by simp[μ',aB]
 have hOr:μ'.O r=⟨(μ.O r).gen+1,(μ.O r1).sz,(μ.O r1).arr,(μ.O r1).fz,(μ.O r1).es⟩:=by simp[μ',a8 _ _ uW,aB]
 have Xm:μ'.φ r=μ.φ r1:=by simp[μ',aB]
 have hO: ∀r',r'≠r→r'≠r1→μ'.O r'=μ.O r':=fun r' h1 h2=>by simp[μ',a8 _ _ h1,a8 _ _ h2]
 have hφ: ∀r',r'≠r→μ'.φ r'=μ.φ r':=fun r' h1=>by simp[μ',a8 _ _ h1]
 have im: ∀b,μ'.own b→μ.own b:=by
   rintro b ⟨r',h1,h2,h3,h4⟩
   by_cases e1:r'=r1
   · subst e1;rw[Rk] at h1;simp at h1
   · by_cases e:r'=r
     · subst e
       rw[hOr] at h1 h2
       rw[Xm] at h3 h4
       exact⟨r1,h1,h2,h3,h4⟩
     · rw[hO _ e e1] at h1 h2
       rw[hφ _ e] at h3 h4
       exact⟨r',h1,h2,h3,h4⟩
 have le:Le μ μ':=by
   refine⟨Nat.le_refl _,fun b hb ez=> ⟨rfl,fun h=>ez (im b h)⟩,fun r'=> ?_,fun r' e=> ?_,rfl,rfl,rfl,fun _ _=>rfl⟩
   · by_cases e1:r'=r1
     · subst e1;rw[Rk];simp
     · by_cases e:r'=r
       · subst e;rw[hOr];simp
       · rw[hO _ e e1];exact Nat.le_refl _
   · by_cases e1:r'=r1
     · subst e1;rw[Rk] at e;simp at e
     · by_cases e2:r'=r
       · subst e2;rw[hOr] at e;simp at e
       · rw[hO _ e2 e1,hφ _ e2];exact⟨rfl,rfl⟩
 refine⟨le,fun r' es' fF=> ?_,fun r2 r3 Xn h1 h2 h3 h4=> ?_,fun r' h1 h2 hb=> ?_,ho.blt⟩
 · by_cases e1:r'=r1
   · subst e1;rw[Rk] at fF;simp at fF
   · by_cases e:r'=r
     · subst e
       rw[hOr] at fF
       exact fE.cD (r:=r1) le (ho.ok r1 es' fF) (by rw[hOr]) Xm fun _=>rfl
     · rw[hO _ e e1] at fF
       exact fE.cD le (ho.ok r' es' fF) (by rw[hO _ e e1]) (hφ _ e) fun _=>rfl
 · have ne1:r2≠r1:=by intro e;subst e;rw[Rk] at h1;simp at h1
   have Xo:r3≠r1:=by intro e;subst e;rw[Rk] at h2;simp at h2
   by_cases e2:r2=r
   · subst e2
     have e3:r3≠r2:=Ne.symm Xn
     rw[hOr] at h1
     rw[hO _ e3 Xo] at h2
     rw[Xm] at h3 ⊢
     rw[hφ _ e3] at h4 ⊢
     exact ho.inj r1 r3 (Ne.symm Xo) h1 h2 h3 h4
   · rw[hO _ e2 ne1] at h1
     rw[hφ _ e2] at h3 ⊢
     by_cases e3:r3=r
     · subst e3
       rw[hOr] at h2
       rw[Xm] at h4 ⊢
       exact ho.inj r2 r1 ne1 h1 h2 h3 h4
     · rw[hO _ e3 Xo] at h2
       rw[hφ _ e3] at h4 ⊢
       exact ho.inj r2 r3 Xn h1 h2 h3 h4
 · have ne1:r'≠r1:=by intro e;subst e;rw[Rk] at h1;simp at h1
   by_cases e:r'=r
   · subst e
     rw[hOr] at h1
     rw[Xm] at h2 hb
     exact ho.sR r1 h1 h2 hb
   · rw[hO _ e ne1] at h1
     rw[hφ _ e] at h2 hb
     exact ho.sR r' h1 h2 hb
theorem oq {X:Ctx} {μ:Mu} (ho:bu X μ) (r:Nat) {es:List V} {c:Array Value} {T:TypeId} (bR: (μ.O r).es=some es) (gX: (μ.O r).fz=false)
   (hb:μ.w.heap[(μ.φ r).dc]? =some (.cells c T (0,0))) (nq: (μ.φ r).cap≠0)
   {c':Array Value} (hc:c'.size=c.size) (Rm Db Ew:Nat) {es':List V} {vs':List Value}
   (hg: (Rm=(μ.O r).gen∧Db=(μ.φ r).base∧Ew=(μ.φ r).cap)∨(μ.O r).gen<Rm) (acR:Ew≠0)
   (hlen:es'.length≤Ew) (mf:es'.all (aS · (μ.O r).sz)=true) (bU:aj X μ es' vs') (wW:Db+Ew*(μ.O r).sz≤c.size)
   (cP: ∀i v,vs'[i]? =some v→v.cells.size=(μ.O r).sz∧ ∀j x,v.cells[j]? =some x→c'[Db+i*(μ.O r).sz+j]? =some x):
   let μ':Mu:=⟨μ.w.setRow (μ.φ r).dc c',dn μ.φ r ⟨(μ.φ r).dc,Db,Ew⟩,dn μ.O r {μ.O r with gen:=Rm,es:=some es'}⟩
   Le μ μ'∧bu X μ':=by
 intro μ'
 have pB:μ'.w.heap[(μ.φ r).dc]? =some (.cells c' T (0,0)):=setRow_heap _ _ _ _ _ _ hb
 have pC: ∀b,b≠(μ.φ r).dc→μ'.w.heap[b]? =μ.w.heap[b]? :=fun b c7=>setRow_other _ _ _ _ c7
 have zE:μ'.w.heap.size=μ.w.heap.size:=by simp[μ',World.setRow]
 have bl: (μ.φ r).dc<μ.w.heap.size:=(Array.getElem?_eq_some_iff.1 hb).1
 have im:μ.own (μ.φ r).dc:=⟨r,by simp[bR],gX,nq,rfl⟩
 have le:Le μ μ':=by
   refine⟨by omega,fun b rC ez=> ⟨pC b (fun e=>ez (e ▸ im)),?_⟩,fun r'=> ?_,fun r' e=> ?_,rfl,rfl,rfl,fun a ha=> ?_⟩
   · rintro⟨r',h1,h2,h3,h4⟩
     by_cases e:r'=r
     · subst e
       simp only[μ',aB] at h4
       exact ez (h4 ▸ im)
     · simp only[μ',a8 _ _ e] at h1 h2 h3 h4
       exact ez ⟨r',h1,h2,h3,h4⟩
   · by_cases e:r'=r
     · subst e;simp only[μ',aB];omega
     · simp[μ',a8 _ _ e]
   · by_cases e':r'=r
     · subst e'
       simp only[μ',aB] at e ⊢
       rcases hg with⟨_,g2,g3⟩ | hg
       · subst g2;subst g3;exact⟨rfl,trivial⟩
       · omega
     · simp[μ',a8 _ _ e']
   · by_cases e:a.block=(μ.φ r).dc
     · simp only[World.frozen?,e,pB,hb]
     · simp only[World.frozen?,pC _ e]
 refine⟨le,fun r' Xp pD=> ?_,fun r1 r2 c7 h1 h2 h3 h4=> ?_,fun r' h1 h2 hb=> ?_,fun b hb=>Nat.lt_of_lt_of_le (ho.blt b hb) le.size⟩
 rotate_left 2
 · by_cases e:r'=r
   · subst e
     simp only[μ',aB] at hb
     exact ho.sR r' (by simp[bR]) nq hb
   · simp only[μ',a8 _ _ e] at h1 h2 hb
     exact ho.sR r' h1 h2 hb
 · by_cases e:r'=r
   · subst e
     have cH:0 < (μ.O r').sz:=by
       rcases ho.ok r' es bR with⟨h,_⟩ | ⟨_,_,ob,hm,IS⟩
       · exact h
       · rw[hb] at hm;injection hm with hm;subst hm
         rcases IS with⟨_,_,h,_⟩ | ⟨_,_,h,_⟩ | ⟨_,_,_,h,_⟩ <;>cases h
     simp only[μ',aB] at pD
     injection pD with pD
     subst pD
     refine .inl ?_
     unfold kr
     simp only[μ',aB]
     exact⟨cH,hlen,mf,.inr ⟨c',T,vs',pB,by omega,aj.mono le bU,di.zC pB cP⟩⟩
   · have hO:μ'.O r'=μ.O r':=by simp[μ',a8 _ _ e]
     have hφ:μ'.φ r'=μ.φ r':=by simp[μ',a8 _ _ e]
     rw[hO] at pD
     exact fE.cD le (ho.ok r' Xp pD) (by rw[hO]) hφ fun hcr=>pC _ (ho.inj r' r e (by simp[pD]) (by simp[bR]) hcr nq)
 · have hs: ∀x,(μ'.O x).es.isSome=true→(μ.O x).es.isSome=true:=fun x hx=>by
     by_cases e:x=r
     · subst e;simp[bR]
     · simpa [μ',a8 _ _ e] using hx
   have zm: ∀x,(μ'.φ x).cap≠0→(μ.φ x).cap≠0:=fun x hx=>by
     by_cases e:x=r
     · subst e;exact nq
     · simpa [μ',a8 _ _ e] using hx
   have IT: ∀x,(μ'.φ x).dc=(μ.φ x).dc:=fun x=>by
     by_cases e:x=r
     · subst e;simp[μ',aB]
     · simp[μ',a8 _ _ e]
   rw[IT,IT]
   exact ho.inj r1 r2 c7 (hs _ h1) (hs _ h2) (zm _ h3) (zm _ h4)
theorem pE {X:Ctx} {μ:Mu} (ho:bu X μ) (r:Nat):
   let μ':Mu:=⟨μ.w,μ.φ,dn μ.O r {μ.O r with fz:=true}⟩
   Le μ μ'∧bu X μ':=by
 intro μ'
 have cu: ∀x,(μ'.O x).gen=(μ.O x).gen∧(μ'.O x).sz=(μ.O x).sz∧(μ'.O x).es=(μ.O x).es:=fun x=>by
   by_cases e:x=r
   · subst e;simp[μ',aB]
   · simp[μ',a8 _ _ e]
 have le:Le μ μ':=
   ⟨Nat.le_refl _,fun b hb h=> ⟨rfl,fun rC=>h (zD (r:=r) (w':=μ.w) (by simp) rC)⟩,fun x=>by rw[(cu x).1];exact Nat.le_refl _,fun x _=> ⟨rfl,(cu x).2.1⟩,rfl,rfl,rfl,fun _ _=>rfl⟩
 refine⟨le,fun x es bR=> ?_,fun r1 r2 c7 h1 h2 h3 h4=> ?_,fun x h1 h2 hb=>ho.sR x (by rw[(cu x).2.2] at h1;exact h1) h2 hb,ho.blt⟩
 · rw[(cu x).2.2] at bR
   exact fE.cD le (ho.ok x es bR) (cu x).2.1 rfl fun _=>rfl
 · rw[(cu r1).2.2] at h1
   rw[(cu r2).2.2] at h2
   exact ho.inj r1 r2 c7 h1 h2 h3 h4
theorem Ex {X:Ctx} {μ:Mu} (ho:bu X μ) (r:Nat) {es':List V} (h0: (μ.O r).es.isSome=true) (cH:0 < (μ.O r).sz) (hl:es'.length≤(μ.φ r).cap) (mf:es'.all (aS · (μ.O r).sz)=true)
   (hc: (μ.φ r).cap=0∨ ∃c T vs,μ.w.heap[(μ.φ r).dc]? =some (.cells c T (0,0))∧(μ.φ r).base+(μ.φ r).cap*(μ.O r).sz≤c.size∧aj X μ es' vs∧
     di μ.w (μ.φ r).dc (μ.φ r).base (μ.O r).sz vs):
   let μ':Mu:=⟨μ.w,μ.φ,dn μ.O r {μ.O r with es:=some es'}⟩
   Le μ μ'∧bu X μ':=by
 intro μ'
 have cu: ∀x,(μ'.O x).gen=(μ.O x).gen∧(μ'.O x).sz=(μ.O x).sz∧(μ'.O x).es.isSome=(μ.O x).es.isSome∧(μ'.O x).fz=(μ.O x).fz:=fun x=>by
   by_cases e:x=r
   · subst e;simp[μ',aB,h0]
   · simp[μ',a8 _ _ e]
 have im: ∀b,μ'.own b→μ.own b:=by
   rintro b ⟨r',h1,h2,h3,h4⟩
   rw[(cu r').2.2.1] at h1
   rw[(cu r').2.2.2] at h2
   exact⟨r',h1,h2,h3,h4⟩
 have le:Le μ μ':=
   ⟨Nat.le_refl _,fun b hb h=> ⟨rfl,fun rC=>h (im b rC)⟩,fun x=>by rw[(cu x).1];exact Nat.le_refl _,fun x _=> ⟨rfl,(cu x).2.1⟩,rfl,rfl,rfl,fun _ _=>rfl⟩
 refine⟨le,fun x es bR=> ?_,fun r1 r2 c7 h1 h2 h3 h4=> ?_,fun x h1 h2 hb=>ho.sR x (by rw[(cu x).2.2.1] at h1;exact h1) h2 hb,ho.blt⟩
 · by_cases e:x=r
   · subst e
     have:es=es':=by simp[μ',aB] at bR;exact bR.symm
     subst this
     refine .inl ?_
     unfold kr
     rw[(cu x).2.1]
     refine⟨cH,hl,mf,hc.imp id ?_⟩
     rintro⟨c,T,vs,q1,q2,q3,q4⟩
     exact⟨c,T,vs,q1,q2,aj.mono le q3,q4⟩
   · have hx:μ'.O x=μ.O x:=by simp[μ',a8 _ _ e]
     rw[hx] at bR
     exact fE.cD le (ho.ok x es bR) (by rw[hx]) rfl fun _=>rfl
 · rw[(cu r1).2.2.1] at h1
   rw[(cu r2).2.2.1] at h2
   exact ho.inj r1 r2 c7 h1 h2 h3 h4
theorem qM {X:Ctx} {μ:Mu} (ho:bu X μ) (r:Nat) (ob:Go.Obj) (es:List V) (IS:ma X μ ob es):
   let μ':Mu:=⟨μ.w.alloc ob,dn μ.φ r ⟨μ.w.heap.size,0,1⟩,dn μ.O r {gen:=(μ.O r).gen+1,sz:=0,arr:=false,fz:=false,es:=some es}⟩
   Le μ μ'∧bu X μ':=by
 intro μ'
 have iU: ∀b,b<μ.w.heap.size→μ'.w.heap[b]? =μ.w.heap[b]? :=fun b hb=>heap_alloc_old _ _ _ hb
 have zE:μ'.w.heap.size=μ.w.heap.size+1:=Array.size_push _
 have pB:μ'.w.heap[μ.w.heap.size]? =some ob:=heap_alloc_new _ _
 have le:Le μ μ':=by
   refine⟨by omega,fun b hb ez=> ⟨iU b hb,?_⟩,fun r'=> ?_,fun r' e=> ?_,rfl,rfl,rfl,fun a ha=> ?_⟩
   · rintro⟨r',h1,h2,h3,h4⟩
     by_cases e:r'=r
     · subst e
       simp only[μ',aB] at h4
       omega
     · simp only[μ',a8 _ _ e] at h1 h2 h3 h4
       exact ez ⟨r',h1,h2,h3,h4⟩
   · by_cases e:r'=r
     · subst e;simp[μ',aB]
     · simp[μ',a8 _ _ e]
   · by_cases e':r'=r
     · subst e';simp[μ',aB] at e
     · simp[μ',a8 _ _ e']
   · simp only[World.frozen?,iU a.block ha]
 refine⟨le,fun r' es' fF=> ?_,fun r1 r2 c7 h1 h2 h3 h4=> ?_,fun r' h1 h2 hb=> ?_,fun b hb=>Nat.lt_of_lt_of_le (ho.blt b hb) le.size⟩
 rotate_left 2
 · by_cases e:r'=r
   · subst e
     simp only[μ',aB] at hb
     have:=ho.blt _ hb
     omega
   · simp only[μ',a8 _ _ e] at h1 h2 hb
     exact ho.sR r' h1 h2 hb
 · by_cases e:r'=r
   · subst e
     simp only[μ',aB] at fF
     injection fF with fF
     subst fF
     refine .inr ?_
     unfold qL
     simp only[μ',aB]
     exact⟨trivial,by simp,ob,pB,IS.mono le⟩
   · have hO:μ'.O r'=μ.O r':=by simp[μ',a8 _ _ e]
     have hφ:μ'.φ r'=μ.φ r':=by simp[μ',a8 _ _ e]
     rw[hO] at fF
     exact fE.cD le (ho.ok r' es' fF) (by rw[hO]) hφ fun hc=>iU _ (fE.dc (ho.ok r' es' fF) hc)
 · have hold: ∀r',r'≠r→(μ.O r').es.isSome=true→(μ.φ r').cap≠0→(μ.φ r').dc<μ.w.heap.size:=fun r' _ hs A4=>by
     obtain⟨es',he⟩:=Option.isSome_iff_exists.1 hs
     exact fE.dc (ho.ok r' es' he) A4
   by_cases e1:r1=r
   · subst e1
     have e2:r2≠r1:=fun e=>c7 e.symm
     simp only[μ',aB,a8 _ _ e2] at h1 h2 h3 h4 ⊢
     have:=hold r2 e2 h2 h4
     omega
   · by_cases e2:r2=r
     · subst e2
       simp only[μ',aB,a8 _ _ e1] at h1 h2 h3 h4 ⊢
       have:=hold r1 e1 h1 h3
       omega
     · simp only[μ',a8 _ _ e1,a8 _ _ e2] at h1 h2 h3 h4 ⊢
       exact ho.inj r1 r2 c7 h1 h2 h3 h4
theorem pF {X:Ctx} {μ:Mu} (ho:bu X μ) (r:Nat) {es es':List V} {ob ob':Go.Obj} (bR: (μ.O r).es=some es) (gX: (μ.O r).fz=false) (cH: (μ.O r).sz=0)
   (hb:μ.w.heap[(μ.φ r).dc]? =some ob) (nq: (μ.φ r).cap≠0) (IS:ma X μ ob es) (Xq:ma X μ ob' es'):
   let μ':Mu:=⟨{μ.w with heap:=μ.w.heap.set! (μ.φ r).dc ob'},μ.φ,dn μ.O r {μ.O r with es:=some es'}⟩
   Le μ μ'∧bu X μ':=by
 intro μ'
 have bl: (μ.φ r).dc<μ.w.heap.size:=(Array.getElem?_eq_some_iff.1 hb).1
 have pB:μ'.w.heap[(μ.φ r).dc]? =some ob':=by simp[μ',Array.getElem?_setIfInBounds,bl]
 have pC: ∀b,b≠(μ.φ r).dc→μ'.w.heap[b]? =μ.w.heap[b]? :=fun b c7=>by simp[μ',Array.getElem?_setIfInBounds,Ne.symm c7]
 have zE:μ'.w.heap.size=μ.w.heap.size:=by simp[μ']
 have im:μ.own (μ.φ r).dc:=⟨r,by simp[bR],gX,nq,rfl⟩
 have sS: ∀x,(μ'.O x).gen=(μ.O x).gen∧(μ'.O x).sz=(μ.O x).sz∧(μ'.O x).fz=(μ.O x).fz∧(μ'.O x).es.isSome=(μ.O x).es.isSome:=fun x=>by
   by_cases e:x=r
   · subst e;simp[μ',aB,bR]
   · simp[μ',a8 _ _ e]
 have Bt: ∀b,μ'.own b→μ.own b:=by
   rintro b ⟨r',h1,h2,h3,h4⟩
   rw[(sS r').2.2.2] at h1
   rw[(sS r').2.2.1] at h2
   exact⟨r',h1,h2,h3,h4⟩
 have le:Le μ μ':=by
   refine⟨by omega,fun b rC ez=> ⟨pC b (fun e=>ez (e ▸ im)),fun h=>ez (Bt b h)⟩,fun r'=>by rw[(sS r').1];exact Nat.le_refl _,fun r' _=> ⟨rfl,(sS r').2.1⟩,rfl,rfl,rfl,fun a ha=> ?_⟩
   by_cases e:a.block=(μ.φ r).dc
   · rw[Xq.live a μ'.w (by rw[e];exact pB),IS.live a μ.w (by rw[e];exact hb)]
   · simp only[World.frozen?,pC _ e]
 refine⟨le,fun r' Xp pD=> ?_,fun r1 r2 c7 h1 h2 h3 h4=> ?_,fun r' h1 h2 hb=> ?_,fun b hb=>Nat.lt_of_lt_of_le (ho.blt b hb) le.size⟩
 · by_cases e:r'=r
   · subst e
     simp only[μ',aB] at pD
     injection pD with pD
     subst pD
     refine .inr ?_
     unfold qL
     rw[(sS r').2.1]
     exact⟨cH,nq,ob',pB,Xq.mono le⟩
   · have hO:μ'.O r'=μ.O r':=by simp[μ',a8 _ _ e]
     rw[hO] at pD
     exact fE.cD le (ho.ok r' Xp pD) (by rw[hO]) rfl fun hcr=>pC _ (ho.inj r' r e (by simp[pD]) (by simp[bR]) hcr nq)
 · rw[(sS r1).2.2.2] at h1
   rw[(sS r2).2.2.2] at h2
   exact ho.inj r1 r2 c7 h1 h2 h3 h4
 · rw[(sS r').2.2.2] at h1
   exact ho.sR r' h1 h2 hb
end Go.AM
namespace Go.AM
open Go Go.RowKit
structure Rel (X:Ctx) (T:Nat→V) (a:Go.Act) (μ:Mu):Prop where
 tmps: ∀t,ak X μ (T t) (a.tmps.getD t undef)
 bg:bu X μ
def cG (X:Ctx) (o:Oper) (a:Go.Act) (μ:Mu) (O':Nat→Obj) (v:V):Prop:=
 ∃val w' φ',((execOp a.eval o).run X.P μ.w= .ok (.value val) w'∨((execOp a.eval o).run X.P μ.w= .ok .skip w'∧val=undef))∧
  ak X ⟨w',φ',O'⟩ v val∧Le μ ⟨w',φ',O'⟩∧bu X ⟨w',φ',O'⟩
theorem aO {X:Ctx} {o:Oper} {a:Go.Act} {μ:Mu} {v:V} {val:Value} (ho:bu X μ) (ah: (execOp a.eval o).run X.P μ.w= .ok (.value val) μ.w)
  (hv:ak X μ v val):cG X o a μ μ.O v:=
 ⟨val,μ.w,μ.φ,.inl ah,hv,Le.refl μ,ho⟩
theorem cj {P:Program} {s:Sem Value} {w w':World} {val:Value} (h:s.run P w= .ok val w'): (do pure (Next.value (←s)):Sem Next).run P w= .ok (.value val) w':=by
 simp[Sem.run_bind,h]
theorem G2 {P:Program} {s:Sem Unit} {w w':World} (h:s.run P w= .ok () w'): (do s;pure Next.skip:Sem Next).run P w= .ok .skip w':=by
 simp[Sem.run_bind,h]
theorem bB (C:bj) (x:aW) (k:V→Act) (σ:St): (ev x k).run C σ=(k (bo σ x)).run C σ:=by cases x<;>rfl
theorem qN (C:bj): ∀ (xs:List aW) (k:List V→Act) (σ:St),(wF xs k).run C σ=(k (xs.map (bo σ))).run C σ
 | [],_,_=>rfl
 | x::xs,k,σ=>by simp only[wF,bB,qN C xs,List.map_cons]
theorem Dc (C:bj) (x:Option aW) (k:Option V→Act) (σ:St): (vV x k).run C σ=(k (x.map (bo σ))).run C σ:=by
 cases x with
 | none=>rfl
 | some x=>exact bB C x _ σ
theorem dK {C:bj} {r:Option V} {σ σ':St} {v:V} (h: (cT r).run C σ=some (v,σ')):r=some v∧σ'=σ:=by
 cases r with
 | none=>simp[cT,Act.run] at h
 | some u=>simp only[cT,Act.run,Option.some.injEq,Prod.mk.injEq] at h;exact⟨by rw[h.1],h.2.symm⟩
theorem aY {C:bj} {u v:V} {σ σ':St} (h: (Act.done u).run C σ=some (v,σ')):u=v∧σ'=σ:=by
 simp only[Act.run,Option.some.injEq,Prod.mk.injEq] at h;exact⟨h.1,h.2.symm⟩
theorem au {C:bj} {p:V×St} {σ:St}: (Act.fail).run C σ≠some p:=by simp[Act.run]
theorem oR {X:Ctx} {μ:Mu} {v:Value} {c:V} (h:oo v=some c):ak X μ c v∧c.aP=true:=by
 unfold oo at h
 split at h<;>first
  | (injection h with h;subst h;simp[ak,V.aP,V.an])
  | simp at h
theorem nr {X:Ctx} {μ:Mu}: ∀ {vs:List Value} {cs:List V},jS vs=some cs→aj X μ cs vs∧cs.all V.aP=true
 | [],cs,h=>by simp[jS] at h;subst h;simp[aj]
 | v::vs,cs,h=>by
   simp only[jS] at h
   split at h
   · rename_i c cN h1 h2
     injection h with h;subst h
     obtain⟨a1,a2⟩:=oR (X:=X) (μ:=μ) h1
     obtain⟨b1,b2⟩:=nr (X:=X) (μ:=μ) h2
     simp[aj,a1,a2,b1,b2]
   · simp at h
theorem eH {X:Ctx} {μ:Mu} {v:Value} {c:V} (h:uQ v=some c):ak X μ c v∧c.c6=true:=by
 unfold uQ at h
 split at h
 · rename_i cs
   simp only[Option.map_eq_some_iff] at h
   obtain⟨l,h1,rfl⟩:=h
   obtain⟨a1,a2⟩:=nr (X:=X) (μ:=μ) h1
   simp[ak,V.c6,V.isAgg,a1,a2]
 · obtain⟨a1,a2⟩:=oR (X:=X) (μ:=μ) h
   exact⟨a1,by simp[V.c6,a2]⟩
theorem aT {X:Ctx} {μ:Mu} {T:Nat→V} {a:Go.Act} {x:Operand} {y:aW} (hr:Rel X T a μ) (h:cR X x=some y) (O:Nat→Obj):ak X μ (bo ⟨T,O⟩ y) (a.eval x):=by
 cases x with
 | tmp t=>simp[cR] at h;subst h;exact hr.tmps t
 | const v=>
   simp only[cR,Option.map_eq_some_iff] at h
   obtain⟨c,h1,rfl⟩:=h
   exact(eH h1).1
 | global g=>simp[cR] at h
 | func f=>
   simp only[cR,Option.map_eq_some_iff] at h
   obtain⟨n,h1,rfl⟩:=h
   simp only[bo,Go.Act.eval,ak]
   exact⟨f,#[],rfl,h1,by simp[aj]⟩
theorem qO {X:Ctx} {μ:Mu} {T:Nat→V} {a:Go.Act} (hr:Rel X T a μ) (O:Nat→Obj): ∀ {xs:List Operand} {ys:List aW},qI X xs=some ys→
   aj X μ (ys.map (bo ⟨T,O⟩)) (xs.map a.eval)
 | [],ys,h=>by simp[qI] at h;subst h;simp[aj]
 | x::xs,ys,h=>by
   simp only[qI] at h
   split at h
   · rename_i b bs h1 h2
     injection h with h;subst h
     simp only[List.map_cons,aj]
     exact⟨aT hr h1 O,qO hr O h2⟩
   · simp at h
theorem mg {X:Ctx} {μ:Mu} {e u:V} {x:Value} {off sz:Nat} (h:ak X μ e x) (hp:part true off sz e=some u):
   ∃cs,x= .agg cs∧off+sz≤cs.size∧ak X μ u (.agg (cs.extract off (off+sz))):=by
 cases e<;>simp[part] at hp
 rename_i cs
 obtain⟨h1,h2⟩:=hp
 subst h2
 simp only[ak] at h
 obtain⟨h0,vs,rfl,hv⟩:=h
 have hl:=hv.length
 simp at hl
 refine⟨vs,rfl,by omega,?_⟩
 simp only[ak]
 refine⟨?_,_,rfl,?_⟩
 · simp only[List.all_eq_true] at h0 ⊢
   intro c hc
   exact h0 c (List.mem_of_mem_drop (List.mem_of_mem_take hc))
 · have:=aj.take sz (aj.drop off hv)
   simpa [Array.toList_extract,List.extract_eq_take_drop] using this
theorem kL {X:Ctx} {μ:Mu} {e u:V} {x:Value} {off sz:Nat} (h:ak X μ e x) (hp:part false off sz e=some u):
   e.c6=true∧ ∃c,x.cells[off]? =some c∧ak X μ u c:=by
 by_cases ha: ∃cs,e= .agg cs
 · obtain⟨cs,rfl⟩:=ha
   simp only[part] at hp
   simp only[ak] at h
   obtain⟨h0,vs,rfl,hv⟩:=h
   obtain⟨c,h1,h2⟩:=hv.get hp
   exact⟨by simp[V.c6,V.isAgg],c,by simpa [Value.cells] using h1,h2⟩
 · have:part false off sz e=if e.aP∧off=0 then some e else none:=by
     cases e<;>first| rfl| exact absurd ⟨_,rfl⟩ ha
   rw[this] at hp
   split at hp
   · rename_i hc
     injection hp with hp;subst hp
     refine⟨by simp[V.c6,hc.1],x,?_,h⟩
     rw[(h.mb hc.1).2,hc.2];simp
   · simp at hp
section
variable {X:Ctx} {h:Hints} {dst:Nat} {E:Env} {C:bj} {o:Oper} {a:Go.Act} {T:Nat→V} {μ:Mu} {v:V} {σ':St}
theorem aj.xV {X:Ctx} {μ:Mu}: ∀ (ks:List Nat) {cs:List V} {vs:List Value},aj X μ cs vs→aj X μ (AM.xV ks cs) vs
 | [],cs,vs,h=>by simpa [AM.xV] using h
 | k::ks,[],vs,h=>by simpa [AM.xV] using h
 | k::ks,c::cs,[],h=>by simp[aj] at h
 | k::ks,c::cs,v::vs,h=>by
   simp only[aj] at h
   simp only[AM.xV,aj]
   refine⟨?_,aj.xV ks h.2⟩
   split
   · obtain⟨a,rfl⟩:=by simpa [ak] using h.1
     simp only[ak]
     exact⟨rfl,rfl,a,0,[],rfl,Nat.le_refl _,by simp[aj],.inl trivial⟩
   · exact h.1
theorem pG: ∀ (ks:List Nat) {cs:List V},cs.all V.aP=true→(AM.xV ks cs).all V.aP=true
 | [],cs,h=>by simpa [AM.xV] using h
 | k::ks,[],h=>by simp[AM.xV]
 | k::ks,c::cs,h=>by
   simp only[List.all_cons,Bool.and_eq_true] at h
   simp only[AM.xV,List.all_cons,Bool.and_eq_true]
   refine⟨?_,pG ks h.2⟩
   split
   · rfl
   · exact h.1
theorem ak.A5 {X:Ctx} {μ:Mu} (ks:List Nat) {v:V} {val:Value} (h:ak X μ v val):ak X μ (AM.A5 ks v) val:=by
 unfold AM.A5
 split
 · simp only[ak] at h ⊢
   obtain⟨h1,vs,rfl,h2⟩:=h
   exact⟨pG ks h1,vs,rfl,h2.xV ks⟩
 · split
   · obtain⟨a,rfl⟩:=by simpa [ak] using h
     simp only[ak]
     exact⟨rfl,rfl,a,0,[],rfl,Nat.le_refl _,by simp[aj],.inl trivial⟩
   · exact h
 · exact h
theorem ak.Mj {X:Ctx} {μ:Mu} (ks:List Nat) {σ:St} {y:aW} {val:Value} (h:ak X μ (bo σ y) val):ak X μ (bo σ (AM.Mj ks y)) val:=by
 cases y with
 | tmp t=>exact h
 | const v=>exact ak.A5 ks h
theorem Rn {x:Operand} {y:aW} (ks:List Nat) (hr:Rel X T a μ) (ho:o.op= .move x∨o.op= .assign x) (ht:cR X x=some y) (ah: (av E (.move (Mj ks y))).run C ⟨T,μ.O⟩=some (v,σ')):
  σ'.T=T∧cG X o a μ σ'.O v:=by
 simp only[av,bB] at ah
 obtain⟨rfl,rfl⟩:=aY ah
 refine⟨rfl,aO hr.bg ?_ (ak.Mj ks (aT hr ht _))⟩
 rcases ho with ho| ho<;>simp[execOp,ho]
theorem Ml {h:Hints} {dst:Nat} {x:Operand} {oG:rA} (hr:Rel X T a μ) (ho:o.op= .move x∨o.op= .assign x) (ht:uR X h dst x=some oG) (ah: (av E oG).run C ⟨T,μ.O⟩=some (v,σ')):
   σ'.T=T∧cG X o a μ σ'.O v:=by
 unfold uR at ht
 split at ht
 · rename_i r sz hn hb
   injection ht with ht;subst ht
   simp only[av] at ah
   split at ah
   · rename_i cH
     simp only[Act.run,Option.some.injEq,Prod.mk.injEq] at ah
     obtain⟨rfl,rfl⟩:=ah
     have hx:x= .const (.slice none 0 0):=by
       unfold isNil at hn
       split at hn
       · rfl
       · simp at hn
     subst hx
     obtain⟨le,xO⟩:=Eu hr.bg r sz cH
     refine⟨rfl,.slice none 0 0,μ.w,dn μ.φ r ⟨0,0,0⟩,.inl ?_,?_,le,xO⟩
     · rcases ho with ho| ho<;>simp[execOp,ho,Go.Act.eval]
     · simp only[ak,aB]
       exact⟨_,0,rfl,Nat.le_refl _,Nat.le_refl _,fun _=> ⟨cH,rfl,.inl rfl⟩⟩
   · exact absurd ah au
 · split at ht
   · rename_i r hrn
     simp only[Option.map_eq_some_iff] at ht
     obtain⟨y,h1,rfl⟩:=ht
     simp only[av,bB] at ah
     have bU:=aT hr h1 μ.O
     have ku: (execOp a.eval o).run X.P μ.w= .ok (.value (a.eval x)) μ.w:=by rcases ho with ho| ho<;>simp[execOp,ho]
     split at ah
     · rename_i r1 g off len he
       rw[he] at bU
       split at ah
       · obtain⟨rfl,rfl⟩:=aY ah
         exact⟨rfl,aO hr.bg ku bU⟩
       · rename_i c7
         simp only[Act.run] at ah
         split at ah
         · rename_i hg
           simp only[Act.run,Option.some.injEq,Prod.mk.injEq] at ah
           obtain⟨rfl,rfl⟩:=ah
           obtain⟨le,xO⟩:=Ks hr.bg (r:=r) (r1:=r1) c7
           refine⟨rfl,a.eval x,μ.w,dn μ.φ r (μ.φ r1),.inl ku,?_,le,xO⟩
           simp only[ak] at bU ⊢
           obtain⟨ad,cap,k1,k2,k3,k4⟩:=bU
           obtain⟨k5,k6⟩:=k4 hg
           have uW:r≠r1:=fun e=>c7 e.symm
           simp only[a8 _ _ uW,aB]
           exact⟨ad,cap,k1,k2,Nat.le_refl _,fun _=> ⟨k5,k6⟩⟩
         · simp[Act.run] at ah
     · obtain⟨rfl,rfl⟩:=aY ah
       exact⟨rfl,aO hr.bg ku bU⟩
   · simp only[Option.map_eq_some_iff] at ht
     obtain⟨y,h1,rfl⟩:=ht
     exact Rn _ hr ho h1 ah
theorem Kt {c p q:Operand} {c' p' q':aW} (hr:Rel X T a μ) (ho:o.op= .pick c p q) (h1:cR X c=some c') (h2:cR X p=some p') (h3:cR X q=some q')
   (ah: (av E (.pick c' p' q')).run C ⟨T,μ.O⟩=some (v,σ')):σ'.T=T∧cG X o a μ σ'.O v:=by
 simp only[av,bB] at ah
 have hc:=aT hr h1 μ.O
 split at ah
 · rename_i e
   rw[e] at hc
   simp only[ak] at hc
   rw[bB] at ah
   obtain⟨rfl,rfl⟩:=aY ah
   refine⟨rfl,aO hr.bg ?_ (aT hr h2 _)⟩
   simp[execOp,ho,hc,asBool,Sem.run_bind]
 · rename_i e
   rw[e] at hc
   simp only[ak] at hc
   rw[bB] at ah
   obtain⟨rfl,rfl⟩:=aY ah
   refine⟨rfl,aO hr.bg ?_ (aT hr h3 _)⟩
   simp[execOp,ho,hc,asBool,Sem.run_bind]
 · exact absurd ah au
theorem zF {x:Operand} {y:aW} (hr:Rel X T a μ) (ho:o.op= .nilCheck x) (ht:cR X x=some y) (ah: (av E (.nilCheck y)).run C ⟨T,μ.O⟩=some (v,σ')):
   σ'.T=T∧cG X o a μ σ'.O v:=by
 simp only[av,bB] at ah
 have hx:=aT hr ht μ.O
 split at ah
 · rename_i e
   obtain⟨rfl,rfl⟩:=aY ah
   refine⟨rfl,aO hr.bg ?_ (e ▸ hx)⟩
   rw[e] at hx
   simp only[ak] at hx
   obtain⟨p,hp,_⟩:=hx
   simp[execOp,ho,hp]
 · rename_i e
   obtain⟨rfl,rfl⟩:=aY ah
   refine⟨rfl,aO hr.bg ?_ (e ▸ hx)⟩
   rw[e] at hx
   simp only[ak] at hx
   obtain⟨_,_,b,o',sz,q,hp,_⟩:=hx
   simp[execOp,ho,hp]
 · rename_i e
   obtain⟨rfl,rfl⟩:=aY ah
   refine⟨rfl,aO hr.bg ?_ (e ▸ hx)⟩
   rw[e] at hx
   simp only[ak] at hx
   obtain⟨_,_,q,hp,_⟩:=hx
   simp[execOp,ho,hp]
 · rename_i e
   obtain⟨rfl,rfl⟩:=aY ah
   refine⟨rfl,aO hr.bg ?_ (e ▸ hx)⟩
   rw[e] at hx
   simp only[ak] at hx
   obtain⟨F,cv,hp,_⟩:=hx
   simp[execOp,ho,hp]
 · exact absurd ah au
theorem yj {s:TypeId} {x:Operand} {i:Nat} {y:aW} {fs:Array Field} {f:Field} {n:Nat} (hr:Rel X T a μ) (ho:o.op= .fieldAddr s x i) (ht:cR X x=some y)
   (hd:bq X s=some (.struct fs)) (hf:fs[i]? =some f) (hn:bG X f.type=some (n+1)) (ah: (av E (.fieldAddr f.offset y)).run C ⟨T,μ.O⟩=some (v,σ')):
   σ'.T=T∧cG X o a μ σ'.O v:=by
 simp only[av,bB] at ah
 have hx:=aT hr ht μ.O
 have hi: ∃inf,X.P.info? f.type=some inf∧inf.size=n+1:=by
   simpa [bG,info] using hn
 obtain⟨inf,rB,BG⟩:=hi
 have cH:X.P.cellsOf f.type=n+1:=by simp[Program.cellsOf,rB,BG]
 have key: ∀p:Addr,a.eval x= .pointer (some p)→(execOp a.eval o).run X.P μ.w= .ok (.value (.pointer (some (p.add f.offset)))) μ.w:=fun p hp=>by
   simp only[execOp,ho]
   refine cj ?_
   simp[Instr.fieldAt,Sem.run_bind,run_underlying hd,hf,Instr.sureAddr,hp,fieldPlace,run_sizeOf (w:=μ.w) rB,cH]
 have qB: ∀ (b q:Nat),(⟨b,q,none⟩:Addr).add f.offset=⟨b,q+f.offset,none⟩:=fun b q=>by unfold Addr.add;split<;>simp_all
 split at ah
 · rename_i e
   obtain⟨rfl,rfl⟩:=aY ah
   rw[e] at hx
   simp only[ak] at hx
   obtain⟨p,hp,h1,h2⟩:=hx
   refine⟨rfl,aO hr.bg (key p hp) ?_⟩
   simp only[ak]
   refine⟨_,rfl,h1,fun eg=> ⟨(h2 eg).1,?_⟩⟩
   rw[(h2 eg).2,qB];simp[Nat.add_assoc]
 · rename_i e
   obtain⟨rfl,rfl⟩:=aY ah
   rw[e] at hx
   simp only[ak] at hx
   obtain⟨h0,ke,b,o',sz,q,hp,h1,h2,h3,h4⟩:=hx
   refine⟨rfl,aO hr.bg (key _ hp) ?_⟩
   simp only[ak]
   exact⟨h0,ke,b,o',sz,q,by rw[qB];simp[Nat.add_assoc],h1,h2,h3,h4⟩
 · rename_i e
   obtain⟨rfl,rfl⟩:=aY ah
   rw[e] at hx
   simp only[ak] at hx
   obtain⟨h0,ke,q,hp,h1,h2,h3,h4⟩:=hx
   refine⟨rfl,aO hr.bg (key _ hp) ?_⟩
   simp only[ak]
   exact⟨h0,ke,q,by rw[qB];simp[Nat.add_assoc],h1,h2,h3,h4⟩
 · exact absurd ah au
theorem BH {x:Operand} {i:Nat} {y:aW} (hr:Rel X T a μ) (ho:o.op= .extract x i) (ht:cR X x=some y) (ah: (av E (.extract y i)).run C ⟨T,μ.O⟩=some (v,σ')):
   σ'.T=T∧cG X o a μ σ'.O v:=by
 simp only[av,bB] at ah
 have hx:=aT hr ht μ.O
 split at ah
 · rename_i vs e
   obtain⟨h1,rfl⟩:=dK ah
   rw[e] at hx
   simp only[ak] at hx
   obtain⟨us,hu,hv⟩:=hx
   obtain⟨c,h2,h3⟩:=hv.get h1
   refine⟨rfl,aO hr.bg ?_ h3⟩
   simp only[execOp,ho]
   refine cj ?_
   have BI:us[i]? =some c:=by simpa using h2
   simp[Instr.extract,hu,BI]
 · exact absurd ah au
theorem zG {f:FuncId} {first caps:Array Operand} {n:Nat} {cs:List aW} (hr:Rel X T a μ) (ho:o.op= .makeFunc (.func f) first caps) (hfi:first.isEmpty=true)
   (hn:X.jR f=some n) (ht:qI X caps.toList=some cs) (ah: (av E (.ie n cs)).run C ⟨T,μ.O⟩=some (v,σ')):σ'.T=T∧cG X o a μ σ'.O v:=by
 simp only[av,qN] at ah
 obtain⟨rfl,rfl⟩:=aY ah
 have hx:=qO hr μ.O ht
 obtain rfl:first= #[]:=by simpa using hfi
 refine⟨rfl,aO (val:= .func (.func f) #[] (caps.map a.eval)) hr.bg ?_ ?_⟩
 · simp[execOp,ho,Instr.makeFunc,Sem.run_bind]
 · simp only[ak]
   exact⟨f,_,rfl,hn,by simpa using hx⟩
theorem r8 {t:TypeId} {x:Operand} {n:Nat} {y:aW} (hr:Rel X T a μ) (ho:o.op= .makeInterface t x) (hn:X.jb t=some n) (ht:cR X x=some y)
   (hd: ∃d,bq X t=some d∧ ∀ms,d≠ .interface ms) (ah: (av E (.jo n y)).run C ⟨T,μ.O⟩=some (v,σ')):σ'.T=T∧cG X o a μ σ'.O v:=by
 simp only[av,bB] at ah
 obtain⟨rfl,rfl⟩:=aY ah
 have hx:=aT hr ht μ.O
 obtain⟨d,G3,zH⟩:=hd
 refine⟨rfl,aO (val:= .iface t (a.eval x)) hr.bg ?_ ?_⟩
 · simp only[execOp,ho]
   refine cj ?_
   simp only[Instr.makeInterface,Sem.run_bind,run_underlying G3,Result.andThen_ok]
   cases d<;>first| rfl| exact absurd rfl (zH _)
 · simp only[ak]
   exact⟨t,_,rfl,hn,hx⟩
theorem G4 {t:TypeId} {x:Operand} {i:Nat} {y:aW} {fs:Array Field} {f:Field} {g:Bool} {sz:Nat} (hr:Rel X T a μ) (ho:o.op= .field t x i) (ht:cR X x=some y)
   (hd:bq X t=some (.struct fs)) (hf:fs[i]? =some f) (hg:gJ X f.type=some g) (hn:bG X f.type=some sz)
   (ah: (av E (.field g f.offset sz y)).run C ⟨T,μ.O⟩=some (v,σ')):σ'.T=T∧cG X o a μ σ'.O v:=by
 simp only[av,bB] at ah
 split at ah
 case isFalse=>exact absurd ah au
 rename_i Ey
 obtain⟨hp,rfl⟩:=dK ah
 have hx:=aT hr ht μ.O
 obtain⟨inf,rB,BG⟩: ∃inf,X.P.info? f.type=some inf∧inf.size=sz:=by simpa [bG,info] using hn
 have cH:X.P.cellsOf f.type=sz:=by simp[Program.cellsOf,rB,BG]
 obtain⟨d,FN⟩: ∃d,X.P.underlying f.type=some d:=by
   simp only[gJ,bq,Option.map_eq_some_iff] at hg
   obtain⟨d,h1,_⟩:=hg;exact⟨d,h1⟩
 have G5: (isAgg f.type).run X.P μ.w= .ok g μ.w:=by
   simp only[gJ,bq,FN,Option.map_some,Option.some.injEq] at hg
   simp only[isAgg,Sem.run_bind,run_underlying FN,Result.andThen_ok]
   subst hg
   cases d<;>rfl
 cases g with
 | true=>
   obtain⟨cs,hc,hle,hv⟩:=mg hx hp
   refine⟨rfl,aO hr.bg ?_ hv⟩
   simp only[execOp,ho]
   refine cj ?_
   simp[Instr.field,Sem.run_bind,run_underlying hd,hf,part,G5,hc,asAgg,run_sizeOf (w:=μ.w) rB,cH,Go.part]
 | false=>
   obtain⟨_,c,hc,hv⟩:=kL hx hp
   cases hy:bo ⟨T,μ.O⟩ y<;>rw[hy] at Ey<;>simp[V.isAgg] at Ey
   rw[hy] at hx
   simp only[ak] at hx
   obtain⟨_,cs,db,_⟩:=hx
   rw[db] at hc
   refine⟨rfl,aO hr.bg ?_ hv⟩
   simp only[execOp,ho]
   refine cj ?_
   have A4:cs[f.offset]? =some c:=by simpa [Value.cells] using hc
   simp[Instr.field,Sem.run_bind,run_underlying hd,hf,G5,db,asAgg,Go.part,A4]
end
end Go.AM
namespace Go.AM
open Go Go.RowKit
theorem ot {X:Ctx} {t:TypeId} {g:Bool} (hg:gJ X t=some g) (w:World): (isAgg t).run X.P w= .ok g w:=by
 simp only[gJ,bq,Option.map_eq_some_iff] at hg
 obtain⟨d,FN,hg⟩:=hg
 simp only[isAgg,Sem.run_bind,run_underlying FN,Result.andThen_ok]
 subst hg
 cases d<;>rfl
theorem c9 {X:Ctx} {t:TypeId} {sz:Nat} (hn:bG X t=some sz) (w:World): (sizeOf t).run X.P w= .ok sz w:=by
 obtain⟨inf,rB,BG⟩: ∃inf,X.P.info? t=some inf∧inf.size=sz:=by simpa [bG,info] using hn
 have cH:X.P.cellsOf t=sz:=by simp[Program.cellsOf,rB,BG]
 rw[run_sizeOf (w:=w) rB,cH]
theorem qP {X:Ctx} {t:TypeId} {sz:Nat} (hg:gJ X t=some true) (hn:bG X t=some sz) (cs:Array Value) (off:Nat) (w:World):
  (Go.part t cs off).run X.P w= .ok (.agg (cs.extract off (off+sz))) w:=by
 simp[Go.part,Sem.run_bind,ot hg,c9 hn]
theorem fI {X:Ctx} {t:TypeId} (hg:gJ X t=some false) (cs:Array Value) (off:Nat) (c:Value) (hc:cs[off]? =some c) (w:World):
  (Go.part t cs off).run X.P w= .ok c w:=by
 simp[Go.part,Sem.run_bind,ot hg,hc]
theorem uX: ∀ (ks:List Nat) {Kq:List Nat} {cs ds:List V} {b:Bool},eV (ks++Kq) cs ds=some b→
   ∃b1 b2,eV ks (cs.take ks.length) (ds.take ks.length)=some b1∧eV Kq (cs.drop ks.length) (ds.drop ks.length)=some b2∧b=(b1 &&b2)
 | [],Kq,cs,ds,b,h=> ⟨true,b,by simp[eV],by simpa using h,by simp⟩
 | k::ks,Kq,[],_,b,h=>by simp[eV] at h
 | k::ks,Kq,_::_,[],b,h=>by simp[eV] at h
 | k::ks,Kq,c::cs,d::ds,b,h=>by
   simp only[List.cons_append,eV] at h
   split at h
   · rename_i x y hx hy
     injection h with h;subst h
     obtain⟨b1,b2,h1,h2,h3⟩:=uX ks hy
     refine⟨x &&b1,b2,?_,by simpa using h2,by rw[h3,Bool.and_assoc]⟩
     simp[eV,hx,h1]
   · simp at h
theorem sU: ∀ {ks:List Nat} {cs ds:List V} {b:Bool},eV ks cs ds=some b→cs.length=ks.length∧ds.length=ks.length
 | [],[],[],_,_=> ⟨rfl,rfl⟩
 | [],[],_::_,_,h=>by simp[eV] at h
 | [],_::_,_,_,h=>by simp[eV] at h
 | _::_,[],_,_,h=>by simp[eV] at h
 | _::_,_::_,[],_,h=>by simp[eV] at h
 | k::ks,c::cs,d::ds,b,h=>by
   simp only[eV] at h
   split at h
   · rename_i x y hx hy
     obtain⟨h1,h2⟩:=sU hy
     simp[h1,h2]
   · simp at h
theorem Dd {X:Ctx} {μ:Mu} {t:TypeId} {m k:Nat} {c e:V} {x y:Value} {b:Bool} {D:TypeDesc} (hd:bq X t=some D)
   (hk: (k=0∧D= .bool)∨(k=1∧ ∃q,D= .int q)∨(k=2∧D= .string))
   (hc:ak X μ c x) (he:ak X μ e y) (hb:v8 k c e=some b) (w:World): (Op.equalIn (m+1) t x y).run X.P w= .ok b w:=by
 unfold v8 at hb
 split at hb
 · injection hb with hb;subst hb
   simp only[ak] at hc he
   subst hc;subst he
   rcases hk with⟨_,rfl⟩ | ⟨h,_⟩ | ⟨h,_⟩
   · exact run_equalIn_bool' w m t _ _ hd
   · cases h
   · cases h
 · split at hb
   · injection hb with hb;subst hb
     simp only[ak] at hc he
     subst hc;subst he
     rename_i uJ
     subst uJ
     rcases hk with⟨h,_⟩ | ⟨_,q,rfl⟩ | ⟨h,_⟩
     · cases h
     · exact run_equalIn_int w m t _ _ _ _ hd
     · cases h
   · simp at hb
 · injection hb with hb;subst hb
   simp only[ak] at hc he
   obtain⟨p,rfl,hp⟩:=hc
   obtain⟨q,rfl,hq⟩:=he
   rcases hk with⟨h,_⟩ | ⟨h,_⟩ | ⟨_,rfl⟩
   · cases h
   · cases h
   · rw[run_equalIn_string w m t _ _ hd]
     congr 1
     rw[ByteArray.toList_eq,ByteArray.toList_eq,hp,hq]
     rw[Bool.eq_iff_iff];simp
 · simp at hb
theorem sV {X:Ctx} {μ:Mu} (w:World) {e:TypeId} {k m:Nat} (hg:gJ X e=some false) (h1:X.P.cellsOf e=1)
   (ih: ∀c f x y b,ak X μ c x→ak X μ f y→v8 k c f=some b→(Op.equalIn m e x y).run X.P w= .ok b w):
   ∀ (n off:Nat) (cs ds:List V) (xs ys:List Value) (b:Bool),aj X μ cs xs→aj X μ ds ys→eV (List.replicate n k) (cs.drop off) (ds.drop off)=some b→
     (Op.eqItems m e (X.P.cellsOf e) xs.toArray ys.toArray (List.range' off n)).run X.P w= .ok b w
 | 0,off,cs,ds,xs,ys,b,hx,hy,hb=>by
   cases hc:cs.drop off<;>cases he:ds.drop off<;>rw[hc,he] at hb<;>simp[eV] at hb
   subst hb
   simp[Op.eqItems]
 | n+1,off,cs,ds,xs,ys,b,hx,hy,hb=>by
   rw[List.replicate_succ] at hb
   cases hc:cs.drop off with
   | nil=>rw[hc] at hb;simp[eV] at hb
   | cons c cN=>
     cases he:ds.drop off with
     | nil=>rw[hc,he] at hb;simp[eV] at hb
     | cons f ds'=>
       rw[hc,he] at hb
       simp only[eV] at hb
       split at hb
       · rename_i p q hp hq
         injection hb with hb;subst hb
         have gc:cs[off]? =some c:=by
          have:=congrArg (fun l=>l[0]?) hc
          simpa using this
         have gf:ds[off]? =some f:=by
          have:=congrArg (fun l=>l[0]?) he
          simpa using this
         obtain⟨x,gx,rx⟩:=hx.get gc
         obtain⟨y,gy,ry⟩:=hy.get gf
         have qC:cs.drop (off+1)=cN:=by
          have:=congrArg (List.drop 1) hc
          simpa [List.drop_drop] using this
         have he2:ds.drop (off+1)=ds':=by
          have:=congrArg (List.drop 1) he
          simpa [List.drop_drop] using this
         have rest:=sV w hg h1 ih n (off+1) cs ds xs ys q hx hy (by rw[qC,he2];exact hq)
         have px:xs.toArray[off*X.P.cellsOf e]? =some x:=by rw[h1];simpa using gx
         have py:ys.toArray[off*X.P.cellsOf e]? =some y:=by rw[h1];simpa using gy
         rw[List.range'_succ]
         simp only[Op.eqItems,Sem.run_bind,fI hg _ _ _ px,fI hg _ _ _ py,Result.andThen_ok,ih c f x y p rx ry hp]
         cases p
         · simp
         · simpa using rest
       · simp at hb
theorem Ro {   X:Ctx} {μ:Mu} (w:World): ∀d:Nat,
   (∀t ks cs ds xs ys b m,kK X d t=some ks→d≤m→aj X μ cs xs→aj X μ ds ys→eV ks cs ds=some b→
     bG X t=some ks.length∧((gJ X t=some true∧(Op.equalIn m t (.agg xs.toArray) (.agg ys.toArray)).run X.P w= .ok b w)∨
       (gJ X t=some false∧ks.length=1∧ ∃x y,xs=[x]∧ys=[y]∧(Op.equalIn m t x y).run X.P w= .ok b w)))∧
   (∀fs off ks cs ds xs ys b m,r7 X d fs off=some ks→d≤m→aj X μ cs xs→aj X μ ds ys→eV ks (cs.drop off) (ds.drop off)=some b→
     (Op.eqFields m xs.toArray ys.toArray fs).run X.P w= .ok b w):=by
 intro d
 induction d with
 | zero=>exact⟨fun _ _ _ _ _ _ _ _ h=>by simp[kK] at h,fun _ _ _ _ _ _ _ _ _ h=>by simp[r7] at h⟩
 | succ d ih=>
   refine⟨fun t ks cs ds xs ys b m hk hm hx hy hb=> ?_,fun fs off ks cs ds xs ys b m hk hm hx hy hb=> ?_⟩
   · obtain⟨ m,rfl⟩: ∃m',m=m'+1:=⟨m - 1,by omega⟩
     have scalar: ∀ (D:TypeDesc) (k:Nat),bq X t=some D→((k=0∧D= .bool)∨(k=1∧ ∃q,D= .int q)∨(k=2∧D= .string))→bG X t=some 1→ks=[k]→
         bG X t=some ks.length∧((gJ X t=some true∧(Op.equalIn (m+1) t (.agg xs.toArray) (.agg ys.toArray)).run X.P w= .ok b w)∨
       (gJ X t=some false∧ks.length=1∧ ∃x y,xs=[x]∧ys=[y]∧(Op.equalIn (m+1) t x y).run X.P w= .ok b w)):=by
       intro D k hd hD hs e
       subst e
       obtain⟨l1,l2⟩:=sU hb
       have lx:=hx.length
       have ly:=hy.length
       match cs,ds,xs,ys,l1,l2,lx,ly with
       | [c],[e],[x],[y],_,_,_,_=>
         simp only[aj,and_true] at hx hy
         simp only[eV,Bool.and_true] at hb
         have rC:v8 k c e=some b:=by
           cases hq:v8 k c e<;>rw[hq] at hb<;>simp at hb;rw[hb]
         refine⟨by simpa using hs,.inr ⟨?_,rfl,x,y,rfl,rfl,Dd hd hD hx hy rC w⟩⟩
         simp only[gJ,hd,Option.map_some]
         rcases hD with⟨_,rfl⟩ | ⟨_,q,rfl⟩ | ⟨_,rfl⟩ <;>rfl
     simp only[kK] at hk
     split at hk
     · split at hk<;>simp at hk
       rename_i hd hs
       exact scalar _ 0 hd (by simp) hs hk.symm
     · split at hk<;>simp at hk
       rename_i hd hs
       exact scalar _ 1 hd (by simp) hs hk.symm
     · split at hk<;>simp at hk
       rename_i hd hs
       exact scalar _ 2 hd (by simp) hs hk.symm
     · rename_i fs hd
       split at hk
       · rename_i mF
         split at hk
         · rename_i Kq hkf
           split at hk
           · rename_i hs
             injection hk with hk;subst hk
             refine⟨hs,.inl ⟨by simp[gJ,hd],?_⟩⟩
             have FO:X.P.fieldsOf t=fs:=by
               have mE:X.P.underlying t=some (.struct fs):=hd
               simp[Program.fieldsOf,mE]
             rw[run_equalIn_struct w m t _ _ (by rw[FO];exact hd) mF,FO]
             exact ih.2 _ 0 _ cs ds xs ys b m hkf (by omega) hx hy (by simpa using hb)
           · simp at hk
         · simp at hk
       · simp at hk
     · rename_i n e hd
       split at hk
       · rename_i sW
         obtain⟨sW,cH⟩:=sW
         split at hk
         · rename_i k yk
           injection hk with hk;subst hk
           refine⟨by rw[List.length_replicate];exact cH,.inl ⟨by simp[gJ,hd],?_⟩⟩
           have tI:bG X e=some 1:=by
             cases d with
             | zero=>simp[kK] at yk
             | succ d=>
               simp only[kK] at yk
               split at yk<;> (try (split at yk<;>simp at yk<;>assumption)) <;> (try (rename_i hde;simp[gJ,hde] at sW)) <;>simp at yk
           obtain⟨inf,rB,BG⟩: ∃inf,X.P.info? e=some inf∧inf.size=1:=by simpa [bG,info] using tI
           have zm:X.P.cellsOf e=1:=by simp[Program.cellsOf,rB,BG]
           rw[run_equalIn_array w m _ _ hd rB,List.range_eq_range']
           refine sV w sW zm (fun c f x y b' rx ry rC=> ?_) n 0 cs ds xs ys b hx hy (by simpa using hb)
           obtain⟨_,hq⟩:=ih.1 e [k] [c] [f] [x] [y] b' m yk (by omega) (by simp only[aj,and_true];exact rx) (by simp only[aj,and_true];exact ry) (by simp[eV,rC])
           rcases hq with⟨hq,_⟩ | ⟨_,_,x',y',vZ,Mm,hq⟩
           · rw[sW] at hq;cases hq
           · obtain rfl:x=x':=by simpa using vZ
             obtain rfl:y=y':=by simpa using Mm
             exact hq
         · simp at hk
       · simp at hk
     · simp at hk
   · obtain⟨ m,rfl⟩: ∃m',m=m'+1:=⟨m - 1,by omega⟩
     cases fs with
     | nil=>
       simp only[r7,Option.some.injEq] at hk
       subst hk
       cases hc:cs.drop off<;>cases he:ds.drop off<;>rw[hc,he] at hb<;>simp[eV] at hb
       subst hb
       simp[Op.eqFields]
     | cons f fs=>
       simp only[r7] at hk
       split at hk
       · rename_i hn
         split at hk
         · rename_i k1 yX
           split at hk
           · rename_i k2 Em
             injection hk with hk;subst hk
             obtain⟨b1,b2,e1,e2,e3⟩:=uX k1 hb
             obtain⟨hs,ha⟩:=ih.1 f.type k1 _ _ _ _ b1 (m+1) yX (by omega) (aj.take k1.length (aj.drop off hx)) (aj.take k1.length (aj.drop off hy)) e1
             have zI:=ih.2 fs (off+k1.length) k2 cs ds xs ys b2 (m+1) Em (by omega) hx hy (by simpa [List.drop_drop] using e2)
             have Ku:=hn.2
             have head: (do let a ←Go.part f.type xs.toArray f.offset;let c ←Go.part f.type ys.toArray f.offset;Op.equalIn (m+1) f.type a c:Sem Bool).run X.P w= .ok b1 w:=by
               rcases ha with⟨hg,hq⟩ | ⟨hg,h1,x,y,hx1,hy1,hq⟩
               · simp only[Sem.run_bind,qP hg hs,Result.andThen_ok,Ku]
                 rw[←hq]
                 congr 3 <;> (apply Array.ext';simp[Array.toList_extract,List.extract_eq_take_drop])
               · have gx:xs.toArray[f.offset]? =some x:=by
                  have:=congrArg (fun l=>l[0]?) hx1
                  simpa [List.getElem?_take,h1,Ku] using this
                 have gy:ys.toArray[f.offset]? =some y:=by
                  have:=congrArg (fun l=>l[0]?) hy1
                  simpa [List.getElem?_take,h1,Ku] using this
                 simp only[Sem.run_bind,fI hg _ _ _ gx,fI hg _ _ _ gy,Result.andThen_ok]
                 exact hq
             simp only[Op.eqFields,Sem.run_ite,if_pos hn.1]
             simp only[Sem.run_bind] at head ⊢
             generalize (Go.part f.type xs.toArray f.offset).run X.P w=r1 at head ⊢
             cases r1 with
             | halt _ _=>simp[Result.andThen] at head
             | ok a1 w1=>
               simp only[Result.andThen_ok] at head ⊢
               generalize (Go.part f.type ys.toArray f.offset).run X.P w1=r2 at head ⊢
               cases r2 with
               | halt _ _=>simp[Result.andThen] at head
               | ok a2 w2=>
                 simp only[Result.andThen_ok] at head ⊢
                 rw[head]
                 simp only[Result.andThen_ok,Sem.run_ite]
                 subst e3
                 cases b1
                 · simp
                 · simpa using zI
           · simp at hk
         · simp at hk
       · simp at hk
end Go.AM
namespace Go.AM
open Go Go.RowKit
theorem G6 {X:Ctx} {μ:Mu} {T:Nat→V} {a:Go.Act} {x:Option Operand} {y:Option aW} (hr:Rel X T a μ) (h:r6 X x=some y) (O:Nat→Obj):
   (x=none∧y=none)∨ ∃x' y',x=some x'∧y=some y'∧ak X μ (bo ⟨T,O⟩ y') (a.eval x'):=by
 cases x with
 | none=>simp[r6] at h;exact .inl ⟨rfl,h.symm⟩
 | some x=>
   simp only[r6,Option.map_eq_some_iff] at h
   obtain⟨c,h1,rfl⟩:=h
   exact .inr ⟨x,c,rfl,rfl,aT hr h1 O⟩
section
variable {X:Ctx} {E:Env} {C:bj} {o:Oper} {a:Go.Act} {T:Nat→V} {μ:Mu} {v:V} {σ':St}
theorem G7 {op:BinOp} {t:TypeId} {x y:V} {xv yv:Value} {u:V} (hx:ak X μ x xv) (hy:ak X μ y yv) (h:b7 op x y=some u) (p q:Operand):
   ∃val,(do eqGuard op t p q xv yv;Go.binOp op t xv yv:Sem Value).run X.P μ.w= .ok val μ.w∧ak X μ u val:=by
 unfold b7 at h
 split at h
 · rename_i k n k' n'
   simp only[ak] at hx hy
   subst hx;subst hy
   have hg: (eqGuard op t p q (.int k n) (.int k' n')).run X.P μ.w= .ok () μ.w:=by
     cases op<;>simp[eqGuard]
   simp only[Sem.run_bind,hg,Result.andThen_ok]
   cases op with
   | shl=>
     simp only at h
     split at h<;>simp at h
     subst h
     rename_i hb
     exact⟨.int k (k.wrap (n*2 ^ min n'.toNat k.bits)),by simp[Go.binOp,Op.shift,hb],by simp[ak]⟩
   | shr=>
     simp only at h
     split at h<;>simp at h
     subst h
     rename_i hb
     exact⟨.int k (n.fdiv (2 ^ min n'.toNat k.bits)),by simp[Go.binOp,Op.shift,hb],by simp[ak]⟩
   | quo=>
     simp only at h
     split at h
     · rename_i hk;subst hk
       split at h<;>simp at h
       subst h
       rename_i hb
       exact⟨.int k (k.wrap (n.tdiv n')),by simp[Go.binOp,Op.intDiv,hb],by simp[ak]⟩
     · simp at h
   | rem=>
     simp only at h
     split at h
     · rename_i hk;subst hk
       split at h<;>simp at h
       subst h
       rename_i hb
       exact⟨.int k (n.tmod n'),by simp[Go.binOp,Op.intDiv,hb],by simp[ak]⟩
     · simp at h
   | _=>
     simp only at h
     split at h
     · rename_i hk;subst hk
       simp only[km,dw,Option.some.injEq] at h
       subst h
       exact⟨_,by simp[Go.binOp,Op.intArith,Op.intBits,Op.intCmp];rfl,by simp[ak]⟩
     · simp at h
 · rename_i s s'
   simp only[ak] at hx hy
   obtain⟨bs,rfl,rfl⟩:=hx
   obtain⟨cs,rfl,rfl⟩:=hy
   have hg: (eqGuard op t p q (.string bs) (.string cs)).run X.P μ.w= .ok () μ.w:=by
     cases op<;>simp[eqGuard]
   simp only[Sem.run_bind,hg,Result.andThen_ok]
   have he: (bs.toList==cs.toList)=decide (bs.data.toList=cs.data.toList):=by
     rw[ByteArray.toList_eq,ByteArray.toList_eq,Bool.eq_iff_iff];simp
   cases op with
   | add=>
     simp only at h
     split at h<;>simp at h
     subst h
     rename_i hl
     have wQ: ¬ ((bs.size+cs.size:Nat):Int) >IntKind.i64.max:=by
       have hm:IntKind.i64.max=9223372036854775807:=by decide
       have h1:bs.data.toList.length=bs.size:=by rw[Array.length_toList];rfl
       have h2:cs.data.toList.length=cs.size:=by rw[Array.length_toList];rfl
       rw[hm];rw[h1,h2] at hl;omega
     refine⟨.string (bs++cs),by simp only[Go.binOp,Op.stringOp];rw[if_neg wQ];rfl,?_⟩
     simp[ak,ByteArray.data_append]
   | _=>
     simp only[Option.some.injEq,reduceCtorEq] at h
     try (subst h;refine⟨_,by simp only[Go.binOp,Op.stringOp];rfl,?_⟩;simp only[ak,he] <;>simp only[ByteArray.toList_eq])
 · simp at h
theorem BJ {op:BinOp} {t t2:TypeId} {x y:Operand} {x' y':aW} (hr:Rel X T a μ) (ho:o.op= .binOp op t x y t2) (h1:cR X x=some x') (h2:cR X y=some y')
  (ah: (av E (.bin op x' y')).run C ⟨T,μ.O⟩=some (v,σ')):σ'.T=T∧cG X o a μ σ'.O v:=by
 simp only[av,bB] at ah
 obtain⟨hb,rfl⟩:=dK ah
 obtain⟨val,hv,bU⟩:=G7 (t:=t) (aT hr h1 μ.O) (aT hr h2 μ.O) hb x y
 refine⟨rfl,aO hr.bg ?_ bU⟩
 simp only[execOp,ho]
 exact cj hv
theorem Rp {op:BinOp} {t t2:TypeId} {x y:Operand} {x' y':aW} (hr:Rel X T a μ) (ho:o.op= .binOp op t x y t2) (dO:op= .eql∨op= .neq) (hd:bq X t=some .bool)
   (h1:cR X x=some x') (h2:cR X y=some y') {neg:Bool} (hn:neg=gg op)
   (ah: (av E (.qp neg x' y')).run C ⟨T,μ.O⟩=some (v,σ')):σ'.T=T∧cG X o a μ σ'.O v:=by
 simp only[av,bB] at ah
 have hx:=aT hr h1 μ.O
 have hy:=aT hr h2 μ.O
 split at ah
 · rename_i p q e1 e2
   obtain⟨rfl,rfl⟩:=aY ah
   rw[e1] at hx;rw[e2] at hy
   simp only[ak] at hx hy
   refine⟨rfl,aO (val:= .bool ((p==q) !=neg)) hr.bg ?_ (by simp[ak])⟩
   simp only[execOp,ho]
   refine cj ?_
   have heq: (Op.equal t (.bool p) (.bool q)).run X.P μ.w= .ok (p==q) μ.w:=run_equalIn_bool' μ.w 9999 t p q hd
   rcases dO with rfl| rfl
   · subst hn
     simp[eqGuard,hx,hy,Go.binOp,Sem.run_bind,heq,gg]
   · subst hn
     simp[eqGuard,hx,hy,Go.binOp,Sem.run_bind,heq,gg]
 · exact absurd ah au
theorem G8 {op:BinOp} {t t2:TypeId} {x y:Operand} {x' y':aW} {ks:List Nat} (hr:Rel X T a μ) (ho:o.op= .binOp op t x y t2) (dO:op= .eql∨op= .neq)
   (hg:X.P.eqGuardType X.P.depth t=false) (hk:kK X 100 t=some ks) (Ey:gJ X t=some true)
   (h1:cR X x=some x') (h2:cR X y=some y') {neg:Bool} (hn:neg=gg op)
   (ah: (av E (.rP neg ks x' y')).run C ⟨T,μ.O⟩=some (v,σ')):σ'.T=T∧cG X o a μ σ'.O v:=by
 simp only[av,bB] at ah
 have hx:=aT hr h1 μ.O
 have hy:=aT hr h2 μ.O
 split at ah
 · rename_i p q e1 e2
   split at ah
   · rename_i b hb
     obtain⟨rfl,rfl⟩:=aY ah
     rw[e1] at hx;rw[e2] at hy
     simp only[ak] at hx hy
     obtain⟨_,xs,CI,hvx⟩:=hx
     obtain⟨_,ys,hys,hvy⟩:=hy
     refine⟨rfl,aO (val:= .bool (b !=neg)) hr.bg ?_ (by simp[ak])⟩
     simp only[execOp,ho]
     refine cj ?_
     obtain⟨_,hh⟩:=(Ro (X:=X) (μ:=μ) μ.w 100).1 t ks p q _ _ b 10000 hk (by omega) hvx hvy hb
     rcases hh with⟨_,hh⟩ | ⟨hh,_⟩
     · have heq: (Op.equal t (.agg xs) (.agg ys)).run X.P μ.w= .ok b μ.w:=by simpa [Op.equal,Op.maxDepth] using hh
       have BK: (eqGuard op t x y (.agg xs) (.agg ys)).run X.P μ.w= .ok () μ.w:=run_eqGuard_agg μ.w op t x y xs ys hg
       rw[CI,hys]
       rcases dO with rfl| rfl
       · subst hn
         simp only[Sem.run_bind,BK,Result.andThen_ok,Go.binOp,heq,gg];simp
       · subst hn
         simp only[Sem.run_bind,BK,Result.andThen_ok,Go.binOp,heq,gg];simp
     · rw[Ey] at hh;cases hh
   · exact absurd ah au
 · exact absurd ah au
theorem uY {t k:Nat}: ∀ {ks:List (Nat×Nat)},pn t ks=some k→(t,k) ∈ ks
 | [],h=>by simp[pn] at h
 | (t',k')::ks,h=>by
   simp only[pn] at h
   cases hb:Nat.beq t' t with
   | true=>
     have:=Nat.eq_of_beq_eq_true hb
     rw[hb] at h
     simp at h;subst h;subst this;simp
   | false=>
     rw[hb] at h
     exact List.mem_cons_of_mem _ (uY h)
theorem zJ {X:TrEnv} {t k:Nat} (h: (t,k) ∈ ua X): ∃T i D,X.jb T=some t∧X.P.info? T=some i∧i.comparable=true∧bq X T=some D∧
   ((k=0∧D= .bool)∨(k=1∧ ∃q,D= .int q)∨(k=2∧D= .string)):=by
 simp only[ua,List.mem_filterMap] at h
 obtain⟨T,_,h⟩:=h
 split at h
 · rename_i h1 h2 h3
   simp only[Option.map_eq_some_iff] at h2
   obtain⟨i,hi,hc⟩:=h2
   simp at h;obtain⟨rfl,rfl⟩:=h
   exact⟨T,i,_,h1,hi,hc,h3,.inl ⟨rfl,rfl⟩⟩
 · rename_i h1 h2 h3
   simp only[Option.map_eq_some_iff] at h2
   obtain⟨i,hi,hc⟩:=h2
   simp at h;obtain⟨rfl,rfl⟩:=h
   exact⟨T,i,_,h1,hi,hc,h3,.inr (.inl ⟨rfl,_,rfl⟩)⟩
 · rename_i h1 h2 h3
   simp only[Option.map_eq_some_iff] at h2
   obtain⟨i,hi,hc⟩:=h2
   simp at h;obtain⟨rfl,rfl⟩:=h
   exact⟨T,i,_,h1,hi,hc,h3,.inr (.inr ⟨rfl,rfl⟩)⟩
 · simp at h
theorem qQ {P:Program} {w:World} (d:Nat) {ti tp:TypeId} {ms:Array (String×TypeId)} {i:TypeInfo} {u v:Value} {b:Bool} (hi:P.underlying ti=some (.interface ms)) (Xr:P.info? tp=some i) (Xs:i.comparable=true)
  (h: (Op.equalIn d tp u v).run P w= .ok b w): (Op.equalIn (d+1) ti (.iface tp u) (.iface tp v)).run P w= .ok b w:=by
 simp[Op.equalIn,run_underlying hi,typeInfo,Xr,Xs,h]
theorem uZ {P:Program} {w:World} (d:Nat) {ti tp:TypeId} {ms:Array (String×TypeId)} {u:Value} (hi:P.underlying ti=some (.interface ms)):
  (Op.equalIn (d+1) ti .nilIface (.iface tp u)).run P w= .ok false w:=by
 simp[Op.equalIn,run_underlying hi]
theorem u4 {P:Program} {w:World} (d:Nat) {ti tp:TypeId} {ms:Array (String×TypeId)} {u:Value} (hi:P.underlying ti=some (.interface ms)):
  (Op.equalIn (d+1) ti (.iface tp u) .nilIface).run P w= .ok false w:=by
 simp[Op.equalIn,run_underlying hi]
theorem Rq {op:BinOp} {t t2:TypeId} {x y:Operand} {x' y':aW} (hr:Rel X T a μ) (ho:o.op= .binOp op t x y t2) (dO:op= .eql∨op= .neq) (hd: ∃ms,bq X t=some (.interface ms))
   (mP: ∀t1 t2 k,X.jb t1=some k→X.jb t2=some k→t1=t2)
   (h1:cR X x=some x') (h2:cR X y=some y') {neg:Bool} (hn:neg=gg op)
   (ah: (av E (.To neg (ua X) x' y')).run C ⟨T,μ.O⟩=some (v,σ')):σ'.T=T∧cG X o a μ σ'.O v:=by
 simp only[av,bB] at ah
 have hx:=aT hr h1 μ.O
 have hy:=aT hr h2 μ.O
 obtain⟨ms,hd⟩:=hd
 have fin: ∀b,(Op.equal t (a.eval x) (a.eval y)).run X.P μ.w= .ok b μ.w→(eqGuard op t x y (a.eval x) (a.eval y)).run X.P μ.w= .ok () μ.w→
     (∀k1 k2 m1 m2,¬ (a.eval x= .int k1 m1∧a.eval y= .int k2 m2))→
     (Go.binOp op t (a.eval x) (a.eval y)).run X.P μ.w= .ok (.bool (b !=neg)) μ.w→cG X o a μ μ.O (.bool (b !=neg)):=fun b heq BK _ hb=>by
   refine aO (val:= .bool (b !=neg)) hr.bg ?_ (by simp[ak])
   simp only[execOp,ho]
   refine cj ?_
   simp only[Sem.run_bind,BK,Result.andThen_ok,hb]
 split at ah
 · rename_i s p s' q e1 e2
   rw[e1] at hx;rw[e2] at hy
   simp only[ak] at hx hy
   obtain⟨T1,u1,hx,Kd,hp⟩:=hx
   obtain⟨T2,u2,hy,W5,hq⟩:=hy
   split at ah
   · rename_i hss
     subst hss
     split at ah
     · rename_i k hk
       split at ah
       · rename_i b hb
         obtain⟨rfl,rfl⟩:=aY ah
         obtain⟨T0,i,D,k1,k2,k3,k4,k5⟩:=zJ (uY hk)
         obtain rfl:=mP T1 T0 _ Kd k1
         obtain rfl:=mP T2 T1 _ W5 k1
         have heq: (Op.equal t (.iface T2 u1) (.iface T2 u2)).run X.P μ.w= .ok b μ.w:=
           qQ 9999 hd k2 k3 (Dd (m:=9998) k4 k5 hp hq hb μ.w)
         refine⟨rfl,fin b (by rw[hx,hy];exact heq) (by rw[hx,hy];rcases dO with rfl| rfl<;>simp[eqGuard]) (by simp[hx]) ?_⟩
         rw[hx,hy]
         rcases dO with rfl| rfl
         · subst hn
           simp[Go.binOp,Sem.run_bind,heq,gg]
         · subst hn
           simp[Go.binOp,Sem.run_bind,heq,gg]
       · exact absurd ah au
     · exact absurd ah au
   · exact absurd ah au
 · rename_i s p e1 e2
   rw[e1] at hx;rw[e2] at hy
   simp only[ak] at hx hy
   obtain⟨T2,u2,hy,W5,hq⟩:=hy
   obtain⟨rfl,rfl⟩:=aY ah
   have heq: (Op.equal t .nilIface (.iface T2 u2)).run X.P μ.w= .ok false μ.w:=uZ 9999 hd
   refine⟨rfl,?_⟩
   have:=fin false (by rw[hx,hy];exact heq) (by rw[hx,hy];rcases dO with rfl| rfl<;>simp[eqGuard]) (by simp[hx]) (by
     rw[hx,hy]
     rcases dO with rfl| rfl
     · subst hn
       simp[Go.binOp,Sem.run_bind,heq,gg]
     · subst hn
       simp[Go.binOp,Sem.run_bind,heq,gg])
   simpa using this
 · rename_i s p e1 e2
   rw[e1] at hx;rw[e2] at hy
   simp only[ak] at hx hy
   obtain⟨T2,u2,hx,W5,hq⟩:=hx
   obtain⟨rfl,rfl⟩:=aY ah
   have heq: (Op.equal t (.iface T2 u2) .nilIface).run X.P μ.w= .ok false μ.w:=u4 9999 hd
   refine⟨rfl,?_⟩
   have:=fin false (by rw[hx,hy];exact heq) (by rw[hx,hy];rcases dO with rfl| rfl<;>simp[eqGuard]) (by simp[hx]) (by
     rw[hx,hy]
     rcases dO with rfl| rfl
     · subst hn
       simp[Go.binOp,Sem.run_bind,heq,gg]
     · subst hn
       simp[Go.binOp,Sem.run_bind,heq,gg])
   simpa using this
 · exact absurd ah au
theorem jT {P:Program} {w:World} (d:Nat) {t e:TypeId} (q:Option Addr) (hi:P.underlying t=some (.pointer e)):
  (Op.equalIn (d+1) t (.pointer none) (.pointer q)).run P w= .ok q.isNone w:=by
 simp[Op.equalIn,run_underlying hi]
theorem ns {P:Program} {w:World} (d:Nat) {t e:TypeId} (p:Addr) (hi:P.underlying t=some (.pointer e)):
  (Op.equalIn (d+1) t (.pointer (some p)) (.pointer none)).run P w= .ok false w:=by
 simp[Op.equalIn,run_underlying hi]
theorem u5 {P:Program} {w:World} (d:Nat) {t e:TypeId} {inf:TypeInfo} {n:Nat} {b o o':Nat} (hi:P.underlying t=some (.pointer e)) (rB:P.info? e=some inf) (Xt:P.cellsOf e=n+1):
  (Op.equalIn (d+1) t (.pointer (some ⟨b,o,none⟩)) (.pointer (some ⟨b,o',none⟩))).run P w= .ok (o==o') w:=by
 have hq: ((⟨b,o,none⟩:Addr)==⟨b,o',none⟩)=(o==o'):=by
  rw[Bool.eq_iff_iff]
  simp only[beq_iff_eq,Addr.mk.injEq,true_and,and_true]
 simp[Op.equalIn,run_underlying hi,Sem.run_bind,run_sizeOf (w:=w) rB,Xt,sameAddr,hq]
theorem Rs {op:BinOp} {t e t2:TypeId} {n:Nat} {x y:Operand} {x' y':aW} (hr:Rel X T a μ) (ho:o.op= .binOp op t x y t2) (dO:op= .eql∨op= .neq) (hd:bq X t=some (.pointer e)) (cH:bG X e=some (n+1))
  (h1:cR X x=some x') (h2:cR X y=some y') {neg:Bool} (hn:neg=gg op)
  (ah: (av E (.MZ neg x' y')).run C ⟨T,μ.O⟩=some (v,σ')):σ'.T=T∧cG X o a μ σ'.O v:=by
 simp only[av,bB] at ah
 have hx:=aT hr h1 μ.O
 have hy:=aT hr h2 μ.O
 obtain⟨hb,rfl⟩:=dK ah
 rw[Option.map_eq_some_iff] at hb
 obtain⟨b,hb,rfl⟩:=hb
 have mE:X.P.underlying t=some (.pointer e):=hd
 obtain⟨inf,rB,BG⟩: ∃inf,X.P.info? e=some inf∧inf.size=n+1:=by simpa [bG,info] using cH
 have Xt:X.P.cellsOf e=n+1:=by simp[Program.cellsOf,rB,BG]
 have key: ∃p q,a.eval x= .pointer p∧a.eval y= .pointer q∧(Op.equal t (.pointer p) (.pointer q)).run X.P μ.w= .ok b μ.w:=by
  unfold CL at hb
  split at hb
  · rename_i e1 e2
    rw[e1] at hx;rw[e2] at hy
    simp only[ak] at hx hy
    simp only[Option.some.injEq] at hb;subst hb
    exact⟨_,_,hx,hy,jT 9999 none mE⟩
  · rename_i e1 e2
    rw[e1] at hx;rw[e2] at hy
    simp only[ak] at hx hy
    simp only[Option.some.injEq] at hb;subst hb
    obtain⟨_,_,_,_,_,_,hy,_⟩:=hy
    exact⟨_,_,hx,hy,jT 9999 _ mE⟩
  · rename_i e1 e2
    rw[e1] at hx;rw[e2] at hy
    simp only[ak] at hx hy
    simp only[Option.some.injEq] at hb;subst hb
    obtain⟨_,_,_,hy,_⟩:=hy
    exact⟨_,_,hx,hy,jT 9999 _ mE⟩
  · rename_i e1 e2
    rw[e1] at hx;rw[e2] at hy
    simp only[ak] at hx hy
    simp only[Option.some.injEq] at hb;subst hb
    obtain⟨_,_,_,_,_,_,hx,_⟩:=hx
    exact⟨_,_,hx,hy,ns 9999 _ mE⟩
  · rename_i e1 e2
    rw[e1] at hx;rw[e2] at hy
    simp only[ak] at hx hy
    simp only[Option.some.injEq] at hb;subst hb
    obtain⟨_,_,_,hx,_⟩:=hx
    exact⟨_,_,hx,hy,ns 9999 _ mE⟩
  · rename_i i z e0 i' z' e0' e1 e2
    rw[e1] at hx;rw[e2] at hy
    simp only[ak] at hx hy
    split at hb<;>simp only[Option.some.injEq,reduceCtorEq] at hb
    rename_i hz
    obtain⟨rfl,SM⟩:=hz
    subst hb
    obtain⟨_,_,_,hx,_⟩:=hx
    obtain⟨_,_,_,hy,_⟩:=hy
    refine⟨_,_,hx,hy,?_⟩
    have hq: (X.tok.2+i*z+0==X.tok.2+i'*z+0)=(i==i'):=by
     rw[Bool.eq_iff_iff]
     simp only[beq_iff_eq]
     constructor
     · intro h
       have:i*z=i'*z:=by omega
       exact Nat.eq_of_mul_eq_mul_right SM this
     · rintro rfl;rfl
    exact(u5 9999 mE rB Xt).trans (by rw[hq])
  · simp at hb
 obtain⟨p,q,hp,hq,heq⟩:=key
 refine⟨rfl,aO (val:= .bool (b !=neg)) hr.bg ?_ (by simp[ak])⟩
 simp only[execOp,ho,hp,hq]
 refine cj ?_
 subst hn
 rcases dO with rfl| rfl<;>simp[eqGuard,Go.binOp,Sem.run_bind,heq,gg]
theorem Xu {op:UnOp} {t:TypeId} {x:Operand} {x':aW} (hr:Rel X T a μ) (ho:o.op= .unOp op t x) (h1:cR X x=some x')
  (ah: (av E (.un op x')).run C ⟨T,μ.O⟩=some (v,σ')):σ'.T=T∧cG X o a μ σ'.O v:=by
 simp only[av,bB] at ah
 obtain⟨hb,rfl⟩:=dK ah
 have hx:=aT hr h1 μ.O
 have: ∃val,(Op.unary op (a.eval x)).run X.P μ.w= .ok val μ.w∧ak X μ v val:=by
  unfold Bf at hb
  split at hb
  · rename_i k n e
    simp at hb;subst hb
    rw[e] at hx;simp only[ak] at hx
    exact⟨.int k (k.wrap (0 - n)),by simp[hx,Op.unary,Op.intArith],by simp[ak]⟩
  · rename_i b e
    simp at hb;subst hb
    rw[e] at hx;simp only[ak] at hx
    exact⟨.bool (!b),by simp[hx,Op.unary],by simp[ak]⟩
  · rename_i k n e
    simp only[km,Option.some.injEq] at hb;subst hb
    rw[e] at hx;simp only[ak] at hx
    exact⟨_,by simp[hx,Op.unary,Op.intBits];rfl,by simp[ak]⟩
  · simp at hb
 obtain⟨val,h2,h3⟩:=this
 refine⟨rfl,aO hr.bg ?_ h3⟩
 simp only[execOp,ho]
 exact cj h2
theorem BL {s d:TypeId} {x:Operand} {x':aW} {k k0:IntKind} (hr:Rel X T a μ) (ho:o.op= .convert s d x) (hs:bq X s=some (.int k0)) (hd:bq X d=some (.int k))
   (h1:cR X x=some x') (ah: (av E (.ef k x')).run C ⟨T,μ.O⟩=some (v,σ')):σ'.T=T∧cG X o a μ σ'.O v:=by
 simp only[av,bB] at ah
 have hx:=aT hr h1 μ.O
 split at ah
 · rename_i k1 n1 e
   obtain⟨rfl,rfl⟩:=aY ah
   rw[e] at hx;simp only[ak] at hx
   refine⟨rfl,aO (val:= .int k (k.wrap n1)) hr.bg ?_ (by simp[ak])⟩
   simp only[execOp,ho]
   refine cj ?_
   simp[convert,Sem.run_bind,run_underlying hs,run_underlying hd,hx,Conv.intToInt]
 · exact absurd ah au
theorem Ez {s d:TypeId} {x:Operand} {x':aW} {k0:IntKind} (hr:Rel X T a μ) (ho:o.op= .convert s d x) (hs:bq X s=some (.int k0)) (hd:bq X d=some (.float .f64))
   (h1:cR X x=some x') (ah: (av E (.rQ x')).run C ⟨T,μ.O⟩=some (v,σ')):σ'.T=T∧cG X o a μ σ'.O v:=by
 simp only[av,bB] at ah
 have hx:=aT hr h1 μ.O
 split at ah
 · rename_i k1 n1 e
   obtain⟨rfl,rfl⟩:=aY ah
   rw[e] at hx;simp only[ak] at hx
   refine⟨rfl,aO (val:= .float .f64 (FloatKind.f64.nearest n1)) hr.bg ?_ (by simp[ak])⟩
   simp only[execOp,ho]
   refine cj ?_
   simp[convert,Sem.run_bind,run_underlying hs,run_underlying hd,hx,Conv.intToFloat]
 · exact absurd ah au
theorem EA {s d:TypeId} {x:Operand} {x':aW} {k:IntKind} (hr:Rel X T a μ) (ho:o.op= .convert s d x) (hs:bq X s=some (.float .f64)) (hd:bq X d=some (.int k))
   (h1:cR X x=some x') (ah: (av E (.rR k x')).run C ⟨T,μ.O⟩=some (v,σ')):σ'.T=T∧cG X o a μ σ'.O v:=by
 simp only[av,bB] at ah
 have hx:=aT hr h1 μ.O
 split at ah
 · rename_i b e
   split at ah
   · rename_i n hn
     split at ah
     · rename_i hle
       obtain⟨rfl,rfl⟩:=aY ah
       rw[e] at hx;simp only[ak] at hx
       refine⟨rfl,aO (val:= .int k n) hr.bg ?_ (by simp[ak])⟩
       simp only[execOp,ho]
       refine cj ?_
       simp[convert,Sem.run_bind,run_underlying hs,run_underlying hd,hx,Conv.floatToInt,hn,hle]
     · exact absurd ah au
   · exact absurd ah au
 · exact absurd ah au
theorem BM {s d:TypeId} {x:Operand} {x':aW} (hr:Rel X T a μ) (ho:o.op= .convert s d x) (hs:bq X s=some .string) (hd:bq X d=some .string)
   (h1:cR X x=some x') (ah: (av E (.qq x')).run C ⟨T,μ.O⟩=some (v,σ')):σ'.T=T∧cG X o a μ σ'.O v:=by
 simp only[av,bB] at ah
 have hx:=aT hr h1 μ.O
 split at ah
 · rename_i b e
   obtain⟨rfl,rfl⟩:=aY ah
   rw[e] at hx;simp only[ak] at hx
   obtain⟨bs,BN,rfl⟩:=hx
   refine⟨rfl,aO (val:= .string bs) hr.bg ?_ (by simp[ak])⟩
   simp only[execOp,ho]
   refine cj ?_
   simp[convert,Sem.run_bind,run_underlying hs,run_underlying hd,BN]
 · exact absurd ah au
theorem eB {c:Call} {b:Builtin} {val:Value} {w w':World} (ho:o.op= .call c) (hc:c.callee= .builtin b)
  (h: (builtin b c.argTypes o.type (c.args.map fun| .const _=>true| _=>false) (c.args.map a.eval)).run X.P w= .ok (.value val) w'):
  (execOp a.eval o).run X.P w= .ok (.value val) w':=by
 simp only[execOp,ho,resolve,hc,Sem.run_bind,Sem.run_pure,Result.andThen_ok,invoke]
 exact h
theorem Rt {c:Call} {x:Operand} {t e:TypeId} {x':aW} (hr:Rel X T a μ) (ho:o.op= .call c) (hc:c.callee= .builtin .len) (ha:c.args= #[x]) (ht:c.argTypes= #[t])
  (hd:bq X t=some (.slice e)) (h1:cR X x=some x') (ah: (av E (.len x')).run C ⟨T,μ.O⟩=some (v,σ')):
  σ'.T=T∧cG X o a μ σ'.O v:=by
 simp only[av,bB] at ah
 obtain⟨hb,rfl⟩:=dK ah
 have hx:=aT hr h1 μ.O
 have key: ∃n:Nat,(Builtin.len_ #[t] o.type #[a.eval x]).run X.P μ.w= .ok (goInt n) μ.w∧v= .int .i64 n:=by
  cases hy:bo ⟨T,μ.O⟩ x'<;>rw[hy] at hb hx<;>simp[oD] at hb
  · simp only[ak] at hx
    obtain⟨p,hp⟩:=hx
    exact⟨0,by simp[Builtin.len_,Sem.run_bind,run_underlying hd,hp],hb.symm⟩
  · simp only[ak] at hx
    obtain⟨_,_,p,cap,vs,hp,_⟩:=hx
    exact⟨_,by simp[Builtin.len_,Sem.run_bind,run_underlying hd,hp],hb.symm⟩
  · simp only[ak] at hx
    obtain⟨p,cap,hp,_⟩:=hx
    exact⟨_,by simp[Builtin.len_,Sem.run_bind,run_underlying hd,hp],hb.symm⟩
  · simp only[ak] at hx
    obtain⟨_,_,p,cap,vs,hp,_⟩:=hx
    exact⟨_,by simp[Builtin.len_,Sem.run_bind,run_underlying hd,hp],hb.symm⟩
 obtain⟨n,h2,rfl⟩:=key
 refine⟨rfl,aO (val:=goInt n) hr.bg ?_ (by simp[ak,goInt])⟩
 refine eB ho hc ?_
 simp only[builtin,ha,ht]
 refine cj ?_
 simpa using h2
theorem EB {c:Call} {x:Operand} {t:TypeId} {x':aW} (hr:Rel X T a μ) (ho:o.op= .call c) (hc:c.callee= .builtin .len) (ha:c.args= #[x]) (ht:c.argTypes= #[t])
   (hd:bq X t=some .string) (h1:cR X x=some x') (ah: (av E (.uz x')).run C ⟨T,μ.O⟩=some (v,σ')):
   σ'.T=T∧cG X o a μ σ'.O v:=by
 simp only[av,bB] at ah
 have hx:=aT hr h1 μ.O
 split at ah
 · rename_i s e
   obtain⟨rfl,rfl⟩:=aY ah
   rw[e] at hx;simp only[ak] at hx
   obtain⟨bs,BN,rfl⟩:=hx
   refine⟨rfl,aO (val:=goInt bs.size) hr.bg ?_ (by simp only[ak,goInt];rw[Array.length_toList];rfl)⟩
   refine eB ho hc ?_
   simp only[builtin,ha,ht]
   refine cj ?_
   simp[Builtin.len_,Sem.run_bind,run_underlying hd,BN]
 · exact absurd ah au
theorem EC {c:Call} {x:Operand} {t e:TypeId} {n:Nat} (hr:Rel X T a μ) (ho:o.op= .call c) (hc:c.callee= .builtin .len) (ha:c.args= #[x]) (ht:c.argTypes= #[t])
  (hd:bq X t=some (.array n e)) (ah: (av E (.move (.const (.int .i64 n)))).run C ⟨T,μ.O⟩=some (v,σ')):
  σ'.T=T∧cG X o a μ σ'.O v:=by
 simp only[av,bB,bo] at ah
 obtain⟨rfl,rfl⟩:=aY ah
 refine⟨rfl,aO (val:=goInt n) hr.bg ?_ (by simp[ak,goInt])⟩
 refine eB ho hc ?_
 simp only[builtin,ha,ht]
 refine cj ?_
 simp[Builtin.len_,Sem.run_bind,run_underlying hd]
theorem wX {w:World}: ∀ {xs:List V} {x:V} {u:V} {xv:Value} {vs:List Value},ak X μ x xv→aj X μ xs vs→gY min2 (x::xs)=some u→
   ∃val,(vs.foldlM Builtin.min2 xv).run X.P w= .ok val w∧ak X μ u val
 | [],x,u,xv,[],hx,_,h=>by simp[gY,gz] at h;subst h;exact⟨xv,by simp,hx⟩
 | [],_,_,_,_::_,_,hv,_=>by simp[aj] at hv
 | _::_,_,_,_,[],_,hv,_=>by simp[aj] at hv
 | y::ys,x,u,xv,yv::vs,hx,hv,h=>by
   simp only[aj] at hv
   simp only[gY,gz] at h
   split at h
   · rename_i z hz
     have: ∃zv,(Builtin.min2 xv yv).run X.P w= .ok zv w∧ak X μ z zv:=by
      unfold min2 at hz
      split at hz
      · split at hz<;>simp at hz
        rename_i hk;subst hk;subst hz
        have h1:=hv.1
        simp only[ak] at hx h1
        subst hx;subst h1
        exact⟨_,by simp[Builtin.min2];rfl,by simp[ak]⟩
      · simp at hz
     obtain⟨zv,h1,h2⟩:=this
     obtain⟨val,h3,h4⟩:=wX (w:=w) h2 hv.2 h
     exact⟨val,by simp[List.foldlM_cons,Sem.run_bind,h1,h3],h4⟩
   · simp at h
theorem wY {w:World}: ∀ {xs:List V} {x:V} {u:V} {xv:Value} {vs:List Value},ak X μ x xv→aj X μ xs vs→gY max2 (x::xs)=some u→
   ∃val,(vs.foldlM Builtin.max2 xv).run X.P w= .ok val w∧ak X μ u val
 | [],x,u,xv,[],hx,_,h=>by simp[gY,gz] at h;subst h;exact⟨xv,by simp,hx⟩
 | [],_,_,_,_::_,_,hv,_=>by simp[aj] at hv
 | _::_,_,_,_,[],_,hv,_=>by simp[aj] at hv
 | y::ys,x,u,xv,yv::vs,hx,hv,h=>by
   simp only[aj] at hv
   simp only[gY,gz] at h
   split at h
   · rename_i z hz
     have: ∃zv,(Builtin.max2 xv yv).run X.P w= .ok zv w∧ak X μ z zv:=by
      unfold max2 at hz
      split at hz
      · split at hz<;>simp at hz
        rename_i hk;subst hk;subst hz
        have h1:=hv.1
        simp only[ak] at hx h1
        subst hx;subst h1
        exact⟨_,by simp[Builtin.max2];rfl,by simp[ak]⟩
      · simp at hz
     obtain⟨zv,h1,h2⟩:=this
     obtain⟨val,h3,h4⟩:=wY (w:=w) h2 hv.2 h
     exact⟨val,by simp[List.foldlM_cons,Sem.run_bind,h1,h3],h4⟩
   · simp at h
theorem Ru {c:Call} {xs:List aW} (hr:Rel X T a μ) (ho:o.op= .call c) (hc:c.callee= .builtin .min) (h1:qI X c.args.toList=some xs)
   (ah: (av E (.min xs)).run C ⟨T,μ.O⟩=some (v,σ')):σ'.T=T∧cG X o a μ σ'.O v:=by
 simp only[av,qN] at ah
 obtain⟨hb,rfl⟩:=dK ah
 have hx:=qO hr μ.O h1
 generalize hq:xs.map (bo ⟨T,μ.O⟩)=us at hb hx
 generalize hp:c.args.toList.map a.eval=vs at hx
 match us,vs,hx,hb with
 | [],_,_,hb=>simp[gY,gz] at hb
 | u::us,[],hx,_=>simp[aj] at hx
 | u::us,y::vs,hx,hb=>
   simp only[aj] at hx
   obtain⟨val,h2,h3⟩:=wX (w:=μ.w) hx.1 hx.2 hb
   refine⟨rfl,aO (val:=val) hr.bg (eB ho hc ?_) h3⟩
   simp only[builtin]
   refine cj ?_
   simp only[Builtin.min_,Array.toList_map,hp]
   exact h2
theorem Rv {c:Call} {xs:List aW} (hr:Rel X T a μ) (ho:o.op= .call c) (hc:c.callee= .builtin .max) (h1:qI X c.args.toList=some xs)
   (ah: (av E (.max xs)).run C ⟨T,μ.O⟩=some (v,σ')):σ'.T=T∧cG X o a μ σ'.O v:=by
 simp only[av,qN] at ah
 obtain⟨hb,rfl⟩:=dK ah
 have hx:=qO hr μ.O h1
 generalize hq:xs.map (bo ⟨T,μ.O⟩)=us at hb hx
 generalize hp:c.args.toList.map a.eval=vs at hx
 match us,vs,hx,hb with
 | [],_,_,hb=>simp[gY,gz] at hb
 | u::us,[],hx,_=>simp[aj] at hx
 | u::us,y::vs,hx,hb=>
   simp only[aj] at hx
   obtain⟨val,h2,h3⟩:=wY (w:=μ.w) hx.1 hx.2 hb
   refine⟨rfl,aO (val:=val) hr.bg (eB ho hc ?_) h3⟩
   simp only[builtin]
   refine cj ?_
   simp only[Builtin.max_,Array.toList_map,hp]
   exact h2
end
end Go.AM
namespace Go.AM
open Go Go.RowKit
theorem ft (b q n:Nat): (⟨b,q,none⟩:Addr).add n=⟨b,q+n,none⟩:=by unfold Addr.add;split<;>simp_all
theorem nu: ∀ {xs:List V} {i:Nat} {x:V},V.an xs=true→xs[i]? =some x→V.aC x=true
 | [],_,_,_,h=>by simp at h
 | y::ys,0,x,hp,h=>by simp[V.an] at hp;simp at h;rw[←h];exact hp.1
 | y::ys,i+1,x,hp,h=>by simp[V.an] at hp;simp at h;exact nu hp.2 h
theorem qR: ∀ {xs:List V} (n:Nat),V.an xs=true→V.an (xs.take n)=true
 | _,0,_=>by simp[V.an]
 | [],n+1,_=>by simp[V.an]
 | y::ys,n+1,h=>by simp[V.an] at h ⊢;exact⟨h.1,qR n h.2⟩
theorem qS: ∀ {xs:List V} (n:Nat),V.an xs=true→V.an (xs.drop n)=true
 | _,0,h=>by simpa using h
 | [],n+1,_=>by simp[V.an]
 | y::ys,n+1,h=>by simp[V.an] at h;simpa using qS n h.2
theorem jz {p:V→Bool} {xs:List V} (n:Nat) (h:xs.all p=true): (xs.take n).all p=true:=by
 simp only[List.all_eq_true] at h ⊢
 exact fun x hx=>h x (List.mem_of_mem_take hx)
theorem kY {p:V→Bool} {xs:List V} (n:Nat) (h:xs.all p=true): (xs.drop n).all p=true:=by
 simp only[List.all_eq_true] at h ⊢
 exact fun x hx=>h x (List.mem_of_mem_drop hx)
theorem di.drop {w:World} {b off sz:Nat} {vs:List Value} (h:di w b off sz vs) (n:Nat):di w b (off+n*sz) sz (vs.drop n):=by
 intro i v hv
 simp only[List.getElem?_drop] at hv
 obtain⟨h1,h2⟩:=h (n+i) v hv
 refine⟨h1,fun j c hc=> ?_⟩
 rw[←h2 j c hc]
 congr 2
 rw[Nat.add_mul];omega
theorem di.take {w:World} {b off sz:Nat} {vs:List Value} (h:di w b off sz vs) (n:Nat):di w b off sz (vs.take n):=by
 intro i v hv
 rw[List.getElem?_take] at hv
 split at hv
 · exact h i v hv
 · simp at hv
section
variable {X:Ctx} {E:Env} {C:bj} {o:Oper} {a:Go.Act} {T:Nat→V} {μ:Mu} {v:V} {σ':St}
theorem ou {t:TypeId} {e u:V} {x:Value} {off sz:Nat} {agg:Bool} {w:World} {b q:Nat} (hx:ak X μ e x) (hp:part agg off sz e=some u)
   (hg:gJ X t=some agg) (hn:bG X t=some sz) (hm: ∀j c,x.cells[j]? =some c→w.cell? ⟨b,q+j,none⟩=some c):
   ∃val,(loadVar t ⟨b,q+off,none⟩).run X.P w= .ok val w∧ak X μ u val:=by
 cases agg with
 | true=>
   obtain⟨cs,rfl,hle,hv⟩:=mg hx hp
   refine⟨_,?_,hv⟩
   have hl: (cs.extract off (off+sz)).toList.length=sz:=by simp;omega
   have:=run_loadCells_list (P:=X.P) w ⟨b,q+off,none⟩ (cs.extract off (off+sz)).toList (fun j c hc=>by
    rw[ft]
    have A4:cs[off+j]? =some c:=by
     rw[Array.toList_extract,List.extract_eq_take_drop,List.getElem?_take] at hc
     split at hc
     · simpa using hc
     · simp at hc
    have:=hm (off+j) c (by simpa [Value.cells] using A4)
    rwa [←Nat.add_assoc] at this)
   rw[hl,Array.toArray_toList] at this
   simp[loadVar,Sem.run_bind,ot hg,c9 hn,this]
 | false=>
   obtain⟨_,c,hc,hv⟩:=kL hx hp
   refine⟨c,?_,hv⟩
   have:=hm off c hc
   simp[loadVar,Sem.run_bind,ot hg,this]
theorem zK (ho:bu X μ) {r idx:Nat} {es:List V} {e:V} (bR: (μ.O r).es=some es) (he:es[idx]? =some e) (h0:0 < (μ.O r).sz):
   ∃x,ak X μ e x∧(μ.φ r).cap≠0∧ ∀j c,x.cells[j]? =some c→μ.w.cell? ⟨(μ.φ r).dc,(μ.φ r).base+idx*(μ.O r).sz+j,none⟩=some c:=by
 obtain⟨_,h2,_,h4⟩:=ho.row r es bR h0
 have bl:idx<es.length:=(List.getElem?_eq_some_iff.1 he).1
 have hc: (μ.φ r).cap≠0:=by omega
 rcases h4 with h4| ⟨c,T',vs,_,_,hv,cP⟩
 · exact absurd h4 hc
 · obtain⟨x,hx,hr⟩:=hv.get he
   exact⟨x,hr,hc,(cP idx x hx).2⟩
theorem De {t:TypeId} {x:Operand} {x':aW} {agg:Bool} {sz:Nat} (hr:Rel X T a μ) (ho:o.op= .load t x) (h1:cR X x=some x') (hg:gJ X t=some agg) (hn:bG X t=some sz)
   (ah: (av E (.load agg sz x')).run C ⟨T,μ.O⟩=some (v,σ')):σ'.T=T∧cG X o a μ σ'.O v:=by
 simp only[av,bB] at ah
 have hx:=aT hr h1 μ.O
 have fin: ∀ (p:Addr),a.eval x= .pointer (some p)→ ∀val,(loadVar t p).run X.P μ.w= .ok val μ.w→(execOp a.eval o).run X.P μ.w= .ok (.value val) μ.w:=fun p hp val hv=>by
   simp only[execOp,ho]
   refine cj ?_
   simp[Instr.loadAt,Instr.sureAddr,Sem.run_bind,hp,hv]
 split at ah
 · rename_i r g idx off e
   simp only[Act.run] at ah
   split at ah
   · rename_i es bR
     split at ah
     · rename_i cu
       split at ah
       · rename_i el oO
         obtain⟨hp,rfl⟩:=dK ah
         rw[e] at hx
         simp only[ak] at hx
         obtain⟨p,Mn,_,cK⟩:=hx
         obtain⟨xv,sY,_,jU⟩:=zK hr.bg bR oO (cK cu).1
         obtain⟨val,hl,bU⟩:=ou sY hp hg hn jU
         refine⟨rfl,aO hr.bg (fin p Mn val ?_) bU⟩
         rw[(cK cu).2];exact hl
       · exact absurd ah au
     · exact absurd ah au
   · exact absurd ah au
 · rename_i el off e
   obtain⟨hp,rfl⟩:=dK ah
   rw[e] at hx
   simp only[ak] at hx
   obtain⟨_,_,b,q,sz',xv,Mn,_,_,sY,cP⟩:=hx
   obtain⟨val,hl,bU⟩:=ou (w:=μ.w) (b:=b) (q:=q) sY hp hg hn (fun j c hc=>by simpa using (cP 0 xv (by simp)).2 j c hc)
   exact⟨rfl,aO hr.bg (fin _ Mn val hl) bU⟩
 · rename_i i z el off e
   obtain⟨hp,rfl⟩:=dK ah
   rw[e] at hx
   simp only[ak] at hx
   obtain⟨_,_,xv,Mn,_,_,sY,cP⟩:=hx
   obtain⟨val,hl,bU⟩:=ou (w:=μ.w) (b:=X.tok.1) (q:=X.tok.2+i*z) sY hp hg hn (fun j c hc=>by simpa using (cP 0 xv (by simp)).2 j c hc)
   exact⟨rfl,aO hr.bg (fin _ Mn val hl) bU⟩
 · exact absurd ah au
theorem ED {ks:List Nat} {agg:Bool} {sz:Nat} {x:aW} {σ:St} (h: (av E (.sC ks agg sz x)).run C σ=some (v,σ')): ∃v0,(av E (.load agg sz x)).run C σ=some (v0,σ')∧v=AM.A5 ks v0:=by
 simp only[av,bB] at h ⊢
 have fin: ∀ (p:Option V),(cT (p.map (AM.A5 ks))).run C σ=some (v,σ')→ ∃v0,(cT p).run C σ=some (v0,σ')∧v=AM.A5 ks v0:=by
   intro p hp
   cases p with
   | none=>exact absurd hp au
   | some v0=>
     obtain⟨h1,h2⟩:=dK hp
     simp only[Option.map_some,Option.some.injEq] at h1
     exact⟨v0,by simp only[cT,Act.run,h2],h1.symm⟩
 split at h
 · rename_i r g idx off e
   simp only[Act.run] at h ⊢
   split at h
   · rename_i es bR
     split at h
     · rename_i hg
       split at h
       · rename_i el oO
         rw[if_pos hg]
         exact fin _ h
       · exact absurd h au
     · exact absurd h au
   · exact absurd h au
 · exact fin _ h
 · exact fin _ h
 · exact absurd h au
theorem G9 {t:TypeId} {x:Operand} {x':aW} {agg:Bool} {sz:Nat} (ks:List Nat) (hr:Rel X T a μ) (ho:o.op= .load t x) (h1:cR X x=some x') (hg:gJ X t=some agg) (hn:bG X t=some sz)
  (ah: (av E (.sC ks agg sz x')).run C ⟨T,μ.O⟩=some (v,σ')):σ'.T=T∧cG X o a μ σ'.O v:=by
 obtain⟨v0,h2,rfl⟩:=ED ah
 obtain⟨h3,val,w',φ',h4,h5,h6,h7⟩:=De hr ho h1 hg hn h2
 exact⟨h3,val,w',φ',h4,ak.A5 ks h5,h6,h7⟩
theorem yl { t e:TypeId} {x i:Operand} {x' i':aW} {sz:Nat} (hr:Rel X T a μ) (ho:o.op= .indexAddr t x i) (hd:bq X t=some (.slice e)) (hn:bG X e=some sz)
   (h1:cR X x=some x') (h2:cR X i=some i') (ah: (av E (.indexAddr sz x' i')).run C ⟨T,μ.O⟩=some (v,σ')):σ'.T=T∧cG X o a μ σ'.O v:=by
 simp only[av,bB] at ah
 have hx:=aT hr h1 μ.O
 have hi:=aT hr h2 μ.O
 have fin: ∀ (p:Addr) (len cap:Nat) (k:IntKind) (n:Int),a.eval x= .slice (some p) len cap→a.eval i= .int k n→0≤n→n<len→
     (execOp a.eval o).run X.P μ.w= .ok (.value (.pointer (some (p.add (n.toNat*sz))))) μ.w:=fun p len cap k n hp hq Rw Mo=>by
   simp only[execOp,ho]
   refine cj ?_
   simp[Instr.indexAt,Sem.run_bind,hp,hq,asIntOf,run_underlying hd,Rw,Mo,c9 hn]
 split at ah
 · rename_i r g off len k n e1 e2
   simp only[Act.run] at ah
   split at ah
   · rename_i hc
     obtain⟨rfl,rfl⟩:=aY ah
     rw[e1] at hx;rw[e2] at hi
     simp only[ak] at hx hi
     obtain⟨p,cap,hp,hlc,sW,cK⟩:=hx
     obtain⟨q0,q1,q2⟩:=cK hc.2.2.2
     have dz:cap≠0:=by omega
     have wZ:=q2.resolve_left dz
     rw[wZ] at hp
     refine⟨rfl,aO hr.bg (fin _ len cap k n hp hi hc.1 hc.2.1) ?_⟩
     simp only[ak]
     refine⟨_,rfl,sW,fun _=> ⟨q0,?_⟩⟩
     rw[ft,hc.2.2.1]
     simp only[Addr.mk.injEq,true_and,and_true]
     rw[Nat.add_mul];omega
   · exact absurd ah au
 · rename_i sz' xs k n e1 e2
   split at ah
   · rename_i hc
     split at ah
     · rename_i el oO
       obtain⟨rfl,rfl⟩:=aY ah
       rw[e1] at hx;rw[e2] at hi
       simp only[ak] at hx hi
       obtain⟨mh,gu,p,cap,vs,hp,hlc,pZ,jU⟩:=hx
       have bl:n.toNat<xs.length:=(List.getElem?_eq_some_iff.1 oO).1
       rcases jU with jU| ⟨b,q,Rx,ez,BN,cP⟩
       · subst jU;simp at bl
       · rw[Rx] at hp
         obtain⟨xv,sY,bU⟩:=pZ.get oO
         refine⟨rfl,aO hr.bg (fin _ xs.length cap k n hp hi hc.1 (by omega)) ?_⟩
         simp only[ak]
         refine⟨nu mh oO,?_,b,q+n.toNat*sz,sz,xv,by rw[ft];simp,ez,BN,bU,?_⟩
         · simp only[List.all_eq_true] at gu
           exact gu el (List.mem_of_getElem? oO)
         · have:=(cP.drop n.toNat).take 1
           rw[hc.2] at this
           have G3: (vs.drop n.toNat).take 1=[xv]:=by
            have CZ:n.toNat<vs.length:=(List.getElem?_eq_some_iff.1 sY).1
            rw[List.drop_eq_getElem_cons CZ,List.take_succ_cons,List.take_zero]
            rw[List.getElem?_eq_getElem CZ] at sY
            injection sY with sY;rw[sY]
           rwa [G3] at this
     · exact absurd ah au
   · exact absurd ah au
 · rename_i sz' xs k n e1 e2
   split at ah
   · rename_i hc
     split at ah
     · rename_i el oO
       obtain⟨rfl,rfl⟩:=aY ah
       rw[e1] at hx;rw[e2] at hi
       simp only[ak] at hx hi
       obtain⟨mh,gu,p,cap,vs,hp,hlc,pZ,jU⟩:=hx
       have bl:n.toNat<xs.length:=(List.getElem?_eq_some_iff.1 oO).1
       rcases jU with jU| ⟨Rx,ez,BN,cP⟩
       · subst jU;simp at bl
       · rw[Rx] at hp
         obtain⟨xv,sY,bU⟩:=pZ.get oO
         refine⟨rfl,aO hr.bg (fin _ xs.length cap k n hp hi hc.1 (by omega)) ?_⟩
         simp only[ak]
         refine⟨nu mh oO,?_,xv,by rw[ft];simp,ez,BN,bU,?_⟩
         · simp only[List.all_eq_true] at gu
           exact gu el (List.mem_of_getElem? oO)
         · have:=(cP.drop n.toNat).take 1
           rw[hc.2.1] at this
           have G3: (vs.drop n.toNat).take 1=[xv]:=by
            have CZ:n.toNat<vs.length:=(List.getElem?_eq_some_iff.1 sY).1
            rw[List.drop_eq_getElem_cons CZ,List.take_succ_cons,List.take_zero]
            rw[List.getElem?_eq_getElem CZ] at sY
            injection sY with sY;rw[sY]
           rwa [G3] at this
     · exact absurd ah au
   · exact absurd ah au
 · exact absurd ah au
theorem zL {t e:TypeId} {x i:Operand} {x' i':aW} {n sz:Nat} (hr:Rel X T a μ) (ho:o.op= .indexAddr t x i) (hd:bq X t=some (.array n e)) (hn:bG X e=some sz)
   (h1:cR X x=some x') (h2:cR X i=some i') (ah: (av E (.aU n sz x' i')).run C ⟨T,μ.O⟩=some (v,σ')):σ'.T=T∧cG X o a μ σ'.O v:=by
 simp only[av,bB] at ah
 have hx:=aT hr h1 μ.O
 have hi:=aT hr h2 μ.O
 have fin: ∀ (p:Addr) (k:IntKind) (j:Int),a.eval x= .pointer (some p)→a.eval i= .int k j→0≤j→j<n→
     (execOp a.eval o).run X.P μ.w= .ok (.value (.pointer (some (p.add (j.toNat*sz))))) μ.w:=fun p k j hp hq Rw Mo=>by
   simp only[execOp,ho]
   refine cj ?_
   simp[Instr.indexAt,Sem.run_bind,hp,hq,asIntOf,run_underlying hd,Rw,Mo,c9 hn,Instr.sureAddr]
 split at ah
 · rename_i r g idx off k j e1 e2
   split at ah
   · rename_i hc
     obtain⟨rfl,rfl⟩:=aY ah
     rw[e1] at hx;rw[e2] at hi
     simp only[ak] at hx hi
     obtain⟨p,hp,sW,cK⟩:=hx
     refine⟨rfl,aO hr.bg (fin p k j hp hi hc.1 hc.2) ?_⟩
     simp only[ak]
     refine⟨_,rfl,sW,fun hg=> ⟨(cK hg).1,?_⟩⟩
     rw[(cK hg).2,ft];simp[Nat.add_assoc]
   · exact absurd ah au
 · rename_i el off k j e1 e2
   split at ah
   · rename_i hc
     obtain⟨rfl,rfl⟩:=aY ah
     rw[e1] at hx;rw[e2] at hi
     simp only[ak] at hx hi
     obtain⟨Xv,zM,b,q,sz',xv,hp,zI⟩:=hx
     refine⟨rfl,aO hr.bg (fin _ k j hp hi hc.1 hc.2) ?_⟩
     simp only[ak]
     exact⟨Xv,zM,b,q,sz',xv,by rw[ft];simp[Nat.add_assoc],zI⟩
   · exact absurd ah au
 · exact absurd ah au
theorem zN {t:TypeId} {x i:Operand} {x' i':aW} (hr:Rel X T a μ) (ho:o.op= .index t x i) (hd:bq X t=some .string)
   (h1:cR X x=some x') (h2:cR X i=some i') (ah: (av E (.jL x' i')).run C ⟨T,μ.O⟩=some (v,σ')):σ'.T=T∧cG X o a μ σ'.O v:=by
 simp only[av,bB] at ah
 have hx:=aT hr h1 μ.O
 have hi:=aT hr h2 μ.O
 split at ah
 · rename_i s k n e1 e2
   split at ah
   · rename_i hc
     split at ah
     · rename_i b hb
       obtain⟨rfl,rfl⟩:=aY ah
       rw[e1] at hx;rw[e2] at hi
       simp only[ak] at hx hi
       obtain⟨bs,BN,rfl⟩:=hx
       refine⟨rfl,aO (val:= .int .u8 b.toNat) hr.bg ?_ (by simp[ak])⟩
       simp only[execOp,ho]
       refine cj ?_
       have rC:bs[n.toNat]? =some b:=by
        have bl:=(List.getElem?_eq_some_iff.1 hb).1
        have hv:=(List.getElem?_eq_some_iff.1 hb).2
        have cH:n.toNat<bs.size:=by rw[Array.length_toList] at bl;exact bl
        rw[getElem?_pos bs n.toNat cH]
        congr 1
       simp[Instr.index,Sem.run_bind,BN,hi,asIntOf,run_underlying hd,hc,rC]
     · exact absurd ah au
   · exact absurd ah au
 · exact absurd ah au
theorem zO {t e:TypeId} {x i:Operand} {x' i':aW} {agg:Bool} {n sz:Nat} (hr:Rel X T a μ) (ho:o.op= .index t x i) (hd:bq X t=some (.array n e)) (hg:gJ X e=some agg)
   (hn:bG X e=some sz) (h1:cR X x=some x') (h2:cR X i=some i') (ah: (av E (.m8 agg n sz x' i')).run C ⟨T,μ.O⟩=some (v,σ')):σ'.T=T∧cG X o a μ σ'.O v:=by
 simp only[av,bB] at ah
 have hx:=aT hr h1 μ.O
 have hi:=aT hr h2 μ.O
 split at ah
 · rename_i k j e2
   split at ah
   · rename_i hc
     obtain⟨hp,rfl⟩:=dK ah
     rw[e2] at hi
     simp only[ak] at hi
     cases hy:bo ⟨T,μ.O⟩ x'<;>rw[hy] at hc hx hp<;>simp[V.isAgg] at hc
     cases agg with
     | true=>
       obtain⟨cs,db,hle,hv⟩:=mg hx hp
       refine⟨rfl,aO hr.bg ?_ hv⟩
       simp only[execOp,ho]
       refine cj ?_
       simp[Instr.index,Sem.run_bind,db,hi,asIntOf,run_underlying hd,hc,c9 hn,qP hg hn]
     | false=>
       obtain⟨_,c,Je,hv⟩:=kL hx hp
       simp only[ak] at hx
       obtain⟨_,cs,db,_⟩:=hx
       rw[db] at Je
       refine⟨rfl,aO hr.bg ?_ hv⟩
       simp only[execOp,ho]
       refine cj ?_
       simp[Instr.index,Sem.run_bind,db,hi,asIntOf,run_underlying hd,hc,c9 hn,fI hg cs _ c (by simpa [Value.cells] using Je)]
   · exact absurd ah au
 · exact absurd ah au
end
end Go.AM
namespace Go.AM
open Go Go.RowKit
def Kv (X:Ctx) (μ:Mu) (x:Option V) (v:Option Value):Prop:=(x=none∧v=none)∨ ∃x' v',x=some x'∧v=some v'∧ak X μ x' v'
theorem kZ {X:Ctx} {μ:Mu} {T:Nat→V} {a:Go.Act} {x:Option Operand} {y:Option aW} (hr:Rel X T a μ) (h:r6 X x=some y) (O:Nat→Obj):
  Kv X μ (y.map (bo ⟨T,O⟩)) (x.map a.eval):=by
 rcases G6 hr h O with⟨rfl,rfl⟩ | ⟨x',y',rfl,rfl,bU⟩
 · exact .inl ⟨rfl,rfl⟩
 · exact .inr ⟨_,_,rfl,rfl,bU⟩
section
variable {X:Ctx} {E:Env} {C:bj} {o:Oper} {a:Go.Act} {T:Nat→V} {μ:Mu} {v:V} {σ':St}
theorem run_sliceBound {d l y:Nat} {x:V} {xv:Value} {code:BoundsCode} {w:World} (h:ak X μ x xv) (hb:bL d (some x)=some l) (hle:l≤y):
  (Instr.sliceBound xv y code).run X.P w= .ok l w:=by
 cases x<;>simp[bL] at hb
 obtain⟨h0,rfl⟩:=hb
 simp only[ak] at h
 subst h
 rename_i k n
 have:n≤(y:Int):=by omega
 simp[Instr.sliceBound,asIntOf,Sem.run_bind,h0,this]
theorem fC {isSlice:Bool} {len cap l h:Nat} {lo hi:Option V} {SN SO:Option Value} {w:World} (h1:Kv X μ lo SN) (h2:Kv X μ hi SO)
   (hl:bL 0 lo=some l) (hh:bL len hi=some h) (SP:l≤h) (dz:h≤cap):
   (Instr.sliceBounds isSlice len cap SN SO none).run X.P w= .ok (l,h,cap) w:=by
 rcases h1 with⟨rfl,rfl⟩ | ⟨lx,lv,rfl,rfl,hlr⟩ <;>rcases h2 with⟨rfl,rfl⟩ | ⟨hx,hv,rfl,rfl,hhr⟩
 · simp[bL] at hl hh;subst hl;subst hh
   simp[Instr.sliceBounds,Sem.run_bind]
 · simp[bL] at hl;subst hl
   simp[Instr.sliceBounds,Sem.run_bind,run_sliceBound hhr hh dz]
 · have hh':=hh
   simp[bL] at hh';subst hh'
   simp[Instr.sliceBounds,Sem.run_bind,run_sliceBound hlr hl SP]
 · simp[Instr.sliceBounds,Sem.run_bind,run_sliceBound hlr hl SP,run_sliceBound hhr hh dz]
theorem iq {isSlice:Bool} {len cap l h m:Nat} {lo:Option V} {hi mx:V} {SN:Option Value} {SO mxv:Value} {w:World} (h1:Kv X μ lo SN) (h2:ak X μ hi SO) (h3:ak X μ mx mxv)
   (hl:bL 0 lo=some l) (hh:bL len (some hi)=some h) (hm:bL 0 (some mx)=some m) (SP:l≤h) (hhm:h≤m) (dz:m≤cap):
   (Instr.sliceBounds isSlice len cap SN (some SO) (some mxv)).run X.P w= .ok (l,h,m) w:=by
 rcases h1 with⟨rfl,rfl⟩ | ⟨lx,lv,rfl,rfl,hlr⟩
 · simp[bL] at hl;subst hl
   simp[Instr.sliceBounds,Sem.run_bind,run_sliceBound h3 hm dz,run_sliceBound h2 hh hhm]
 · simp[Instr.sliceBounds,Sem.run_bind,run_sliceBound h3 hm dz,run_sliceBound h2 hh hhm,run_sliceBound hlr hl SP]
theorem zP {t:TypeId} {x:Operand} {lo hi:Option Operand} {x':aW} {Mp yg:Option aW} (hr:Rel X T a μ) (ho:o.op= .slice t x lo hi none) (hd:bq X t=some .string)
   (h1:cR X x=some x') (h2:r6 X lo=some Mp) (h3:r6 X hi=some yg) (ah: (av E (.jK x' Mp yg)).run C ⟨T,μ.O⟩=some (v,σ')):σ'.T=T∧cG X o a μ σ'.O v:=by
 simp only[av,bB,Dc] at ah
 obtain⟨hb,rfl⟩:=dK ah
 have hx:=aT hr h1 μ.O
 cases hy:bo ⟨T,μ.O⟩ x'<;>rw[hy] at hb hx<;>simp only[eS,reduceCtorEq] at hb
 rename_i s
 split at hb
 · rename_i l h hl hh
   split at hb<;>simp at hb
   rename_i hle
   subst hb
   simp only[ak] at hx
   obtain⟨bs,BN,Ry⟩:=hx
   have cH:s.length=bs.size:=by rw[←Ry,Array.length_toList];rfl
   have abz:=fC (isSlice:=false) (len:=bs.size) (cap:=bs.size) (w:=μ.w) (kZ hr h2 μ.O) (kZ hr h3 μ.O) hl (by rw[←cH];exact hh) hle.1 (by omega)
   refine⟨rfl,aO (val:= .string (bs.extract l h)) hr.bg ?_ ?_⟩
   · simp only[execOp,ho]
     refine cj ?_
     have mE:X.P.underlying t=some .string:=hd
     simp only[Instr.sliceAt,Sem.run_bind,run_underlying mE,Result.andThen_ok,Instr.slice,BN]
     have hn: (Option.map a.eval (none:Option Operand))=none:=rfl
     simp only[hn,Option.isSome_none,Bool.false_eq_true,if_false,Sem.run_bind,abz,Result.andThen_ok,Sem.run_pure]
   · simp only[ak]
     refine⟨_,rfl,?_⟩
     rw[ByteArray.data_extract,Array.toList_extract,List.extract_eq_take_drop,Ry]
 · simp at hb
theorem Ha {     t e:TypeId} {x:Operand} {lo hi mx:Option Operand} {x':aW} {Mp yg mx':Option aW} {sz:Nat} (hr:Rel X T a μ) (ho:o.op= .slice t x lo hi mx) (hd:bq X t=some (.slice e))
   (hn:bG X e=some sz) (h1:cR X x=some x') (h2:r6 X lo=some Mp) (h3:r6 X hi=some yg) (h4:r6 X mx=some mx')
   (ah: (av E (.slice sz x' Mp yg mx')).run C ⟨T,μ.O⟩=some (v,σ')):σ'.T=T∧cG X o a μ σ'.O v:=by
 simp only[av,bB,Dc] at ah
 have hx:=aT hr h1 μ.O
 have rl:=kZ hr h2 μ.O
 have rh:=kZ hr h3 μ.O
 have rm:=kZ hr h4 μ.O
 generalize Mp.map (bo ⟨T,μ.O⟩)=SN at ah rl
 generalize yg.map (bo ⟨T,μ.O⟩)=SO at ah rh
 generalize mx'.map (bo ⟨T,μ.O⟩)=mxv at ah rm
 have mE:X.P.underlying t=some (.slice e):=hd
 have fin: ∀ (p:Option Addr) (len cap l h m:Nat),a.eval x= .slice p len cap→(Instr.sliceBounds true len cap (lo.map a.eval) (hi.map a.eval) (mx.map a.eval)).run X.P μ.w= .ok (l,h,m) μ.w→
     (execOp a.eval o).run X.P μ.w= .ok (.value (.slice (if m=l then p else p.map (·.add (l*sz))) (h - l) (m - l))) μ.w:=fun p len cap l h m hp hb=>by
   simp only[execOp,ho]
   refine cj ?_
   simp only[Instr.sliceAt,Sem.run_bind,run_underlying mE,Result.andThen_ok,Instr.slice,hp,hb,c9 hn,Sem.run_pure]
 split at ah
 · rename_i r g off len ey
   rw[ey] at hx
   simp only[ak] at hx
   obtain⟨p,cap,hp,hlc,sW,cK⟩:=hx
   simp only[Act.run] at ah
   split at ah
   · rename_i es bR
     split at ah
     · rename_i zQ
       obtain⟨q0,q1,q2⟩:=cK zQ.1
       have abA:es.length≤(μ.φ r).cap:=(hr.bg.row r es bR q0).2.1
       split at ah
       ·
         rename_i _ l h hl hh
         split at ah
         · rename_i hle
           obtain⟨rfl,rfl⟩:=aY ah
           have hmv:mx.map a.eval=none:=by
             rcases rm with⟨h5,h6⟩ | ⟨_,_,h5,_⟩
             · exact h6
             · cases h5
           have hb:=fC (isSlice:=true) (len:=len) (cap:=cap) (w:=μ.w) rl rh hl hh hle.1 (by omega)
           refine⟨rfl,aO hr.bg (fin p len cap l h cap hp (by rw[hmv];exact hb)) ?_⟩
           simp only[ak]
           refine⟨_,_,rfl,by omega,sW,fun _=> ⟨q0,by omega,?_⟩⟩
           by_cases qT:cap=l
           · left;omega
           · right
             rw[if_neg qT]
             have:cap≠0:=by omega
             rw[q2.resolve_left this,Option.map_some,ft,zQ.2]
             congr 2
             rw[Nat.add_mul];omega
         · exact absurd ah au
       ·
         rename_i _ l h' m hl hh
         split at ah
         · rename_i _ _ h m' FP
           split at ah
           · rename_i hle
             obtain⟨rfl,rfl⟩:=aY ah
             rcases rm with⟨h5,_⟩ | ⟨mxx,Xw,h5,h6,zR⟩
             · cases h5
             · injection h5 with h5;subst h5
               rcases rh with⟨h7,_⟩ | ⟨hix,Xx,h7,h8,zS⟩
               · cases h7
               · injection h7 with h7;subst h7
                 have hb:=iq (isSlice:=true) (len:=len) (cap:=cap) (w:=μ.w) rl zS zR hl hh FP hle.1 hle.2.1 (by omega)
                 refine⟨rfl,aO hr.bg (fin p len cap l h' m' hp (by rw[h6,h8];exact hb)) ?_⟩
                 split
                 · rename_i Mq
                   simp only[ak]
                   have e1:h' - l=0:=by omega
                   have e2:m' - l=0:=by omega
                   exact⟨_,by rw[e1,e2]⟩
                 · simp[ak]
           · exact absurd ah au
         · exact absurd ah au
       · exact absurd ah au
     · exact absurd ah au
   · exact absurd ah au
 · obtain⟨ v3,rfl⟩:=dK ah
   refine⟨rfl,?_⟩
   generalize bo ⟨T,μ.O⟩ x'=y at v3 hx
   cases y<;>simp only[jD,reduceCtorEq] at v3
   ·
     simp only[ak] at hx
     obtain⟨p,hp⟩:=hx
     split at v3
     · rename_i l h m hl hh hm
       split at v3<;>simp at v3
       rename_i hle
       subst v3
       have e1:l=0:=by omega
       have e2:h=0:=by omega
       have e3:m=0:=by omega
       subst e1;subst e2;subst e3
       have hb: ∃m',(Instr.sliceBounds true 0 0 (lo.map a.eval) (hi.map a.eval) (mx.map a.eval)).run X.P μ.w= .ok (0,0,m') μ.w∧m'=0:=by
         rcases rm with⟨rfl,h6⟩ | ⟨mxx,Xw,rfl,h6,zR⟩
         · rw[h6];exact⟨_,fC (isSlice:=true) (len:=0) (cap:=0) (w:=μ.w) rl rh hl hh (Nat.le_refl _) (Nat.le_refl _),rfl⟩
         · rcases rh with⟨rfl,h8⟩ | ⟨hix,Xx,rfl,h8,zS⟩
           · simp at hle
           · rw[h6,h8];exact⟨_,iq (isSlice:=true) (len:=0) (cap:=0) (w:=μ.w) rl zS zR hl hh hm (Nat.le_refl _) (Nat.le_refl _) (Nat.le_refl _),rfl⟩
       obtain⟨m',hb,rfl⟩:=hb
       refine aO hr.bg (fin p 0 0 0 0 0 hp hb) ?_
       simp[ak]
     · simp at v3
   ·
     rename_i sz' xs
     simp only[ak] at hx
     obtain⟨mh,gu,p,cap,vs,hp,hlc,pZ,jU⟩:=hx
     split at v3
     · rename_i Xy
       subst Xy
       split at v3
       · rename_i l h hl hh
         split at v3<;>simp at v3
         rename_i hle
         subst v3
         obtain⟨_,hmv⟩: (none:Option V)=none∧mx.map a.eval=none:=by
           rcases rm with⟨h5,h6⟩ | ⟨_,_,h5,_⟩
           · exact⟨rfl,h6⟩
           · cases h5
         have hb:=fC (isSlice:=true) (len:=xs.length) (cap:=cap) (w:=μ.w) rl rh hl hh hle.1 (by omega)
         refine aO hr.bg (fin p xs.length cap l h cap hp (by rw[hmv];exact hb)) ?_
         have oP: (aN xs l (h - l)).length=h - l:=by simp[aN];omega
         simp only[ak]
         refine⟨qR _ (qS _ mh),jz _ (kY _ gu),_,_,(vs.drop l).take (h - l),by rw[oP],by rw[oP];omega,aj.take _ (aj.drop _ pZ),?_⟩
         by_cases SP:l=h
         · left;simp[aN,SP]
         · right
           rcases jU with jU| ⟨b,q,Rx,ez,BN,cP⟩
           · subst jU;simp at hle;omega
           · have: ¬cap=l:=by omega
             rw[if_neg this,Rx,Option.map_some,ft]
             exact⟨b,q+l*sz',rfl,ez,BN,(cP.drop l).take _⟩
       · rename_i l h m hl hh
         split at v3
         · rename_i hi0 m' FP
           split at v3<;>simp at v3
           rename_i hle
           subst v3
           rcases rm with⟨h5,_⟩ | ⟨mxx,Xw,h5,h6,zR⟩
           · cases h5
           · injection h5 with h5;subst h5
             rcases rh with⟨h7,_⟩ | ⟨hix,Xx,h7,h8,zS⟩
             · cases h7
             · injection h7 with h7;subst h7
               have hb:=iq (isSlice:=true) (len:=xs.length) (cap:=cap) (w:=μ.w) rl zS zR hl hh FP hle.1 hle.2.1 (by omega)
               refine aO hr.bg (fin p xs.length cap l h m' hp (by rw[h6,h8];exact hb)) ?_
               split
               · simp only[ak]
                 have e1:h - l=0:=by omega
                 have e2:m' - l=0:=by omega
                 exact⟨_,by rw[e1,e2]⟩
               · simp[ak]
         · simp at v3
       · simp at v3
     · simp at v3
end
end Go.AM
namespace Go.AM
open Go Go.RowKit
def cI {α:Type} (L:List α) (p:Nat) (m:List α):List α:=L.take p++m++L.drop (p+m.length)
theorem eT {α:Type} {L m:List α} {p:Nat} (h:p+m.length≤L.length): (cI L p m).length=L.length:=by
 simp[cI];omega
theorem eI {α:Type} {L m:List α} {p:Nat} (h:p+m.length≤L.length) (q:Nat):
   (cI L p m)[q]? =if q<p then L[q]? else if q<p+m.length then m[q - p]? else L[q]? :=by
 unfold cI
 rw[List.append_assoc,List.getElem?_append]
 have hl: (L.take p).length=p:=by simp;omega
 rw[hl]
 split
 · rename_i hq
   rw[List.getElem?_take];simp[hq]
 · rename_i hq
   rw[List.getElem?_append]
   split
   · rename_i hm
     rw[if_pos (by omega)]
   · rename_i hm
     rw[if_neg (by omega),List.getElem?_drop]
     congr 1;omega
def dA (c:List Value) (base sz:Nat) (vs:List Value):Prop:=
 ∀i v,vs[i]? =some v→v.cells.size=sz∧ ∀j x,v.cells[j]? =some x→c[base+i*sz+j]? =some x
def flat (us:List Value):List Value:=us.flatMap fun v=>v.cells.toList
theorem gh {us:List Value} {sz:Nat} (h: ∀v ∈ us,v.cells.size=sz): (flat us).length=us.length*sz:=by
 induction us with
 | nil=>simp[flat]
 | cons u us ih=>
   have h1:=h u (by simp)
   have h2:=ih fun v hv=>h v (by simp[hv])
   simp only[flat,List.flatMap_cons,List.length_append,List.length_cons] at h2 ⊢
   rw[h2,Array.length_toList,h1,Nat.add_mul];omega
theorem qU {us:List Value} {sz:Nat} (h: ∀v ∈ us,v.cells.size=sz) {i j:Nat} {v x:Value} (hv:us[i]? =some v) (hx:v.cells[j]? =some x):
   (flat us)[i*sz+j]? =some x:=by
 induction us generalizing i with
 | nil=>simp at hv
 | cons u us ih=>
   have h1:=h u (by simp)
   simp only[flat,List.flatMap_cons]
   cases i with
   | zero=>
     simp at hv;subst hv
     have hj:j<u.cells.size:=(Array.getElem?_eq_some_iff.1 hx).1
     rw[List.getElem?_append_left (by rw[Array.length_toList];omega)]
     simpa using hx
   | succ i=>
     simp at hv
     have:=ih (fun v hv=>h v (by simp[hv])) hv
     rw[List.getElem?_append_right (by rw[Array.length_toList,h1,Nat.add_mul];omega)]
     rw[Array.length_toList,h1]
     have e: (i+1)*sz+j - sz=i*sz+j:=by rw[Nat.add_mul];omega
     rw[e];exact this
theorem ub {sz i j k:Nat} (hj:j<sz) (EE:i<k):i*sz+j<k*sz:=by
 have: (i+1)*sz≤k*sz:=Nat.mul_le_mul_right _ (by omega)
 rw[Nat.add_mul] at this;omega
theorem ym {sz i j k:Nat} (EE:k≤i):k*sz≤i*sz+j:=by
 have:k*sz≤i*sz:=Nat.mul_le_mul_right _ EE
 omega
theorem dA.write {c:List Value} {base sz k:Nat} {vs us:List Value} (h:dA c base sz vs) (hk:k≤vs.length) (Hb: ∀v ∈ us,v.cells.size=sz)
   (wW:base+k*sz+us.length*sz≤c.length):
   dA (cI c (base+k*sz) (flat us)) base sz (vs.take k++us++vs.drop (k+us.length)):=by
 have zT:=gh Hb
 intro i v hv
 have bl: (vs.take k).length=k:=by simp;omega
 rw[List.append_assoc,List.getElem?_append,bl] at hv
 split at hv
 · rename_i hi
   rw[List.getElem?_take] at hv
   simp only[hi,if_true] at hv
   obtain⟨h1,h2⟩:=h i v hv
   refine⟨h1,fun j x hx=> ?_⟩
   have hj:j<sz:=h1 ▸ (Array.getElem?_eq_some_iff.1 hx).1
   rw[eI (by rw[zT];omega),if_pos (by have:=ub hj hi;omega)]
   exact h2 j x hx
 · rename_i hi
   rw[List.getElem?_append] at hv
   split at hv
   · rename_i BG
     have hvm:=List.mem_of_getElem? hv
     refine⟨Hb v hvm,fun j x hx=> ?_⟩
     have hj:j<sz:=Hb v hvm ▸ (Array.getElem?_eq_some_iff.1 hx).1
     have sW:=ym (sz:=sz) (j:=j) (show k≤i by omega)
     have fB:=ub (k:=k+us.length) hj (show i<k+us.length by omega)
     rw[Nat.add_mul] at fB
     rw[eI (by rw[zT];omega),if_neg (by omega),if_pos (by rw[zT];omega)]
     have e:base+i*sz+j - (base+k*sz)=(i - k)*sz+j:=by
      rw[Nat.sub_mul]
      have:=Nat.mul_le_mul_right sz (show k≤i by omega)
      omega
     rw[e]
     exact qU Hb hv hx
   · rename_i BG
     rw[List.getElem?_drop] at hv
     have e:k+us.length+(i - k - us.length)=i:=by omega
     rw[e] at hv
     obtain⟨h1,h2⟩:=h i v hv
     refine⟨h1,fun j x hx=> ?_⟩
     have sW:=ym (sz:=sz) (j:=j) (show k+us.length≤i by omega)
     rw[Nat.add_mul] at sW
     rw[eI (by rw[zT];omega),if_neg (by omega),if_neg (by rw[zT];omega)]
     exact h2 j x hx
theorem dA.take {c:List Value} {base sz:Nat} {vs:List Value} (h:dA c base sz vs) (n:Nat):dA c base sz (vs.take n):=by
 intro i v hv
 rw[List.getElem?_take] at hv
 split at hv
 · exact h i v hv
 · simp at hv
theorem dA.drop {c:List Value} {base sz:Nat} {vs:List Value} (h:dA c base sz vs) (n:Nat):dA c (base+n*sz) sz (vs.drop n):=by
 intro i v hv
 rw[List.getElem?_drop] at hv
 obtain⟨h1,h2⟩:=h (n+i) v hv
 refine⟨h1,fun j x hx=> ?_⟩
 rw[←h2 j x hx,Nat.add_mul]
 congr 1;omega
theorem dA.put {c:List Value} {base sz idx off:Nat} {vs m:List Value} {x x':Value} (h:dA c base sz vs) (hx:vs[idx]? =some x)
   (wW:base+(idx+1)*sz≤c.length) (hm:off+m.length≤sz) (vZ:x'.cells.toList=cI x.cells.toList off m):
   dA (cI c (base+idx*sz+off) m) base sz (vs.set idx x'):=by
 have cH:=(h idx x hx).1
 rw[Nat.add_mul] at wW
 have gV:base+idx*sz+off+m.length≤c.length:=by omega
 have vY:off+m.length≤x.cells.toList.length:=by have:x.cells.toList.length=x.cells.size:=Array.length_toList;omega
 intro i v hv
 rw[List.getElem?_set] at hv
 split at hv
 · rename_i e;subst e
   have bl:idx<vs.length:=(List.getElem?_eq_some_iff.1 hx).1
   simp only[bl,if_true,Option.some.injEq] at hv
   subst hv
   have Kw:x'.cells.size=sz:=by rw[←Array.length_toList,vZ,eT vY,Array.length_toList];exact cH
   refine⟨Kw,fun j y hy=> ?_⟩
   have hj:j<sz:=Kw ▸ (Array.getElem?_eq_some_iff.1 hy).1
   have Mm: (cI x.cells.toList off m)[j]? =some y:=by rw[←vZ];simpa using hy
   rw[eI vY] at Mm
   rw[eI gV]
   have e2:base+idx*sz+j - (base+idx*sz+off)=j - off:=by omega
   split at Mm
   · rw[if_pos (by omega)]
     exact(h idx x hx).2 j y (by simpa using Mm)
   · split at Mm
     · rw[if_neg (by omega),if_pos (by omega),e2];exact Mm
     · rw[if_neg (by omega),if_neg (by omega)]
       exact(h idx x hx).2 j y (by simpa using Mm)
 · rename_i c7
   obtain⟨h1,h2⟩:=h i v hv
   refine⟨h1,fun j y hy=> ?_⟩
   have hj:j<sz:=h1 ▸ (Array.getElem?_eq_some_iff.1 hy).1
   rw[eI gV]
   by_cases bl:i<idx
   · have:=ub hj bl
     rw[if_pos (by omega)];exact h2 j y hy
   · have:=ym (sz:=sz) (j:=j) (show idx+1≤i by omega)
     rw[Nat.add_mul] at this
     rw[if_neg (by omega),if_neg (by omega)];exact h2 j y hy
theorem iI {w:World} {b base sz:Nat} {vs:List Value} {c:Array Value} {T:TypeId} {fr:Nat×Nat} (hb:w.heap[b]? =some (.cells c T fr))
  (h:di w b base sz vs):dA c.toList base sz vs:=by
 intro i v hv
 obtain⟨h1,h2⟩:=h.G1 hb i v hv
 exact⟨h1,fun j x hx=>by simpa using h2 j x hx⟩
theorem r9 {P:Program} {w:World} {b q sz n:Nat} {vs:List Value} (h:di w b q sz vs) (hn:n≤vs.length):
  (loadCells ⟨b,q,none⟩ (n*sz)).run P w= .ok (flat (vs.take n)).toArray w:=by
 have hs: ∀v ∈ vs.take n,v.cells.size=sz:=fun v hv=>by
  obtain⟨i,hi⟩:=List.getElem?_of_mem (List.mem_of_mem_take hv)
  exact(h i v hi).1
 have hl: (flat (vs.take n)).length=n*sz:=by rw[gh hs,List.length_take,Nat.min_eq_left hn]
 rw[←hl]
 refine run_loadCells_list w ⟨b,q,none⟩ _ fun p x hx=> ?_
 rw[ft]
 have hp:p<n*sz:=by rw[←hl];exact(List.getElem?_eq_some_iff.1 hx).1
 have cH:0 <sz:=by
  rcases Nat.eq_zero_or_pos sz with e| e
  · subst e;simp at hp
  · exact e
 have hi:p / sz<n:=Nat.div_lt_of_lt_mul (by rw[Nat.mul_comm];exact hp)
 have wZ:p / sz*sz+p % sz=p:=by rw[Nat.mul_comm];exact Nat.div_add_mod p sz
 have abB:p / sz<vs.length:=by omega
 have hv:vs[p / sz]? =some vs[p / sz]:=List.getElem?_eq_getElem abB
 have hvt: (vs.take n)[p / sz]? =some vs[p / sz]:=by rw[List.getElem?_take];simp[hi,hv]
 obtain⟨h1,h2⟩:=h _ _ hv
 have hm:p % sz< (vs[p / sz]).cells.size:=by rw[h1];exact Nat.mod_lt _ cH
 have hc: (vs[p / sz]).cells[p % sz]? =some (vs[p / sz]).cells[p % sz]:=Array.getElem?_eq_getElem hm
 have g1:=qU hs hvt hc
 rw[wZ,hx] at g1
 injection g1 with g1
 have g2:=h2 _ _ hc
 rw[Nat.add_assoc,wZ,←g1] at g2
 exact g2
end Go.AM
namespace Go.AM
open Go Go.RowKit
theorem cf {v:V} {sz:Nat} (h:aS v sz=true):v.c6=true∧v.cells.length=sz:=by
 simp[aS] at h;exact⟨h.2,h.1⟩
theorem gN {X:Ctx} {t:TypeId} {z:V} (h:eA X t=some z) (w:World): ∃zv,(zeroValue t).run X.P w= .ok zv w∧uQ zv=some z:=by
 simp only[eA,info,Option.bind_eq_some_iff] at h
 obtain⟨i,h1,zv,h2,h3⟩:=h
 exact⟨zv,by simp[zeroValue,Sem.run_bind,run_typeInfo w h1,h2],h3⟩
theorem aj.sa {X:Ctx} {μ:Mu} {ys:List V} {us:List Value} {sz:Nat} (h:aj X μ ys us) (hb:ys.all (aS · sz)=true):
   (∀u ∈ us,u.cells.size=sz)∧ ∀c ∈ flat us,c.oneCell'=true:=by
 have hh: ∀u ∈ us,∃y,y ∈ ys∧ak X μ y u:=fun u hu=>by
   obtain⟨i,hi⟩:=List.getElem?_of_mem hu
   have bl:i<ys.length:=by rw[h.length];exact(List.getElem?_eq_some_iff.1 hi).1
   obtain⟨u',h1,h2⟩:=h.get (List.getElem?_eq_getElem bl)
   rw[hi] at h1;injection h1 with h1;subst h1
   exact⟨_,List.getElem_mem bl,h2⟩
 simp only[List.all_eq_true] at hb
 refine⟨fun u hu=> ?_,fun c hc=> ?_⟩
 · obtain⟨y,hy,hr⟩:=hh u hu
   obtain⟨h1,h2⟩:=cf (hb y hy)
   rw[hr.dY h1,h2]
 · simp only[flat,List.mem_flatMap] at hc
   obtain⟨u,hu,hcu⟩:=hc
   obtain⟨y,hy,hr⟩:=hh u hu
   obtain⟨h1,h2⟩:=cf (hb y hy)
   obtain⟨j,hj⟩:=List.getElem?_of_mem hcu
   have db:=hr.cells h1
   have bl:j<y.cells.length:=by rw[db.length];exact(List.getElem?_eq_some_iff.1 hj).1
   obtain⟨u',g1,g2⟩:=db.get (List.getElem?_eq_getElem bl)
   rw[hj] at g1;injection g1 with g1;subst g1
   have Mr:=hr.ju h1
   simp only[List.all_eq_true] at Mr
   exact(g2.mb (Mr _ (List.getElem_mem bl))).1
theorem iJ {P:Program} {w:World} {g q:Nat} {cur:Array Value} {T:TypeId} (hg:w.heap[g]? =some (.cells cur T (0,0))) (m:List Value) (hl:q+m.length≤cur.size)
  (h1: ∀v ∈ m,v.oneCell'=true): (storeCells ⟨g,q,none⟩ m).run P w= .ok () (w.setRow g (cI cur.toList q m).toArray):=by
 have:=run_storeCells_at (P:=P) g q T m 0 cur w hg (by simpa using hl) h1
 simpa [cI] using this
section
variable {X:Ctx} {E:Env} {C:bj} {o:Oper} {a:Go.Act} {T:Nat→V} {μ:Mu} {v:V} {σ':St}
theorem zU (hr:Rel X T a μ) {r sz:Nat} {arr:Bool} {es:List V} {vs:List Value} {c:Array Value} {t:TypeId} {val:Value} (cH:0 <sz) (cap:Nat)
  (dz:es.length≤cap) (mf:es.all (aS · sz)=true) (bU:aj X μ es vs) (hc:cap*sz≤c.size) (cP:dA c.toList 0 sz vs)
  (ah: (execOp a.eval o).run X.P μ.w= .ok (.value val) (μ.w.alloc (.cells c t (0,0))))
  (hv:let μ':Mu:=⟨μ.w.alloc (.cells c t (0,0)),dn μ.φ r ⟨μ.w.heap.size,0,cap⟩,dn μ.O r {gen:=(μ.O r).gen+1,sz:=sz,arr:=arr,fz:=false,es:=some es}⟩;ak X μ' v val):
  cG X o a μ (dn μ.O r {gen:=(μ.O r).gen+1,sz:=sz,arr:=arr,fz:=false,es:=some es}) v:=by
 obtain⟨h1,h2⟩:=yi (X:=X) hr.bg r sz cap arr (es:=es) (vs:=vs) (c:=c) t cH dz mf bU hc (fun i u hu=>by
  obtain⟨k1,k2⟩:=cP i u hu
  exact⟨k1,fun j x hx=>by simpa using k2 j x hx⟩)
 exact⟨val,_,_,.inl ah,hv,h1,h2⟩
theorem BO {x:Value}:dA x.cells.toList 0 x.cells.size [x]:=by
 intro i v hv
 cases i with
 | zero=>simp at hv;subst hv;exact⟨rfl,fun j y hy=>by simpa using hy⟩
 | succ i=>simp at hv
theorem Hc {t:TypeId} {x':aW} {r sz:Nat} {xv:Value} (hr:Rel X T a μ) (hx:ak X μ (bo ⟨T,μ.O⟩ x') xv)
   (Xz: (execOp a.eval o).run X.P μ.w= .ok (.value (.pointer (some ⟨μ.w.heap.size,0,none⟩))) (μ.w.alloc (.cells xv.cells t (0,0))))
   (ah: (av E (.new r sz x')).run C ⟨T,μ.O⟩=some (v,σ')):σ'.T=T∧cG X o a μ σ'.O v:=by
 simp only[av,bB] at ah
 split at ah
 · rename_i hb
   simp only[Bool.and_eq_true,decide_eq_true_eq] at hb
   simp only[Act.run,Option.some.injEq,Prod.mk.injEq] at ah
   obtain⟨rfl,rfl⟩:=ah
   obtain⟨hl,qT⟩:=cf hb.1
   have cH:xv.cells.size=sz:=by rw[hx.dY hl,qT]
   refine⟨rfl,zU hr (cap:=1) (es:=[bo ⟨T,μ.O⟩ x']) (vs:=[xv]) (c:=xv.cells) hb.2 (by simp) (by simp[hb.1]) (by simp[aj,hx]) (by omega) (cH ▸ BO) Xz ?_⟩
   simp only[ak,aB]
   exact⟨_,rfl,Nat.le_refl _,fun _=> ⟨hb.2,by simp⟩⟩
 · exact absurd ah au
theorem Hd {t:TypeId} {r sz:Nat} {z:V} (ks:List Nat) (hr:Rel X T a μ) (ho:o.op= .alloc t) (hz:eA X t=some z)
  (ah: (av E (.new r sz (.const (A5 ks z)))).run C ⟨T,μ.O⟩=some (v,σ')):σ'.T=T∧cG X o a μ σ'.O v:=by
 obtain⟨zv,h1,h2⟩:=gN hz μ.w
 refine Hc (t:=t) (xv:=zv) hr (ak.A5 ks (eH h2).1) ?_ ah
 simp only[execOp,ho]
 refine cj ?_
 simp[Instr.alloc,Sem.run_bind,h1,newVar,newRow]
theorem Rz {t:TypeId} {r sz:Nat} {x:Operand} {x':aW} (ks:List Nat) (hr:Rel X T a μ) (ho:o.op= .box t x) (h1:cR X x=some x')
  (ah: (av E (.new r sz (Mj ks x'))).run C ⟨T,μ.O⟩=some (v,σ')):σ'.T=T∧cG X o a μ σ'.O v:=by
 refine Hc (t:=t) (xv:=a.eval x) hr (ak.Mj ks (aT hr h1 μ.O)) ?_ ah
 simp only[execOp,ho]
 refine cj ?_
 simp[Instr.box,Sem.run_bind,newVar,newRow]
theorem sZ {zv:Value} {sz n:Nat} (hz:zv.cells.size=sz):
  ((Array.range (n*sz)).map (fun i=>zv.cells[i % zv.cells.size]!)).size=n*sz∧
    dA ((Array.range (n*sz)).map (fun i=>zv.cells[i % zv.cells.size]!)).toList 0 sz (List.replicate n zv):=by
 refine⟨by simp,fun i v hv=> ?_⟩
 rw[List.getElem?_replicate] at hv
 split at hv<;>simp at hv
 rename_i hi
 subst hv
 refine⟨hz,fun j x hx=> ?_⟩
 have hj:j<sz:=hz ▸ (Array.getElem?_eq_some_iff.1 hx).1
 have bl:=ub hj hi
 have hm: (i*sz+j) % sz=j:=by rw[Nat.mul_comm,Nat.mul_add_mod];exact Nat.mod_eq_of_lt hj
 have hr: (Array.range (n*sz))[i*sz+j]? =some (i*sz+j):=by simp[bl]
 simp only[Nat.zero_add,Array.toList_map,List.getElem?_map]
 rw[Array.getElem?_toList,hr]
 simp only[Option.map_some,hz,hm]
 rw[getElem!_def,hx]
theorem aj.replicate {z:V} {zv:Value} (h:ak X μ z zv): ∀n,aj X μ (List.replicate n z) (List.replicate n zv)
 | 0=>by simp[aj]
 | n+1=>by simp only[List.replicate_succ,aj];exact⟨h,aj.replicate h n⟩
theorem yn {t e:TypeId} {x y:Operand} {x' y':aW} {r sz:Nat} {i:TypeInfo} {z:V} (hr:Rel X T a μ) (ho:o.op= .makeSlice t x y) (hd:bq X t=some (.slice e)) (hn:bG X e=some sz)
   (hi:info X e=some i) (hz:eA X e=some z) (h1:cR X x=some x') (h2:cR X y=some y')
   (ah: (av E (.makeSlice r sz i.bytes z x' y')).run C ⟨T,μ.O⟩=some (v,σ')):σ'.T=T∧cG X o a μ σ'.O v:=by
 simp only[av,bB] at ah
 have hx:=aT hr h1 μ.O
 have hy:=aT hr h2 μ.O
 split at ah
 · rename_i k n k' m e1 e2
   split at ah
   · rename_i hc
     obtain⟨zm,qC,SQ,FQ,hc5,hc6⟩:=hc
     simp only[Act.run,Option.some.injEq,Prod.mk.injEq] at ah
     obtain⟨rfl,rfl⟩:=ah
     rw[e1] at hx;rw[e2] at hy
     simp only[ak] at hx hy
     obtain⟨zv,sb,w5⟩:=gN hz μ.w
     obtain⟨u6,Ms⟩:=eH (X:=X) (μ:=μ) w5
     have Kx:zv.cells.size=sz:=by rw[u6.dY Ms,(cf FQ).2]
     obtain⟨abC,uP⟩:=sZ (n:=m.toNat) Kx
     have Xa:IntKind.i64.wrap n=n:=IntWalk.i64_in _ (by omega)
     have zn:IntKind.i64.wrap m=m:=IntWalk.i64_in _ (by omega)
     have FN:X.P.underlying t=some (.slice e):=hd
     have hii:X.P.info? e=some i:=hi
     have Rf: ¬ (((decide (m< 0) || decide ((i.bytes:Int)*m >2 ^ 48)) || decide (n< 0) || decide (n >m))=true):=by
       simp only[Bool.or_eq_true,decide_eq_true_eq,not_or]
       have: (i.bytes:Int)*m=m*i.bytes:=Int.mul_comm _ _
       have h48: (2:Int) ^ 48=281474976710656:=by decide
       refine⟨⟨⟨by omega,by omega⟩,by omega⟩,by omega⟩
     refine⟨rfl,zU hr (cap:=m.toNat) (es:=List.replicate m.toNat z) (vs:=List.replicate m.toNat zv) (val:= .slice (some ⟨μ.w.heap.size,0,none⟩) n.toNat m.toNat) hc5 (by simp) ?_ (aj.replicate u6 _) (by rw[abC];exact Nat.le_refl _) uP (t:=e) ?_ ?_⟩
     · simp only[List.all_eq_true,List.mem_replicate]
       rintro q ⟨_,rfl⟩;exact FQ
     · simp only[execOp,ho]
       refine cj ?_
       simp only[Instr.makeSlice,Sem.run_bind,run_underlying FN,Result.andThen_ok,hx,hy,asInt,asIntOf,Sem.run_pure,run_typeInfo μ.w hii,Xa,zn]
       rw[if_neg Rf]
       simp only[Sem.run_bind,run_askRoom,Result.andThen_ok,c9 hn]
       by_cases EF:m.toNat*sz=0
       · rw[if_pos EF]
         simp only[Sem.run_pure,Result.andThen_ok,newRow,Sem.run_bind,run_newObj]
         have Ky:Array.range 0= #[]:=rfl
         rw[EF,Ky]
         simp
       · rw[if_neg EF]
         simp only[Sem.run_bind,sb,Result.andThen_ok,Sem.run_pure,newRow,run_newObj]
         simp
     · simp only[ak,aB]
       exact⟨_,_,rfl,by omega,Nat.le_refl _,fun _=> ⟨by omega,by simp,by simp⟩⟩
   · exact absurd ah au
 · exact absurd ah au
theorem oS {      c:V} {k:V→Act} {val:Value} {O:Nat→Obj} {p:V×St} (ho:bu X ⟨μ.w,μ.φ,O⟩) (hv:ak X ⟨μ.w,μ.φ,O⟩ c val) (ah: (cb c k).run C ⟨T,O⟩=some p):
   ∃c' O',(k c').run C ⟨T,O'⟩=some p∧ak X ⟨μ.w,μ.φ,O'⟩ c' val∧Le ⟨μ.w,μ.φ,O⟩ ⟨μ.w,μ.φ,O'⟩∧bu X ⟨μ.w,μ.φ,O'⟩∧(c.aP=true→c'.aP=true):=by
 have same: (cb c k).run C ⟨T,O⟩=(k c).run C ⟨T,O⟩→_:=fun e=> (⟨c,O,e ▸ ah,hv,Le.refl _,ho,id⟩: ∃c' O',(k c').run C ⟨T,O'⟩=some p∧ak X ⟨μ.w,μ.φ,O'⟩ c' val∧Le ⟨μ.w,μ.φ,O⟩ ⟨μ.w,μ.φ,O'⟩∧bu X ⟨μ.w,μ.φ,O'⟩∧(c.aP=true→c'.aP=true))
 cases c with
 | mp r g=>
   simp only[cb,Act.run] at ah
   split at ah
   · rename_i es bR
     split at ah
     · rename_i hc
       obtain⟨zm,qC,SQ,FQ⟩:=hc
       simp only[Act.run] at ah
       obtain⟨le,xO⟩:=pE (μ:=⟨μ.w,μ.φ,O⟩) ho r
       refine⟨_,_,ah,?_,le,xO,fun _=>rfl⟩
       simp only[ak] at hv
       obtain⟨a,rfl,h1,h2⟩:=hv
       obtain⟨k0,rfl⟩:=h2 zm
       have qV:=xO.ents r es (by simp[aB,bR]) (by simp[aB,qC])
       rcases qV with⟨dz,ents,clock,hm,bU,lh⟩ | ⟨_,s,pos,_,rfl⟩ | ⟨ng,rfl⟩
       rotate_left
       · simp[V.isTuple] at FQ
       · simp[V.isTuple] at FQ
       simp only[ak]
       refine⟨SQ,.inr ⟨_,ents,clock,rfl,?_,(Array.getElem?_eq_some_iff.1 hm).1,⟨hm,lh⟩,bU⟩⟩
       rintro(⟨r',h1,h2,h3,h4⟩ | RA)
       · by_cases e:r'=r
         · subst e;simp[aB] at h2
         · exact xO.inj r' r e h1 (by simp[aB,bR]) h3 dz h4
       · exact xO.sR r (by simp[aB,bR]) dz RA
     · exact absurd ah au
   · exact absurd ah au
 | sl r g off len=>
   simp only[cb,Act.run] at ah
   split at ah
   · rename_i es bR
     split at ah
     · rename_i hc
       obtain⟨zm,qC,SQ,FQ⟩:=hc
       simp only[Act.run] at ah
       obtain⟨le,xO⟩:=pE (μ:=⟨μ.w,μ.φ,O⟩) ho r
       refine⟨_,_,ah,?_,le,xO,fun _=>rfl⟩
       have oP: (aN es off len).length=len:=by simp[aN];omega
       have A6:=ak.mono le hv
       simp only[ak,aB] at A6
       obtain⟨a0,cap,rfl,hle,_,cK⟩:=A6
       obtain⟨k0,k1,k2⟩:=cK zm
       obtain⟨q1,q2,q3,q4⟩:=xO.row r es (by simp[aB,bR]) (by simpa [aB] using k0)
       simp only[aB] at q1 q2 q3 q4
       simp only[ak]
       refine⟨FQ,?_,a0,cap,?_⟩
       · simp only[List.all_eq_true] at q3 ⊢
         exact fun x hx=> (cf (q3 x (List.mem_of_mem_drop (List.mem_of_mem_take hx)))).1
       · by_cases dz:cap=0
         · have:len=0:=by omega
           subst this
           refine⟨[],by rw[oP],by rw[oP];omega,?_,.inl ?_⟩
           · simp[aN,aj]
           · simp[aN]
         · have nq: (μ.φ r).cap≠0:=by omega
           rcases q4 with q4| ⟨cc,TT,vs,p1,p2,p3,p4⟩
           · exact absurd q4 nq
           · refine⟨(vs.drop off).take len,by rw[oP],by rw[oP];omega,aj.take _ (aj.drop _ p3),.inr ⟨_,_,k2.resolve_left dz,?_,(Array.getElem?_eq_some_iff.1 p1).1,(p4.drop off).take len⟩⟩
             rintro(⟨r',h1,h2,h3,h4⟩ | RA)
             · by_cases e:r'=r
               · subst e;simp[aB] at h2
               · have:=xO.inj r' r e h1 (by simp[aB,bR]) h3 nq
                 exact this h4
             · exact xO.sR r (by simp[aB,bR]) nq RA
     · exact absurd ah au
   · exact absurd ah au
 | own _ _=>exact absurd ah au
 | msl _ _ _ _=>exact absurd ah au
 | mptr _ _ _ _=>exact absurd ah au
 | any=>exact absurd ah au
 | it _ _=>exact absurd ah au
 | _=>exact same rfl
theorem ny: ∀ {cs:List V} {k:List V→Act} {vals:List Value} {O:Nat→Obj} {p:V×St},bu X ⟨μ.w,μ.φ,O⟩→aj X ⟨μ.w,μ.φ,O⟩ cs vals→(dQ cs k).run C ⟨T,O⟩=some p→
   ∃cN O',(k cN).run C ⟨T,O'⟩=some p∧aj X ⟨μ.w,μ.φ,O'⟩ cN vals∧Le ⟨μ.w,μ.φ,O⟩ ⟨μ.w,μ.φ,O'⟩∧bu X ⟨μ.w,μ.φ,O'⟩∧(cs.all V.aP=true→cN.all V.aP=true)
 | [],k,[],O,p,ho,_,ah=> ⟨[],O,ah,by simp[aj],Le.refl _,ho,id⟩
 | [],_,_::_,_,_,_,h,_=>by simp[aj] at h
 | _::_,_,[],_,_,_,h,_=>by simp[aj] at h
 | c::cs,k,v::vals,O,p,ho,h,ah=>by
   simp only[aj] at h
   obtain⟨c',O1,h1,h2,h3,h4,h5⟩:=oS ho h.1 ah
   obtain⟨cN,O2,k1,k2,k3,k4,k5⟩:=ny h4 (aj.mono h3 h.2) h1
   refine⟨c'::cN,O2,k1,?_,h3.trans k3,k4,?_⟩
   · simp only[aj];exact⟨ak.mono k3 h2,k2⟩
   · intro hh
     simp only[List.all_cons,Bool.and_eq_true] at hh ⊢
     exact⟨h5 hh.1,k5 hh.2⟩
theorem lj {c:V} {k:V→Act} {val:Value} {O:Nat→Obj} {p:V×St} (ho:bu X ⟨μ.w,μ.φ,O⟩) (hv:ak X ⟨μ.w,μ.φ,O⟩ c val) (ah: (sA c k).run C ⟨T,O⟩=some p):
   ∃c' O',(k c').run C ⟨T,O'⟩=some p∧ak X ⟨μ.w,μ.φ,O'⟩ c' val∧Le ⟨μ.w,μ.φ,O⟩ ⟨μ.w,μ.φ,O'⟩∧bu X ⟨μ.w,μ.φ,O'⟩:=by
 unfold sA at ah
 split at ah
 · exact⟨c,O,ah,hv,Le.refl _,ho⟩
 · split at ah
   · simp only[ak] at hv
     obtain⟨h0,vs,rfl,pZ⟩:=hv
     obtain⟨cN,O',h1,h2,h3,h4,h5⟩:=ny ho pZ ah
     exact⟨_,O',h1,by simp only[ak];exact⟨h5 h0,vs,rfl,h2⟩,h3,h4⟩
   · obtain⟨c',O',h1,h2,h3,h4,_⟩:=oS ho hv ah
     exact⟨c',O',h1,h2,h3,h4⟩
theorem oT: ∀ {cs:List V} {k:List V→Act} {vals:List Value} {O:Nat→Obj} {p:V×St},bu X ⟨μ.w,μ.φ,O⟩→aj X ⟨μ.w,μ.φ,O⟩ cs vals→(gv.go cs k).run C ⟨T,O⟩=some p→
   ∃cN O',(k cN).run C ⟨T,O'⟩=some p∧aj X ⟨μ.w,μ.φ,O'⟩ cN vals∧Le ⟨μ.w,μ.φ,O⟩ ⟨μ.w,μ.φ,O'⟩∧bu X ⟨μ.w,μ.φ,O'⟩
 | [],k,[],O,p,ho,_,ah=> ⟨[],O,ah,by simp[aj],Le.refl _,ho⟩
 | [],_,_::_,_,_,_,h,_=>by simp[aj] at h
 | _::_,_,[],_,_,_,h,_=>by simp[aj] at h
 | c::cs,k,v::vals,O,p,ho,h,ah=>by
   simp only[aj] at h
   obtain⟨c',O1,h1,h2,h3,h4⟩:=lj ho h.1 ah
   obtain⟨cN,O2,k1,k2,k3,k4⟩:=oT h4 (aj.mono h3 h.2) h1
   refine⟨c'::cN,O2,k1,?_,h3.trans k3,k4⟩
   simp only[aj];exact⟨ak.mono k3 h2,k2⟩
theorem u7 {cs:List V} {k:List V→Act} {vals:List Value} {O:Nat→Obj} {p:V×St} (ho:bu X ⟨μ.w,μ.φ,O⟩) (hv:aj X ⟨μ.w,μ.φ,O⟩ cs vals) (ah: (gv cs k).run C ⟨T,O⟩=some p):
  ∃cN O',(k cN).run C ⟨T,O'⟩=some p∧aj X ⟨μ.w,μ.φ,O'⟩ cN vals∧Le ⟨μ.w,μ.φ,O⟩ ⟨μ.w,μ.φ,O'⟩∧bu X ⟨μ.w,μ.φ,O'⟩:=by
 unfold gv at ah
 split at ah
 · exact⟨cs,O,ah,hv,Le.refl _,ho⟩
 · exact oT ho hv ah
end
end Go.AM
namespace Go.AM
open Go Go.RowKit
theorem oU {α:Type} (L:List α) (p:Nat) (x:α) (h:p<L.length):L.set p x=cI L p [x]:=by
 apply List.ext_getElem?
 intro q
 rw[eI (by simp;omega),List.getElem?_set]
 by_cases hq:q<p
 · simp[hq];omega
 · by_cases w6:p=q
   · subst w6;simp[h]
   · have: ¬q<p+1:=by omega
     simp[hq,w6,this]
theorem b6 {α:Type} (xs:Array α):xs.toList.length=xs.size:=Array.length_toList
section
variable {X:Ctx} {E:Env} {C:bj} {o:Oper} {a:Go.Act} {T:Nat→V} {μ:Mu} {v:V} {σ':St}
theorem zV {agg:Bool} {off sz:Nat} {e u e':V} {x val:Value} (he:ak X μ e x) (hl:e.c6=true) (hu:ak X μ u val) (h:da agg off sz e u=some e'):
   ∃x',ak X μ e' x'∧e'.c6=true∧e'.cells.length=e.cells.length∧val.cells.size=sz∧off+sz≤x.cells.size∧x'.cells.toList=cI x.cells.toList off val.cells.toList∧
     ∀c ∈ val.cells.toList,c.oneCell'=true:=by
 unfold da at h
 split at h
 · split at h
   · rename_i cs vs
     split at h<;>simp at h
     rename_i hc
     subst h
     simp only[ak] at he hu
     obtain⟨h0,xs,rfl,hx⟩:=he
     obtain⟨k0,ys,rfl,hy⟩:=hu
     have l1:=hx.length
     have l2:=hy.length
     rw[b6 xs] at l1
     rw[b6 ys] at l2
     refine⟨.agg (cI xs.toList off ys.toList).toArray,?_,rfl,?_,?_,?_,?_,?_⟩
     · simp only[ak]
       refine⟨?_,_,rfl,?_⟩
       · have t1:=jz (p:=V.aP) off h0
         have t2:=kY (p:=V.aP) (off+sz) h0
         simp only[List.all_append,t1,k0,t2,Bool.and_self]
       · have:=((aj.take off hx).append hy).append (aj.drop (off+sz) hx)
         simpa [cI,←l2,hc.1] using this
     · simp[V.cells];omega
     · simp only[Value.cells];omega
     · simp only[Value.cells];omega
     · simp[Value.cells]
     · intro c hcm
       simp only[Value.cells] at hcm
       obtain⟨j,hj⟩:=List.getElem?_of_mem hcm
       have bl:j<vs.length:=by rw[hy.length];exact(List.getElem?_eq_some_iff.1 hj).1
       obtain⟨c',g1,g2⟩:=hy.get (List.getElem?_eq_getElem bl)
       rw[hj] at g1;injection g1 with g1;subst g1
       simp only[List.all_eq_true] at k0
       exact(g2.mb (k0 _ (List.getElem_mem bl))).1
   · simp at h
 · split at h
   · rename_i cJ
     obtain⟨EG,db⟩:=hu.mb cJ.1
     have Df: ∀c ∈ val.cells.toList,c.oneCell'=true:=by rw[db];simpa using EG
     split at h
     · rename_i cs
       split at h<;>simp at h
       rename_i Ku
       subst h
       simp only[ak] at he
       obtain⟨h0,xs,rfl,hx⟩:=he
       have l1:=hx.length
       rw[b6 xs] at l1
       refine⟨.agg (xs.toList.set off val).toArray,?_,rfl,?_,?_,?_,?_,Df⟩
       · simp only[ak]
         refine⟨?_,_,rfl,by simpa using aj.set hx off hu⟩
         simp only[List.all_eq_true] at h0 ⊢
         intro c hcm
         rcases List.mem_or_eq_of_mem_set hcm with hm| rfl
         · exact h0 c hm
         · exact cJ.1
       · simp[V.cells]
       · rw[db,cJ.2];rfl
       · simp only[Value.cells];omega
       · rw[db]
         simp only[Value.cells]
         rw[oU _ _ _ (by rw[Array.length_toList];omega)]
     · split at h<;>simp at h
       rename_i c7 nq
       subst h
       obtain⟨_,hcx⟩:=he.mb nq.1
       refine⟨val,hu,by simp[V.c6,cJ.1],?_,?_,?_,?_,Df⟩
       · rw[V.fP cJ.1,V.fP nq.1];rfl
       · rw[db,cJ.2];rfl
       · rw[hcx,cJ.2,nq.2];simp
       · rw[db,hcx,nq.2];simp[cI]
   · simp at h
theorem yo {t:TypeId} {w:World} {g q sz:Nat} {cur:Array Value} {T0:TypeId} {val:Value} (hn:bG X t=some sz) (hg:w.heap[g]? =some (.cells cur T0 (0,0)))
  (hs:val.cells.size=sz) (hl:q+sz≤cur.size) (h1: ∀c ∈ val.cells.toList,c.oneCell'=true):
  (storeVar t ⟨g,q,none⟩ val).run X.P w= .ok () (w.setRow g (cI cur.toList q val.cells.toList).toArray):=by
 have:=iJ (P:=X.P) hg val.cells.toList (by rw[Array.length_toList,hs];exact hl) h1
 simp[storeVar,Sem.run_bind,c9 hn,hs,this]
theorem zW {    t:TypeId} {agg:Bool} {sz r g idx off:Nat} {u:V} {val:Value} {O:Nat→Obj} (ho:bu X ⟨μ.w,μ.φ,O⟩) (hu:ak X ⟨μ.w,μ.φ,O⟩ u val) (hn:bG X t=some sz) (h0:0 < (O r).sz)
   (ah: (av.kj agg sz r g idx off u).run C ⟨T,O⟩=some (v,σ')):
   σ'.T=T∧v= .tuple []∧ ∃w' φ',(storeVar t ⟨(μ.φ r).dc,(μ.φ r).base+idx*(O r).sz+off,none⟩ val).run X.P μ.w= .ok () w'∧Le ⟨μ.w,μ.φ,O⟩ ⟨w',φ',σ'.O⟩∧bu X ⟨w',φ',σ'.O⟩:=by
 simp only[av.kj,Act.run] at ah
 split at ah
 · rename_i es bR
   split at ah
   · rename_i hc
     split at ah
     · rename_i e he
       split at ah
       · rename_i e' hp
         simp only[Act.run,Option.some.injEq,Prod.mk.injEq] at ah
         obtain⟨rfl,rfl⟩:=ah
         obtain⟨k1,k2,k3,k4⟩:=ho.row r es bR h0
         simp only at k1 k2 k3 k4
         have bl:idx<es.length:=(List.getElem?_eq_some_iff.1 he).1
         have nq: (μ.φ r).cap≠0:=by omega
         rcases k4 with k4| ⟨c,T0,vs,hb,wW,pZ,cP⟩
         · exact absurd k4 nq
         · obtain⟨x,hx,bU⟩:=pZ.get he
           have mf:aS e (O r).sz=true:=by
            simp only[List.all_eq_true] at k3
            exact k3 e (List.mem_of_getElem? he)
           obtain⟨ll,qT⟩:=cf mf
           obtain⟨x',p1,p2,p3,p4,p5,p6,p7⟩:=zV bU ll hu hp
           have CI:x.cells.size=(O r).sz:=by rw[bU.dY ll,qT]
           have uP:dA c.toList (μ.φ r).base (O r).sz vs:=iI hb cP
           have hmul: (idx+1)*(O r).sz≤(μ.φ r).cap*(O r).sz:=Nat.mul_le_mul_right _ (by omega)
           have RB: (μ.φ r).base+(idx+1)*(O r).sz≤c.toList.length:=by rw[Array.length_toList];omega
           have tJ:=uP.put (x':=x') hx RB (m:=val.cells.toList) (by rw[Array.length_toList,p4];omega) p6
           have mF:=yo (X:=X) (t:=t) (q:=(μ.φ r).base+idx*(O r).sz+off) (val:=val) hn hb p4 (by rw[Nat.add_mul] at hmul;omega) p7
           have hw:=oq (μ:=⟨μ.w,μ.φ,O⟩) ho r bR hc.2 hb nq (c':=(cI c.toList ((μ.φ r).base+idx*(O r).sz+off) val.cells.toList).toArray)
            (by
              have: (cI c.toList ((μ.φ r).base+idx*(O r).sz+off) val.cells.toList).length=c.toList.length:=eT (by
               rw[Array.length_toList,Array.length_toList,p4];rw[Nat.add_mul] at hmul;omega)
              simpa using this)
            (O r).gen (μ.φ r).base (μ.φ r).cap (es':=es.set idx e') (vs':=vs.set idx x') (.inl ⟨rfl,rfl,rfl⟩) nq (by simpa using k2)
            (by
              simp only[List.all_eq_true] at k3 ⊢
              intro y hy
              rcases List.mem_or_eq_of_mem_set hy with hm| rfl
              · exact k3 y hm
              · simp[aS,p2,p3,qT])
            (aj.set pZ idx p1) wW (fun i y hy=>by
              obtain⟨q1,q2⟩:=tJ i y hy
              exact⟨q1,fun j z hz=>by simpa using q2 j z hz⟩)
           refine⟨rfl,rfl,_,_,mF,hw.1,hw.2⟩
       · exact absurd ah au
     · exact absurd ah au
   · exact absurd ah au
 · exact absurd ah au
theorem He {t:TypeId} {x y:Operand} {x' y':aW} {agg:Bool} {sz:Nat} (hr:Rel X T a μ) (ho:o.op= .store t x y) (h1:cR X x=some x') (h2:cR X y=some y')
   (hn:bG X t=some sz) (ah: (av E (.store agg sz x' y')).run C ⟨T,μ.O⟩=some (v,σ')):σ'.T=T∧cG X o a μ σ'.O v:=by
 simp only[av,bB] at ah
 have hx:=aT hr h1 μ.O
 have hy:=aT hr h2 μ.O
 split at ah
 · rename_i r g idx off e
   rw[e] at hx
   simp only[ak] at hx
   obtain⟨p,hp,sW,cK⟩:=hx
   have fin: ∀w',(storeVar t p (a.eval y)).run X.P μ.w= .ok () w'→(execOp a.eval o).run X.P μ.w= .ok .skip w':=fun w' hw=>by
     simp only[execOp,ho]
     refine G2 ?_
     simp[Instr.storeAt,Instr.sureAddr,Sem.run_bind,hp,hw]
   have main: ∀ {O:Nat→Obj} {u:V},Le μ ⟨μ.w,μ.φ,O⟩→bu X ⟨μ.w,μ.φ,O⟩→ak X ⟨μ.w,μ.φ,O⟩ u (a.eval y)→(av.kj agg sz r g idx off u).run C ⟨T,O⟩=some (v,σ')→
       σ'.T=T∧cG X o a μ σ'.O v:=by
     intro O u le fJ hu tJ
     have hgO: (O r).gen=g:=by
       simp only[av.kj,Act.run] at tJ
       split at tJ
       · split at tJ
         · rename_i hc;exact hc.1
         · exact absurd tJ au
       · exact absurd tJ au
     have abD:=le.gen r
     simp only at abD
     have hgm: (μ.O r).gen=g:=by omega
     obtain⟨_,Kz⟩:=le.row r (by simp only;omega)
     obtain⟨q1,q2,w',φ',q3,q4,q5⟩:=zW (t:=t) fJ hu hn (by simp only at Kz;rw[Kz];exact(cK hgm).1) tJ
     refine⟨q1,undef,w',φ',.inr ⟨fin w' ?_,rfl⟩,?_,le.trans q4,q5⟩
     · rw[(cK hgm).2]
       simp only at Kz
       rw[←Kz];exact q3
     · rw[q2];simp only[ak];exact⟨#[],rfl,by simp[aj]⟩
   simp only[Act.run] at ah
   split at ah
   · rw[bB] at ah
     obtain⟨u,O1,k1,k2,k3,k4⟩:=lj (μ:=μ) hr.bg hy ah
     exact main k3 k4 k2 k1
   · rw[bB] at ah
     exact main (Le.refl μ) hr.bg hy ah
 · exact absurd ah au
theorem w7 {off:Nat}: ∀ (m:List Value) (k:Nat) (cs:Array Value),off+k+m.length≤cs.size→
   ((m.zipIdx k).foldl (fun cs (p:Value×Nat)=>cs.setIfInBounds (off+p.2) p.1) cs).toList=cI cs.toList (off+k) m
 | [],k,cs,_=>by simp[cI]
 | x::m,k,cs,h=>by
   simp only[List.zipIdx_cons,List.foldl_cons]
   simp at h
   rw[w7 m (k+1) _ (by simp;omega)]
   rw[Array.toList_setIfInBounds]
   apply List.ext_getElem?
   intro q
   rw[eI (by simp;omega),eI (by simp;omega),List.getElem?_set]
   by_cases h1:q<off+k
   · have:q<off+(k+1):=by omega
     have h2: ¬off+k=q:=by omega
     simp[h1,this,h2]
   · by_cases h2:q=off+k
     · subst h2
       have h3:off+k<off+(k+1):=by omega
       have h4:off+k<cs.size:=by omega
       simp[h3,h4]
     · by_cases h3:q<off+k+(m.length+1)
       · have h4: ¬q<off+(k+1):=by omega
         have h5:q<off+(k+1)+m.length:=by omega
         have h6:q - (off+k)=(q - (off+(k+1)))+1:=by omega
         simp[h1,h4,h3,h5,h6]
       · have h4: ¬q<off+(k+1):=by omega
         have h5: ¬q<off+(k+1)+m.length:=by omega
         have h6: ¬off+k=q:=by omega
         simp[h1,h4,h3,h5,h6]
theorem w8 {off:Nat} {x:Value} {cs:Array Value} (h:off+x.cells.size≤cs.size):
  (x.cells.zipIdx.foldl (fun cs (p:Value×Nat)=>cs.setIfInBounds (off+p.2) p.1) cs).toList=cI cs.toList off x.cells.toList:=by
 rw[←Array.foldl_toList,Array.toList_zipIdx]
 have:=w7 (off:=off) x.cells.toList 0 cs (by rw[Array.length_toList];omega)
 simpa using this
theorem zX {place:Nat→Option (Nat×Nat)}: ∀ {ps:List (Nat×Nat×V)} {qs:List (Nat×Value)} {cs cN:List V} {xs:Array Value},
   (ps.length=qs.length)→(∀ (i:Nat) p q,ps[i]? =some p→qs[i]? =some q→place q.1=some (p.1,p.2.1)∧ak X μ p.2.2 q.2)→aj X μ cs xs.toList→cs.all V.aP=true→
   dF cs ps=some cN→ ∃IU,Instr.fill place xs qs=some IU∧aj X μ cN IU.toList∧cN.all V.aP=true
 | [],[],cs,cN,xs,_,_,hv,hc,h=>by
   simp[dF] at h;subst h
   exact⟨xs,rfl,hv,hc⟩
 | [],_::_,_,_,_,h,_,_,_,_=>by simp at h
 | _::_,[],_,_,_,h,_,_,_,_=>by simp at h
 | (off,sz,u)::ps,(i,q)::qs,cs,cN,xs,hl,hp,hv,hc,h=>by
   simp only[dF] at h
   split at h
   · rename_i w9
     obtain⟨h1,h2,h3⟩:=w9
     obtain⟨Hf,bU⟩:=hp 0 _ _ rfl rfl
     simp only at Hf bU
     have RC:q.cells.size=sz:=by rw[bU.dY h3,h1]
     have hlen:=hv.length
     rw[b6 xs] at hlen
     have gV:off+q.cells.size≤xs.size:=by omega
     have xa:=w8 (x:=q) (cs:=xs) gV
     have Dg:aj X μ (cs.take off++u.cells++cs.drop (off+sz)) (q.cells.zipIdx.foldl (fun cs (p:Value×Nat)=>cs.setIfInBounds (off+p.2) p.1) xs).toList:=by
      rw[xa]
      have:=((aj.take off hv).append (bU.cells h3)).append (aj.drop (off+sz) hv)
      simpa [cI,RC] using this
     have qC: (cs.take off++u.cells++cs.drop (off+sz)).all V.aP=true:=by
      have t1:=jz (p:=V.aP) off hc
      have t2:=kY (p:=V.aP) (off+sz) hc
      simp only[List.all_append,t1,bU.ju h3,t2,Bool.and_self]
     obtain⟨IU,g1,g2,g3⟩:=zX (place:=place) (ps:=ps) (qs:=qs) (by simpa using hl) (fun j p q' hj Mt=>hp (j+1) p q' (by simpa using hj) (by simpa using Mt)) Dg qC h
     refine⟨IU,?_,g2,g3⟩
     have BP: ¬ (q.cells.size≠sz∨xs.size<off+q.cells.size):=by omega
     simp only[Instr.fill,Hf]
     rw[if_neg (by simpa using BP)]
     exact g1
   · simp at h
end
end Go.AM
namespace Go.AM
open Go Go.RowKit
theorem oV {α β:Type} {P:Program} {w:World} {f:α→Sem β} {g:α→β}: ∀ (l:List α),(∀x ∈ l,(f x).run P w= .ok (g x) w)→(l.mapM f).run P w= .ok (l.map g) w
 | [],_=>by simp
 | x::l,h=>by
   have h1:=h x (by simp)
   have h2:=oV (f:=f) (g:=g) l fun y hy=>h y (by simp[hy])
   simp[List.mapM_cons,Sem.run_bind,h1,h2]
theorem u9 {α β:Type} {P:Program} {w:World} {f:α→Sem β} {g:α→β} (l:Array α) (h: ∀x ∈ l.toList,(f x).run P w= .ok (g x) w): (l.mapM f).run P w= .ok (l.map g) w:=by
 have:=oV l.toList h
 rw[Array.mapM_eq_mapM_toList]
 simp only[map_eq_pure_bind,Sem.run_bind,this,Result.andThen_ok,Sem.run_pure]
 congr 1
 apply Array.ext';simp
section
variable {X:Ctx} {E:Env} {C:bj} {o:Oper} {a:Go.Act} {T:Nat→V} {μ:Mu} {v:V} {σ':St}
theorem s6: ∀ (ps:List (Nat×Nat×aW)) (k:List (Nat×Nat×V)→Act) (σ:St),(eX ps k).run C σ=(k (ps.map fun p=> (p.1,p.2.1,bo σ p.2.2))).run C σ
 | [],_,_=>rfl
 | (_,_,x)::ps,k,σ=>by simp only[eX,bB,s6 ps,List.map_cons]
theorem s7 (hr:Rel X T a μ) (O:Nat→Obj) {place:Nat→Option (Nat×Nat)}: ∀ {ps:List (Nat×Operand)} {as:List (Nat×Nat×aW)},jt X place ps=some as→
   as.length=ps.length∧ ∀ (i:Nat) p q,as[i]? =some p→ps[i]? =some q→place q.1=some (p.1,p.2.1)∧ak X μ (bo ⟨T,O⟩ p.2.2) (a.eval q.2)
 | [],as,h=>by simp[jt] at h;subst h;simp
 | (i,x)::ps,as,h=>by
   simp only[jt] at h
   split at h
   · rename_i off sz y as' h1 h2 h3
     injection h with h;subst h
     obtain⟨k1,k2⟩:=s7 hr O h3
     refine⟨by simp[k1],fun j p q hp hq=> ?_⟩
     cases j with
     | zero=>simp at hp hq;subst hp;subst hq;exact⟨h1,aT hr h2 O⟩
     | succ j=>exact k2 j p q (by simpa using hp) (by simpa using hq)
   · simp at h
theorem va (ks:List Nat) (hr:Rel X T a μ) {t:TypeId} {z:List V} (hz:eA X t=some (.agg z)) {place:Nat→Option (Nat×Nat)} {parts:Array (Nat×Operand)} {as:List (Nat×Nat×aW)}
   (hp:jt X place parts.toList=some as) (ah: (av E (.build (xV ks z) as)).run C ⟨T,μ.O⟩=some (v,σ')):
   σ'=⟨T,μ.O⟩∧ ∃zv cells,(zeroValue t).run X.P μ.w= .ok zv μ.w∧Instr.fill place zv.cells (parts.map fun (i,x)=> (i,a.eval x)).toList=some cells∧ak X μ v (.agg cells):=by
 simp only[av,s6] at ah
 obtain⟨zv,sb,w5⟩:=gN hz μ.w
 obtain⟨u6,_⟩:=eH (X:=X) (μ:=μ) w5
 simp only[ak] at u6
 obtain⟨h0,xs,rfl,CI⟩:=u6
 obtain⟨l1,l2⟩:=s7 hr μ.O hp
 split at ah
 · rename_i cs db
   obtain⟨rfl,rfl⟩:=aY ah
   have key:=zX (X:=X) (μ:=μ) (place:=place) (ps:=as.map fun p=> (p.1,p.2.1,bo ⟨T,μ.O⟩ p.2.2)) (qs:=(parts.map fun (i,x)=> (i,a.eval x)).toList) (xs:=xs)
    (by simp[l1]) (fun j p q hp hq=>by
      simp only[List.getElem?_map,Option.map_eq_some_iff] at hp
      obtain⟨p',A7,rfl⟩:=hp
      rw[Array.toList_map,List.getElem?_map,Option.map_eq_some_iff] at hq
      obtain⟨q',Hg,rfl⟩:=hq
      exact l2 j p' q' A7 Hg) (CI.xV ks) (pG ks h0) db
   obtain⟨IU,g1,g2,g3⟩:=key
   exact⟨rfl,_,IU,sb,g1,by simp only[ak];exact⟨g3,IU,rfl,g2⟩⟩
 · exact absurd ah au
theorem EH (ks:List Nat) {t:TypeId} {parts:Array (Nat×Operand)} {z:List V} {fs:Array Field} {as:List (Nat×Nat×aW)} (hr:Rel X T a μ) (ho:o.op= .build t parts) (hz:eA X t=some (.agg z))
  (hd:bq X t=some (.struct fs)) (qw:fs.toList.all (fun f=> (bG X f.type).isSome)=true)
  (hp:jt X (fun i=>match fs[i]? with| some f=> (bG X f.type).map fun s=> (f.offset,s) | none=>none) parts.toList=some as)
  (ah: (av E (.build (xV ks z) as)).run C ⟨T,μ.O⟩=some (v,σ')):σ'.T=T∧cG X o a μ σ'.O v:=by
 obtain⟨rfl,zv,cells,h1,h2,h3⟩:=va ks hr hz hp ah
 refine⟨rfl,aO hr.bg ?_ h3⟩
 simp only[execOp,ho]
 refine cj ?_
 have mE:X.P.underlying t=some (.struct fs):=hd
 have hm:=u9 (P:=X.P) (w:=μ.w) (f:=fun f:Field=>do pure (f.offset,←sizeOf f.type)) (g:=fun f:Field=> (f.offset,(bG X f.type).getD 0)) fs (fun f hf=>by
  simp only[List.all_eq_true] at qw
  obtain⟨s,hs⟩:=Option.isSome_iff_exists.1 (qw f hf)
  simp[Sem.run_bind,c9 hs,hs])
 have hpl: (fun (i:Nat)=> (fs.map fun (f:Field)=> (f.offset,(bG X f.type).getD 0))[i]?)=fun (i:Nat)=>match fs[i]? with| some f=> (bG X f.type).map fun s=> (f.offset,s) | none=>none:=by
  funext i
  rw[Array.getElem?_map]
  cases hf:fs[i]? with
  | none=>rfl
  | some f=>
    simp only[List.all_eq_true] at qw
    obtain⟨s,hs⟩:=Option.isSome_iff_exists.1 (qw f (by simpa using Array.mem_of_getElem? hf))
    simp[hs]
 simp only[Instr.build,Sem.run_bind,h1,Result.andThen_ok,run_underlying mE,hm,hpl,h2,Sem.run_pure]
theorem EI (ks:List Nat) {t e:TypeId} {n s:Nat} {parts:Array (Nat×Operand)} {z:List V} {as:List (Nat×Nat×aW)} (hr:Rel X T a μ) (ho:o.op= .build t parts) (hz:eA X t=some (.agg z))
  (hd:bq X t=some (.array n e)) (hs:bG X e=some s) (hp:jt X (fun i=>some (i*s,s)) parts.toList=some as)
  (ah: (av E (.build (xV ks z) as)).run C ⟨T,μ.O⟩=some (v,σ')):σ'.T=T∧cG X o a μ σ'.O v:=by
 obtain⟨rfl,zv,cells,h1,h2,h3⟩:=va ks hr hz hp ah
 refine⟨rfl,aO hr.bg ?_ h3⟩
 simp only[execOp,ho]
 refine cj ?_
 have mE:X.P.underlying t=some (.array n e):=hd
 simp only[Instr.build,Sem.run_bind,h1,Result.andThen_ok,run_underlying mE,c9 hs,h2,Sem.run_pure]
theorem oW (hr:Rel X T a μ): ∀ {ps:List (Nat×Operand)} {as:List (Nat×aW)} {k:List (Nat×V)→Act} {O:Nat→Obj} {p:V×St},gK X ps=some as→Le μ ⟨μ.w,μ.φ,O⟩→bu X ⟨μ.w,μ.φ,O⟩→
   (ee as k).run C ⟨T,O⟩=some p→
   ∃vs O',(k vs).run C ⟨T,O'⟩=some p∧vs.length=ps.length∧Le ⟨μ.w,μ.φ,O⟩ ⟨μ.w,μ.φ,O'⟩∧bu X ⟨μ.w,μ.φ,O'⟩∧
     ∀ (i:Nat) q q',vs[i]? =some q→ps[i]? =some q'→q.1=q'.1∧ak X ⟨μ.w,μ.φ,O'⟩ q.2 (a.eval q'.2)
 | [],as,k,O,p,h,le,ho,ah=>by
   simp[gK] at h;subst h
   exact⟨[],O,ah,rfl,Le.refl _,ho,by simp⟩
 | (i,x)::ps,as,k,O,p,h,le,ho,ah=>by
   simp only[gK] at h
   split at h
   · rename_i y as' h1 h2
     injection h with h;subst h
     simp only[ee,bB] at ah
     have hx:ak X ⟨μ.w,μ.φ,O⟩ (bo ⟨T,O⟩ y) (a.eval x):=by
      have:=ak.mono le (aT hr h1 O)
      exact this
     obtain⟨u,O1,k1,k2,k3,k4⟩:=lj (μ:=μ) ho hx ah
     obtain⟨vs,O2,g1,g2,g3,g4,g5⟩:=oW hr h2 (le.trans k3) k4 k1
     refine⟨(i,u)::vs,O2,g1,by simp[g2],k3.trans g3,g4,fun j q q' hq Hg=> ?_⟩
     cases j with
     | zero=>simp at hq Hg;subst hq;subst Hg;exact⟨rfl,ak.mono g3 k2⟩
     | succ j=>exact g5 j q q' (by simpa using hq) (by simpa using Hg)
   · simp at h
theorem se {α:Type} (L:List α) (i:Nat) (x:α) (h:i<L.length):L.set i x=L.take i++[x]++L.drop (i+1):=by
 rw[oU L i x h];rfl
theorem oX {sz:Nat}: ∀ {vs:List (Nat×V)} {qs:List (Nat×Value)} {es es':List V} {us:List Value} {c:Array Value},vs.length=qs.length→
   (∀ (i:Nat) p q,vs[i]? =some p→qs[i]? =some q→p.1=q.1∧ak X μ p.2 q.2)→aj X μ es us→dA c.toList 0 sz us→c.size=us.length*sz→es.all (aS · sz)=true→
   cg sz es vs=some es'→ ∃c' IV,Instr.fill (fun i=>some (i*sz,sz)) c qs=some c'∧aj X μ es' IV∧dA c'.toList 0 sz IV∧c'.size=IV.length*sz∧
     es'.all (aS · sz)=true∧es'.length=es.length
 | [],[],es,es',us,c,_,_,hv,hs,hc,hb,h=>by
   simp[cg] at h;subst h
   exact⟨c,us,rfl,hv,hs,hc,hb,rfl⟩
 | [],_::_,_,_,_,_,h,_,_,_,_,_,_=>by simp at h
 | _::_,[],_,_,_,_,h,_,_,_,_,_,_=>by simp at h
 | (i,u)::vs,(i',q)::qs,es,es',us,c,hl,hp,hv,hs,hc,hb,h=>by
   simp only[cg] at h
   split at h
   · rename_i w9
     obtain⟨hi,mf⟩:=w9
     obtain⟨e1,bU⟩:=hp 0 _ _ rfl rfl
     simp only at e1 bU
     subst e1
     obtain⟨ll,qT⟩:=cf mf
     have RC:q.cells.size=sz:=by rw[bU.dY ll,qT]
     have hiu:i<us.length:=by rw[←hv.length];exact hi
     have hmul: (i+1)*sz≤us.length*sz:=Nat.mul_le_mul_right _ (by omega)
     rw[Nat.add_mul] at hmul
     have gV:i*sz+q.cells.size≤c.size:=by omega
     have xa:=w8 (x:=q) (cs:=c) gV
     have XA:flat [q]=q.cells.toList:=by simp[flat]
     have hw:=hs.write (k:=i) (us:=[q]) (by omega) (by simpa using RC) (by rw[b6];simp;omega)
     rw[XA,Nat.zero_add] at hw
     have jP:us.take i++[q]++us.drop (i+[q].length)=us.set i q:=(se us i q hiu).symm
     rw[jP,←xa] at hw
     have cH: (q.cells.zipIdx.foldl (fun cs (p:Value×Nat)=>cs.setIfInBounds (i*sz+p.2) p.1) c).size=(us.set i q).length*sz:=by
      rw[←b6,xa,eT (by rw[b6,b6];exact gV),b6];simpa using hc
     have abE: (es.set i u).all (aS · sz)=true:=by
      simp only[List.all_eq_true] at hb ⊢
      intro y hy
      rcases List.mem_or_eq_of_mem_set hy with hm| rfl
      · exact hb y hm
      · exact mf
     obtain⟨c',IV,g1,g2,g3,g4,g5,g6⟩:=oX (vs:=vs) (qs:=qs) (by simpa using hl) (fun j p q' hj Mt=>hp (j+1) p q' (by simpa using hj) (by simpa using Mt)) (aj.set hv i bU) hw cH abE h
     refine⟨c',IV,?_,g2,g3,g4,g5,by simpa using g6⟩
     have BP: ¬ (q.cells.size≠sz∨c.size<i*sz+q.cells.size):=by omega
     simp only[Instr.fill]
     rw[if_neg (by simpa using BP)]
     exact g1
   · simp at h
theorem jV {t e:TypeId} {n sz r:Nat} {parts:Array (Nat×Operand)} {z:V} (hr:Rel X T a μ) (ho:o.op= .buildSlice t n parts) (hd:bq X t=some (.slice e))
   (hn:bG X e=some sz) (hz:eA X e=some z) (SR: ∃vs O',(match cg sz (List.replicate n z) vs with
     | some es=>if aS z sz &&decide (0 <sz∧n*sz≤16777216) then AM.Act.bV r fun o=>AM.Act.bI r {gen:=o.gen+1,sz,arr:=true,fz:=false,es:=some es} (.done (.sl r (o.gen+1) 0 n)) else AM.Act.fail
     | none=>AM.Act.fail).run C ⟨T,O'⟩=some (v,σ')∧vs.length=parts.toList.length∧Le μ ⟨μ.w,μ.φ,O'⟩∧bu X ⟨μ.w,μ.φ,O'⟩∧
     ∀ (i:Nat) q q',vs[i]? =some q→parts.toList[i]? =some q'→q.1=q'.1∧ak X ⟨μ.w,μ.φ,O'⟩ q.2 (a.eval q'.2)):σ'.T=T∧cG X o a μ σ'.O v:=by
 obtain⟨vs,O1,k1,k2,k3,k4,k5⟩:=SR
 split at k1
 · rename_i es bR
   split at k1
   · rename_i hc
     simp only[Bool.and_eq_true,decide_eq_true_eq] at hc
     obtain⟨Hh,cH,yp⟩:=hc
     simp only[Act.run,Option.some.injEq,Prod.mk.injEq] at k1
     obtain⟨rfl,rfl⟩:=k1
     refine⟨rfl,?_⟩
     obtain⟨zv,sb,w5⟩:=gN hz μ.w
     obtain⟨u6,Ms⟩:=eH (X:=X) (μ:=⟨μ.w,μ.φ,O1⟩) w5
     have Kx:zv.cells.size=sz:=by rw[u6.dY Ms,(cf Hh).2]
     obtain⟨q1,q2⟩:=sZ (n:=n) Kx
     have hbr: (List.replicate n z).all (aS · sz)=true:=by
       simp only[List.all_eq_true,List.mem_replicate]
       rintro y ⟨_,rfl⟩;exact Hh
     obtain⟨c',IV,g1,g2,g3,g4,g5,g6⟩:=oX (X:=X) (μ:=⟨μ.w,μ.φ,O1⟩) (sz:=sz) (vs:=vs) (qs:=(parts.map fun (i,x)=> (i,a.eval x)).toList) (by simp[k2]) (fun j p q hj hq=>by
       rw[Array.toList_map,List.getElem?_map,Option.map_eq_some_iff] at hq
       obtain⟨q',Hg,rfl⟩:=hq
       exact k5 j p q' hj Hg) (aj.replicate u6 n) q2 (by rw[q1];simp) hbr bR
     have hlen:es.length=n:=by simpa using g6
     have s8:IV.length=n:=by rw[←g2.length];exact hlen
     obtain⟨RD,SU⟩:=yi (X:=X) (μ:=⟨μ.w,μ.φ,O1⟩) k4 r sz n true (es:=es) (vs:=IV) (c:=c') e cH (by omega) g5 g2 (by rw[g4,s8];exact Nat.le_refl _) (fun i u hu=>by
       obtain⟨m1,m2⟩:=g3 i u hu
       exact⟨m1,fun j x hx=>by simpa using m2 j x hx⟩)
     refine⟨.slice (some ⟨μ.w.heap.size,0,none⟩) n n,_,_,.inl ?_,?_,k3.trans RD,SU⟩
     · simp only[execOp,ho]
       refine cj ?_
       have mE:X.P.underlying t=some (.slice e):=hd
       have XB: ¬n*sz >2 ^ 24:=by
         have: (2:Nat) ^ 24=16777216:=by decide
         omega
       simp only[Instr.buildSlice,Sem.run_bind,run_underlying mE,Result.andThen_ok,c9 hn]
       rw[if_neg XB]
       have jW: ∀zero:Array Value,(n*sz=0∨zero=zv.cells)→(Array.range (n*sz)).map (fun i=>zero[i % zero.size]!)=(Array.range (n*sz)).map (fun i=>zv.cells[i % zv.cells.size]!):=by
         rintro zero (h0| rfl)
         · have Ky:Array.range 0= #[]:=rfl
           rw[h0,Ky];simp
         · rfl
       by_cases EF:n*sz=0
       · rw[if_pos EF]
         simp only[Sem.run_bind,Sem.run_pure,Result.andThen_ok]
         rw[jW #[] (.inl EF),g1]
         simp only[newRow,Sem.run_bind,run_newObj,Result.andThen_ok,Sem.run_pure]
         rfl
       · rw[if_neg EF]
         simp only[Sem.run_bind,sb,Result.andThen_ok,Sem.run_pure]
         rw[jW zv.cells (.inr rfl),g1]
         simp only[newRow,Sem.run_bind,run_newObj,Result.andThen_ok,Sem.run_pure]
         rfl
     · simp only[ak,aB]
       exact⟨_,_,rfl,Nat.le_refl _,Nat.le_refl _,fun _=> ⟨cH,by simp,by simp⟩⟩
   · exact absurd k1 au
 · exact absurd k1 au
theorem oY {t e:TypeId} {n sz r:Nat} {parts:Array (Nat×Operand)} {z:V} {as:List (Nat×aW)} (hr:Rel X T a μ) (ho:o.op= .buildSlice t n parts) (hd:bq X t=some (.slice e))
  (hn:bG X e=some sz) (hz:eA X e=some z) (hp:gK X parts.toList=some as) (ah: (av E (.buildSlice r sz z n as)).run C ⟨T,μ.O⟩=some (v,σ')):σ'.T=T∧cG X o a μ σ'.O v:=by
 simp only[av] at ah
 exact jV hr ho hd hn hz (oW hr hp (Le.refl μ) hr.bg ah)
theorem nz (hr:Rel X T a μ): ∀ {ps:List (Nat×Operand)} {as:List (Nat×aW)} {k:List (Nat×V)→Act} {p:V×St},gK X ps=some as→
   (iQ as k).run C ⟨T,μ.O⟩=some p→
   ∃vs,(k vs).run C ⟨T,μ.O⟩=some p∧vs.length=ps.length∧
     ∀ (i:Nat) q q',vs[i]? =some q→ps[i]? =some q'→q.1=q'.1∧ak X μ q.2 (a.eval q'.2)
 | [],as,k,p,h,ah=>by
   simp[gK] at h;subst h
   exact⟨[],ah,rfl,by simp⟩
 | (i,x)::ps,as,k,p,h,ah=>by
   simp only[gK] at h
   split at h
   · rename_i y as' h1 h2
     injection h with h;subst h
     simp only[iQ,bB] at ah
     have hx:=aT hr h1 μ.O
     obtain⟨vs,g1,g2,g5⟩:=nz hr h2 ah
     refine⟨(i,_)::vs,g1,by simp[g2],fun j q q' hq Hg=> ?_⟩
     cases j with
     | zero=>simp at hq Hg;subst hq;subst Hg;exact⟨rfl,hx⟩
     | succ j=>exact g5 j q q' (by simpa using hq) (by simpa using Hg)
   · simp at h
theorem vb {t e:TypeId} {n sz r:Nat} {parts:Array (Nat×Operand)} {z:V} {as:List (Nat×aW)} (hr:Rel X T a μ) (ho:o.op= .buildSlice t n parts) (hd:bq X t=some (.slice e))
  (hn:bG X e=some sz) (hz:eA X e=some z) (hp:gK X parts.toList=some as) (ah: (av E (.fZ r sz z n as)).run C ⟨T,μ.O⟩=some (v,σ')):σ'.T=T∧cG X o a μ σ'.O v:=by
 simp only[av] at ah
 obtain⟨vs,g1,g2,g3⟩:=nz hr hp ah
 exact jV hr ho hd hn hz ⟨vs,μ.O,g1,g2,Le.refl μ,hr.bg,g3⟩
theorem vd {t e:TypeId} {n sz r ix:Nat} {parts:Array (Nat×Operand)} {z:V} {as:List (Nat×aW)} (hr:Rel X T a μ) (ho:o.op= .buildSlice t n parts) (hd:bq X t=some (.slice e))
  (hn:bG X e=some sz) (hz:eA X e=some z) (hp:gK X parts.toList=some as) (ah: (av E (.fY ix r sz z n as)).run C ⟨T,μ.O⟩=some (v,σ')):σ'.T=T∧cG X o a μ σ'.O v:=by
 have h: (match bo ⟨T,μ.O⟩ (.tmp ix) with| .int _ j=>Ly (r+16*j.toNat) sz z n as| _=> .fail).run C ⟨T,μ.O⟩=some (v,σ'):=ah
 split at h
 · exact oY (E:=E) (r:=_) hr ho hd hn hz hp h
 · exact absurd h au
theorem EJ {x:Operand} {t0 t:TypeId} {ok:Bool} {x':aW} {n:Nat} {z:V} (hr:Rel X T a μ) (ho:o.op= .typeAssert x t0 t ok) (mP: ∀t1 t2 k,X.jb t1=some k→X.jb t2=some k→t1=t2)
   (hn:X.jb t=some n) (h1:cR X x=some x') (hz:eA X t=some z) (hd: ∃d,bq X t=some d∧ ∀ms,d≠ .interface ms)
   (ah: (av E (.assert n ok z x')).run C ⟨T,μ.O⟩=some (v,σ')):σ'.T=T∧cG X o a μ σ'.O v:=by
 simp only[av,bB] at ah
 have hx:=aT hr h1 μ.O
 obtain⟨d,G3,zH⟩:=hd
 have RE:X.P.underlying t=some d:=G3
 obtain⟨zv,sb,w5⟩:=gN hz μ.w
 obtain⟨u6,_⟩:=eH (X:=X) (μ:=μ) w5
 have fin: ∀val,(Instr.typeAssert (a.eval x) t0 t ok).run X.P μ.w= .ok val μ.w→(execOp a.eval o).run X.P μ.w= .ok (.value val) μ.w:=fun val hv=>by
   simp only[execOp,ho]
   exact cj hv
 split at ah
 · rename_i e
   rw[e] at hx;simp only[ak] at hx
   split at ah
   · rename_i XC
     obtain⟨rfl,rfl⟩:=aY ah
     refine⟨rfl,aO (val:= .tuple #[zv,.bool false]) hr.bg (fin _ ?_) ?_⟩
     · simp only[Instr.typeAssert,Sem.run_bind,run_underlying RE,Result.andThen_ok,hx]
       cases d<;>first| exact absurd rfl (zH _) | simp[XC,Sem.run_bind,sb]
     · simp only[ak];exact⟨_,rfl,by simp[aj,ak,u6]⟩
   · exact absurd ah au
 · rename_i t' u e
   rw[e] at hx;simp only[ak] at hx
   obtain⟨t1,y,hy,Kd,bU⟩:=hx
   split at ah
   · rename_i htt
     obtain⟨rfl,rfl⟩:=aY ah
     have hte:t1=t:=mP t1 t n (by rw[Kd,htt]) hn
     refine⟨rfl,aO (val:=if ok then .tuple #[y,.bool true] else y) hr.bg (fin _ ?_) ?_⟩
     · simp only[Instr.typeAssert,Sem.run_bind,run_underlying RE,Result.andThen_ok,hy]
       cases d<;>first| exact absurd rfl (zH _) | simp[hte]
     · cases ok
       · simpa using bU
       · simp only[if_true,ak];exact⟨_,rfl,by simp[aj,ak,bU]⟩
   · rename_i htt
     split at ah
     · rename_i XC
       obtain⟨rfl,rfl⟩:=aY ah
       have hte:t1≠t:=fun e=>htt (by rw[e,hn] at Kd;injection Kd with Kd;exact Kd.symm)
       refine⟨rfl,aO (val:= .tuple #[zv,.bool false]) hr.bg (fin _ ?_) ?_⟩
       · simp only[Instr.typeAssert,Sem.run_bind,run_underlying RE,Result.andThen_ok,hy]
         cases d<;>first| exact absurd rfl (zH _) | simp[hte,XC,Sem.run_bind,sb]
       · simp only[ak];exact⟨_,rfl,by simp[aj,ak,u6]⟩
     · exact absurd ah au
 · exact absurd ah au
end
end Go.AM
