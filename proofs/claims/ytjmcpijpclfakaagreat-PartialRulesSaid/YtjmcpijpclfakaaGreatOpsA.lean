/-
  Texts of the proof: AmTr, AmRel, AmObj, AmOps1, AmEq, AmOps2, AmOps3, AmOps4, AmRow, AmOps5, AmOps6, AmOps7.
-/
import Derived.Test.YtjmcpijpclfakaaGreatDefs
import Derived.Calls
import Derived.Orders
import Derived.Below
import Derived.Laws.Cells
import Derived.Laws.Rows
import Derived.Laws.Tables
import Derived.Laws.CopyRow
import Derived.ChangeKeysEq
import Derived.Laws.StructEq
import Derived.IntWalk
set_option linter.unusedSimpArgs false
set_option linter.unusedVariables false
namespace Go.AM
structure Hints where
 yq:List (Option Nat):=[]
 b6:List Nat:=[]
 name:List (Nat×Nat):=[]
 lits:List (Nat×List Nat):=[]
 afJ:List (Nat×Nat×Nat):=[]
 afK:List (Nat×Nat×Nat):=[]
 dyn:List (Nat×Nat):=[]
 dq:List Nat:=[]
 deep:List Nat:=[]
 afL:List Nat:=[]
 tag:Option (Nat×Nat):=none
 keys:List (Nat×List Nat×List Nat):=[]
 n:Nat:=0
 AY:List (Nat×Nat×Nat×Nat):=[]
 full:List (Nat×Nat×Nat×Nat×Nat):=[]
structure TrEnv where
 P:Program
 kh:FuncId→Option Nat
 ku:TypeId→Option Nat
variable (X:TrEnv)
def qN:Value→Option V
 | .bool b=>some (.bool b)
 | .int k n=>some (.int k n)
 | .float .f64 b=>some (.float b)
 | .string s=>some (.str s.data.toList)
 | .pointer none=>some .nilp
 | .slice none 0 0=>some .nils
 | .map none=>some (.mlit [])
 | .nilFunc=>some .nilfn
 | .nilIface=>some .nili
 | _=>none
def lJ:List Value→Option (List V)
 | []=>some []
 | v::vs=>match qN v,lJ vs with
   | some c,some cs=>some (c::cs)
   | _,_=>none
def yW:Value→Option V
 | .agg cs=> (lJ cs.toList).map .agg
 | v=>qN v
def info (t:TypeId):Option TypeInfo:=X.P.info? t
def bT (t:TypeId):Option Nat:=(info X t).map (·.size)
def bG (t:TypeId):Option TypeDesc:=X.P.underlying t
def je (t:TypeId):Option Bool:=(bG X t).map fun| .struct _=>true| .array .. =>true| _=>false
def fq (t:TypeId):Option V:=(info X t).bind fun i=>i.zero.bind yW
def du:Operand→Option bg
 | .tmp t=>some (.tmp t)
 | .const v=> (yW v).map .const
 | .func f=> (X.kh f).map fun n=> .const (.fn n [])
 | .global _=>none
def rp:List Operand→Option (List bg)
 | []=>some []
 | o::os=>match du X o,rp os with
   | some a,some as=>some (a::as)
   | _,_=>none
def vO:Option Operand→Option (Option bg)
 | none=>some none
 | some o=> (du X o).map some
mutual
def mJ:Nat→TypeId→Option (List Nat)
 | 0,_=>none
 | d+1,t=>match bG X t with
   | some .bool=>if bT X t=some 1 then some [0] else none
   | some (.int _)=>if bT X t=some 1 then some [1] else none
   | some .string=>if bT X t=some 1 then some [2] else none
   | some (.struct fs)=>if X.P.stoodInHeld t=false then(match vP d fs.toList 0 with
      | some ks=>if bT X t=some ks.length then some ks else none
      | none=>none) else none
   | some (.array n e)=>if je X e=some false∧bT X t=some n then(match mJ d e with
      | some [k]=>some (List.replicate n k)
      | _=>none) else none
   | _=>none
def vP:Nat→List Field→Nat→Option (List Nat)
 | 0,_,_=>none
 | _+1,[],_=>some []
 | d+1,f::fs,off=>if f.name≠ "_" ∧f.offset=off then match mJ d f.type with
    | some ks=>match vP d fs (off+ks.length) with
      | some PA=>some (ks++PA)
      | none=>none
    | none=>none
   else none
end
def kN (place:Nat→Option (Nat×Nat)):List (Nat×Operand)→Option (List (Nat×Nat×bg))
 | []=>some []
 | (i,o)::ps=>match place i,du X o,kN place ps with
   | some (off,sz),some a,some as=>some ((off,sz,a)::as)
   | _,_,_=>none
def jf:List (Nat×Operand)→Option (List (Nat×bg))
 | []=>some []
 | (i,o)::ps=>match du X o,jf ps with
   | some a,some as=>some ((i,a)::as)
   | _,_=>none
def iu (t:Nat):Nat:=16*(t+1)
def nameOf (h:Hints) (dst:Nat):Nat:=((h.name.find? (·.1==dst)).map (·.2)).getD (iu dst)
def LB (ks:List Nat):bg→bg
 | .const v=> .const (Fi ks v)
 | x=>x
def ab2 (h:Hints) (dst:Nat):Option Nat:=(h.dyn.find? (·.1==dst)).map (·.2)
def pP (h:Hints) (dst:Nat):List Nat:=((h.lits.find? (·.1==dst)).map (·.2)).getD []
def ab3 (h:Hints) (dst:Nat):Option (Nat×Nat):=(h.afJ.find? (·.1==dst)).map (·.2)
def isNil:Operand→Bool
 | .const (.slice none 0 0)=>true
 | _=>false
def ab4 (h:Hints) (dst:Nat) (x:Operand):Option Nat:=match x with
 | .tmp t=> (h.afK.find? (fun p=>p.1==dst &&p.2.1==t)).map (·.2.2)
 | _=>none
def yX (h:Hints) (dst:Nat) (x:Operand):Option vb:=
 match isNil x,ab3 h dst with
 | true,some (r,sz)=>some (.cN r sz)
 | _,_=>match ab4 h dst x with
   | some r=> (du X x).map fun y=> .oY r y
   | none=> (du X x).map fun y=> .move (LB (pP h dst) y)
def rK (bytes:Nat):Nat:=(140737488355328 - 200*(bytes+1)) / (bytes+1)
def PB (e:TypeId):Bool:=match bG X e with
 | some (.int .u8)=>true
 | _=>false
def PC (h:Hints) (dst r sz dW:Nat) (s x:bg):vb:=
 match h.AY.find? (·.1==dst),h.full.find? (·.1==dst) with
 | some (_,r',g,N),_=> .qI r' g N sz s x
 | none,some (_,m,r',g,N)=> .qJ m r' g N sz dW s x
 | none,none=>if h.dq.contains dst then .tK r sz dW s x else .append r sz dW s x
def yY (h:Hints) (dst:Nat) (c:Call):Option vb:=
 match c.callee with
 | .value f=>match du X f,rp X c.args.toList with
   | some f,some as=>some (.call (iu dst) (h.b6.contains dst) f as)
   | _,_=>none
 | .invoke .. =>none
 | .builtin b=>match b,c.args.toList,c.argTypes.toList with
   | .len,[x],[t]=>match du X x,bG X t with
     | some x,some (.slice _)=>some (.len x)
     | some x,some .string=>some (.dM x)
     | some _,some (.array n _)=>some (.move (.const (.int .i64 n)))
     | _,_=>none
   | .min,xs,_=> (rp X xs).map .min
   | .max,xs,_=> (rp X xs).map .max
   | .append,[s,x],[t,t']=>match du X s,du X x,bG X t,bG X t' with
     | some s,some x,some (.slice e),some d=>match bT X e,info X e,fq X e,d with
       | some sz,some i,some z,.slice _| some sz,some i,some z,.string=>if aZ z sz then some (PC h dst (nameOf h dst) sz (rK i.bytes) s x) else none
       | _,_,_,_=>none
     | _,_,_,_=>none
   | .copy,[d,s],[t,_]=>match du X d,du X s,bG X t with
     | some d,some s,some (.slice e)=> (bT X e).map fun sz=> .copy sz d s
     | _,_,_=>none
   | .clear,[x],[t]=>match du X x,bG X t with
     | some x,some (.slice e)=>match bT X e,fq X e with
       | some sz,some z=>some (.clear sz z x)
       | _,_=>none
     | _,_=>none
   | _,_,_=>none
def LC:BinOp→Bool
 | .eql=>true
 | .neq=>true
 | _=>false
def iP:BinOp→Bool
 | .neq=>true
 | _=>false
def xP:List (Nat×Nat):=(List.range 40).filterMap fun T=>match X.ku T,(X.P.info? T).map (·.comparable),bG X T with
 | some t,some true,some .bool=>some (t,0)
 | some t,some true,some (.int _)=>some (t,1)
 | some t,some true,some .string=>some (t,2)
 | _,_,_=>none
def HL (op:BinOp) (t:TypeId) (x y:bg):Option vb:=
 if LC op then match bG X t with
  | some .bool=>some (.tI (iP op) x y)
  | some (.int _) | some .string=>some (.bin op x y)
  | some (.interface _)=>some (.YC (iP op) (xP X) x y)
  | some (.pointer e)=> (match bT X e with
    | some (_+1)=>some (.Sk (iP op) x y)
    | _=>none)
  | some (.struct _)=>if X.P.eqGuardType X.P.depth t=false then(mJ X 100 t).map fun ks=> .KC (iP op) ks x y else none
  | some (.array _ _)=>if X.P.eqGuardType X.P.depth t=false then(mJ X 100 t).map fun ks=> .KC (iP op) ks x y else none
  | _=>none
 else some (.bin op x y)
def uo (kt:TypeId):Option (Option IntKind):=match bG X kt with
 | some (.int k)=>some (some k)
 | some .string=>some none
 | _=>none
def An (h:Hints) (dst:Nat):Op→Option vb
 | .move x| .assign x=>if h.deep.contains dst then(du X x).map .deep else if h.afL.contains dst then(du X x).map .FA else yX X h dst x
 | .pick c a b=>match du X c,du X a,du X b with
   | some c,some a,some b=>some (.pick c a b)
   | _,_,_=>none
 | .alloc t=>match bT X t,fq X t with
   | some sz,some z=>some (.new (iu dst) sz (.const (Fi (pP h dst) z)))
   | _,_=>none
 | .box t x=>match bT X t,du X x with
   | some sz,some x=>some (if h.deep.contains dst then .yw (iu dst) sz (LB (pP h dst) x) else .new (iu dst) sz (LB (pP h dst) x))
   | _,_=>none
 | .build t ps=>match fq X t,bG X t with
   | some (.agg z),some (.struct fs)=>if !fs.toList.all (fun f=> (bT X f.type).isSome) then none else(kN X (fun i=>match fs[i]? with| some f=> (bT X f.type).map fun s=> (f.offset,s) | none=>none) ps.toList).map (.build (B8 (pP h dst) z))
   | some (.agg z),some (.array _ e)=>match bT X e with
     | some s=> (kN X (fun i=>some (i*s,s)) ps.toList).map (.build (B8 (pP h dst) z))
     | none=>none
   | _,_=>none
 | .buildSlice t n ps=>match bG X t with
   | some (.slice e)=>match bT X e,fq X e,jf X ps.toList with
     | some sz,some z,some as=>some (match ab2 h dst with| some ix=> .j9 ix (16000000+iu dst) sz z n as| none=>if h.dq.contains dst then .ka (iu dst) sz z n as else .buildSlice (iu dst) sz z n as)
     | _,_,_=>none
   | _=>none
 | .load t x=>match je X t,bT X t,du X x with
   | some a,some sz,some x=>some (if (pP h dst).isEmpty then .load a sz x else .AG (pP h dst) a sz x)
   | _,_,_=>none
 | .store t x v=>match je X t,bT X t,du X x,du X v with
   | some a,some sz,some x,some v=>some (.store a sz x v)
   | _,_,_,_=>none
 | .nilCheck x=> (du X x).map .nilCheck
 | .binOp op t x y _=>match du X x,du X y with
   | some x,some y=>HL X op t x y
   | _,_=>none
 | .unOp op _ x=> (du X x).map (.un op)
 | .convert s d x=>match bG X s,bG X d,du X x with
   | some (.int _),some (.int k),some x=>some (.il k x)
   | some (.int _),some (.float .f64),some x=>some (.yt x)
   | some (.float .f64),some (.int k),some x=>some (.yu k x)
   | some .string,some .string,some x=>some (.tJ x)
   | some .string,some (.slice e),some x=>if PB X e then some (.mX x) else none
   | some (.slice e),some .string,some x=>if PB X e then some (.kb x) else none
   | _,_,_=>none
 | .makeInterface t x=>match X.ku t,du X x,bG X t with
   | some _,some _,some (.interface _)=>none
   | some n,some x,some _=>some (.cU n x)
   | _,_,_=>none
 | .typeAssert x _ t ok=>match X.ku t,du X x,fq X t,bG X t with
   | some _,some _,some _,some (.interface _)=>none
   | some n,some x,some z,some _=>some (.assert n ok z x)
   | _,_,_,_=>none
 | .makeFunc (.func f) first caps=>if first.isEmpty then match X.kh f,rp X caps.toList with
     | some n,some cs=>some (.iH n cs)
     | _,_=>none
   else if caps.isEmpty then match X.kh f,rp X first.toList with
     | some n,some cs=>some (.qH n cs)
     | _,_=>none
   else none
 | .makeSlice t l c=>match bG X t with
   | some (.slice e)=>match bT X e,info X e,fq X e,du X l,du X c with
     | some sz,some i,some z,some l,some c=>some (.makeSlice (iu dst) sz i.bytes z l c)
     | _,_,_,_,_=>none
   | _=>none
 | .slice t x lo hi mx=>match bG X t,du X x,vO X lo,vO X hi,vO X mx with
   | some (.slice e),some x,some lo,some hi,some mx=> (bT X e).map fun sz=> .slice sz x lo hi mx
   | some .string,some x,some lo,some hi,some none=>some (.eX x lo hi)
   | _,_,_,_,_=>none
 | .fieldAddr s x i=>match bG X s,du X x with
   | some (.struct fs),some x=>match fs[i]? with
     | some f=>match bT X f.type with
       | some (_+1)=>some (.fieldAddr f.offset x)
       | _=>none
     | none=>none
   | _,_=>none
 | .field s x i=>match bG X s,du X x with
   | some (.struct fs),some x=>match fs[i]? with
     | some f=>match je X f.type,bT X f.type with
       | some a,some sz=>some (.field a f.offset sz x)
       | _,_=>none
     | none=>none
   | _,_=>none
 | .indexAddr t x i=>match bG X t,du X x,du X i with
   | some (.slice e),some x,some i=> (bT X e).map fun sz=> .indexAddr sz x i
   | some (.array n e),some x,some i=> (bT X e).map fun sz=> .bZ n sz x i
   | _,_,_=>none
 | .index t x i=>match bG X t,du X x,du X i with
   | some .string,some x,some i=>some (.cj x i)
   | some (.array n e),some x,some i=>match je X e,bT X e with
     | some a,some sz=>some (.pr a n sz x i)
     | _,_=>none
   | _,_,_=>none
 | .extract x i=> (du X x).map fun x=> .extract x i
 | .makeMap _ none=>some (.mkMap (iu dst))
 | .range t x=>match bG X t,du X x with
   | some .string,some x=>some (.qF (iu dst) x)
   | some (.map _ _),some x=>some (.mapIter (iu dst) x)
   | _,_=>none
 | .next x true=> (du X x).map .qG
 | .lookup t x i ok=>match bG X t,du X x,du X i with
   | some (.map kt et),some x,some i=>match uo X kt,fq X et with
     | some q,some z=>some (.vA q ok z x i)
     | _,_=>none
   | _,_,_=>none
 | .mapUpdate t m k v=>match bG X t,du X m,du X k,du X v with
   | some (.map kt _),some m,some k,some v=> (uo X kt).map fun q=> .pw q m k v
   | _,_,_,_=>none
 | .insert t m k v=>match bG X t,du X m,du X k,du X v with
   | some (.map kt _),some m,some k,some v=> (uo X kt).map fun q=> .pw q m k v
   | _,_,_,_=>none
 | .call c=>yY X h dst c
 | _=>none
def pQ (h:Hints) (ops:Array Oper) (o:Oper):Option cF:=
 let g:Option (Option (Nat×Bool)):=match o.guard with
  | none=>some none
  | some (j,want)=>match (ops[j]?).bind (·.dst) with
    | some d=>some (some (d,want))
    | none=>none
 match g,o.dst.all (· <h.n) with
 | some g,true=>some {dst:=o.dst,op:=(An X h (o.dst.getD 0) o.op).getD .bad,guard:=g,pre:=(o.after.toList.filter (Region.binds .any)).map (·.on)}
 | _,_=>none
def iA (h:Hints) (ops:Array Oper):List Oper→Option (List cF)
 | []=>some []
 | o::os=>match pQ X h ops o,iA h ops os with
   | some a,some as=>some (a::as)
   | _,_=>none
def Cu (h:Hints) (a:Code):Option (Nat×Nat×Nat×Nat×List Nat×List Nat):=
 match a with
 | .seq (.region ..) (.block id (.loop (.seq (.region _ ops false) (.seq (.cond ..) (.block _ (.seq (.region _ jg false) _))))))=>match ops[0]?,jg[0]? with
   | some o,some o5=>match o.op,o.dst,o.guard,o5.op,o5.dst,o5.guard with
     | .next (.tmp it) false,some nx,none,.entry (.tmp it'),some ne,none=> (match h.keys.find? (·.1==nx) with
       | some k=>if nx<h.n∧ne<h.n∧it'=it then some (it,nx,ne,id,k.2.1,k.2.2) else none
       | none=>none)
     | _,_,_,_,_,_=>none
   | _,_=>none
 | _=>none
def D3:Code→Bool
 | .seq (.region ..) _=>true
 | _=>false
def D4 (h:Hints) (a b:Code) (ta tb:aB):aB:=
 match Cu h a,D3 b,ta,tb with
 | some (it,nx,ne,id,kT,kO),true,.seq tR (.block _ (.loop (.seq (.region as) (.seq tc (.block b1 (.seq (.region bs) tz)))))),.seq tS yZ=> .seq tR (.seq (.keys it nx ne id kT kO (.seq (.region (as.drop 1)) tc) (.block b1 (.seq (.region (bs.drop 1)) tz)) tS) yZ)
 | _,_,_,_=> .seq ta tb
def bA (h:Hints):Code→Option aB
 | .skip=>some .skip
 | .region _ ops false=> (iA X h ops ops.toList).map fun l=> .region (l.map fun o=> {o with pre:=[]})
 | .region _ ops true=> (iA X h ops ops.toList).map .drawn
 | .seq a b=>match bA h a,bA h b with
   | some ta,some tb=>some (D4 h a b ta tb)
   | _,_=>none
 | .cond c a b=>match du X c,bA h a,bA h b with
   | some c,some a,some b=>some (.cond c a b)
   | _,_,_=>none
 | .block id b=> (bA h b).map (.block id)
 | .loop b=> (bA h b).map .loop
 | .exit id=>some (.exit id)
 | .ret=>some .ret
 | .scope b=> (bA h b).map .scope
 | .rangeFunc f ps a b=>match du X f,bA h a,bA h b with
   | some f,some a,some b=>if ps.toList.all (fun p=>Nat.blt p h.n)=true then some (.pf f ps.toList a b) else none
   | _,_,_=>none
 | .label _=>some .skip
 | _=>some .bad
def uq:ResultVar→Option sf
 | .tmp t=>some (.tmp t)
 | .cell a t=>match je X t,bT X t with
   | some g,some sz=>some (.cell a g sz)
   | _,_=>none
def jE:List ResultVar→Option (List sf)
 | []=>some []
 | r::rs=>match uq X r,jE rs with
   | some a,some as=>some (a::as)
   | _,_=>none
def aN (h:Hints) (f:Func):Option aU:=
 match f.body with
 | none=>none
 | some b=>match bA X {h with n:=f.ntmps,AY:=[],full:=[]} b,jE X f.results.toList with
   | some c,some rs=>some {nparams:=f.params.size+f.nfree,ntmps:=f.ntmps,yq:=h.yq,results:=rs,body:=c,tag:=h.tag}
   | _,_=>none
end Go.AM
namespace Go.AM
open Go Go.RowKit
structure Ctx extends TrEnv where
 RI:Nat→Prop
 tok:Nat×Nat
instance:CoeOut Ctx TrEnv:=⟨Ctx.toTrEnv⟩
structure Row where
 dQ:Nat
 base:Nat
 cap:Nat
structure Mu where
 w:World
 φ:Nat→Row
 O:Nat→Obj
def Mu.own (μ:Mu) (b:Nat):Prop:= ∃r,(μ.O r).es.isSome=true∧(μ.O r).fz=false∧(μ.φ r).cap≠0∧(μ.φ r).dQ=b
def Own (X:Ctx) (μ:Mu) (b:Nat):Prop:=μ.own b∨X.RI b
def fb (w:World) (b off sz:Nat) (vs:List Value):Prop:=
 ∀i v,vs[i]? =some v→v.cells.size=sz∧ ∀j c,v.cells[j]? =some c→w.cell? ⟨b,off+i*sz+j,none⟩=some c
def y0 (ents:Array MapEntry) (clock:Nat):Prop:=(∀e ∈ ents.toList,e.born<clock)∧(ents.toList.map (·.born)).Nodup
section
variable (X:Ctx) (μ:Mu)
mutual
def au:V→Value→Prop
 | .bool b,v=>v= .bool b
 | .int k n,v=>v= .int k n
 | .float b,v=>v= .float .f64 b
 | .str s,v=> ∃bs:ByteArray,v= .string bs∧bs.data.toList=s
 | .agg cs,v=>cs.all V.aV=true∧ ∃vs,v= .agg vs∧ak cs vs.toList
 | .tuple cs,v=> ∃vs,v= .tuple vs∧ak cs vs.toList
 | .nilp,v=>v= .pointer none
 | .nilfn,v=>v= .nilFunc
 | .nili,v=>v= .nilIface
 | .fn f caps,v=> ∃F cv,v= .func (.func F) #[] cv∧X.kh F=some f∧ak caps cv.toList
 | .bfn f caps,v=> ∃F cv,v= .func (.func F) cv #[]∧X.kh F=some f∧ak caps cv.toList
 | .iface t x,v=> ∃T y,v= .iface T y∧X.ku T=some t∧au x y
 | .nils,v=> ∃a,v= .slice a 0 0
 | .lit sz xs,v=>V.ae xs=true∧xs.all V.dX=true∧ ∃a cap vs,v= .slice a xs.length cap∧xs.length≤cap∧ak xs vs∧
    (xs=[]∨ ∃b o,a=some ⟨b,o,none⟩∧ ¬Own X μ b∧b<μ.w.heap.size∧fb μ.w b o sz vs)
 | .own ..,_=>False
 | .sl r g off len,v=> ∃a cap,v= .slice a len cap∧len≤cap∧g≤(μ.O r).gen∧
    ((μ.O r).gen=g→0 < (μ.O r).sz∧cap+off=(μ.φ r).cap∧(cap=0∨a=some ⟨(μ.φ r).dQ,(μ.φ r).base+off*(μ.O r).sz,none⟩))
 | .ptr r g idx off,v=> ∃a,v= .pointer (some a)∧g≤(μ.O r).gen∧
    ((μ.O r).gen=g→0 < (μ.O r).sz∧a=⟨(μ.φ r).dQ,(μ.φ r).base+idx*(μ.O r).sz+off,none⟩)
 | .eptr e off,v=>V.aj e=true∧V.dX e=true∧ ∃b o sz x,v= .pointer (some ⟨b,o+off,none⟩)∧ ¬Own X μ b∧b<μ.w.heap.size∧au e x∧fb μ.w b o sz [x]
 | .mp r g,v=> ∃a,v= .map (some a)∧g≤(μ.O r).gen∧((μ.O r).gen=g→(μ.O r).sz=0∧a=(μ.φ r).dQ)
 | .mlit es,v=>V.ae es=true∧(es=[]∧v= .map none∨ ∃a ents clock,v= .map (some a)∧ ¬Own X μ a∧a<μ.w.heap.size∧(μ.w.heap[a]? =some (.map ents clock)∧y0 ents clock)∧
    ak es (ents.toList.map fun e=> .tuple #[e.key,e.val]))
 | .it r g,v=> ∃a,v= .pointer (some ⟨a,0,none⟩)∧g≤(μ.O r).gen∧((μ.O r).gen=g→(μ.O r).sz=0∧a=(μ.φ r).dQ)
 | .litk sz xs,v=>V.ae xs=true∧xs.all V.dX=true∧ ∃a cap vs,v= .slice a xs.length cap∧xs.length≤cap∧ak xs vs∧
    (xs=[]∨a=some ⟨X.tok.1,X.tok.2,none⟩∧ ¬Own X μ X.tok.1∧X.tok.1 <μ.w.heap.size∧fb μ.w X.tok.1 X.tok.2 sz vs)
 | .epk i sz e off,v=>V.aj e=true∧V.dX e=true∧ ∃x,v= .pointer (some ⟨X.tok.1,X.tok.2+i*sz+off,none⟩)∧ ¬Own X μ X.tok.1∧X.tok.1 <μ.w.heap.size∧au e x∧fb μ.w X.tok.1 (X.tok.2+i*sz) sz [x]
 | .msl ..,_=>False
 | .mptr ..,_=>False
 | .any,_=>True
def ak:List V→List Value→Prop
 | [],[]=>True
 | x::xs,v::vs=>au x v∧ak xs vs
 | _,_=>False
end
end
theorem ak.length {X:Ctx} {μ:Mu}: ∀ {xs:List V} {vs:List Value},ak X μ xs vs→xs.length=vs.length
 | [],[],_=>rfl
 | [],_::_,h=>by simp[ak] at h
 | _::_,[],h=>by simp[ak] at h
 | _::_,_::_,h=>by simp only[ak] at h;simp[ak.length h.2]
theorem ak.get {X:Ctx} {μ:Mu}: ∀ {xs:List V} {vs:List Value},ak X μ xs vs→ ∀ {i:Nat} {x:V},xs[i]? =some x→ ∃v,vs[i]? =some v∧au X μ x v
 | [],_,_,i,x,hx=>by simp at hx
 | _::_,[],h,_,_,_=>by simp[ak] at h
 | y::ys,v::vs,h,i,x,hx=>by
   simp only[ak] at h
   cases i with
   | zero=>simp at hx;subst hx;exact⟨v,by simp,h.1⟩
   | succ i=>simp at hx;simpa using ak.get h.2 hx
theorem ak.y8 {X:Ctx} {μ:Mu}: ∀ {xs:List V} {vs:List Value},xs.length=vs.length→(∀ (i:Nat) (x:V) (v:Value),xs[i]? =some x→vs[i]? =some v→au X μ x v)→ak X μ xs vs
 | [],[],_,_=>by simp[ak]
 | [],_::_,h,_=>by simp at h
 | _::_,[],h,_=>by simp at h
 | x::xs,v::vs,h,hg=>by
   simp only[ak]
   exact⟨hg 0 x v (by simp) (by simp),ak.y8 (by simpa using h) fun i y u hy hu=>hg (i+1) y u (by simpa using hy) (by simpa using hu)⟩
theorem ak.append {X:Ctx} {μ:Mu}: ∀ {xs ys:List V} {vs us:List Value},ak X μ xs vs→ak X μ ys us→ak X μ (xs++ys) (vs++us)
 | [],_,[],_,_,h=>by simpa using h
 | [],_,_::_,_,h,_=>by simp[ak] at h
 | _::_,_,[],_,h,_=>by simp[ak] at h
 | x::xs,ys,v::vs,us,h,h'=>by
   simp only[ak] at h
   simp only[List.cons_append,ak]
   exact⟨h.1,ak.append h.2 h'⟩
theorem ak.take {X:Ctx} {μ:Mu}: ∀ {xs:List V} {vs:List Value} (n:Nat),ak X μ xs vs→ak X μ (xs.take n) (vs.take n)
 | _,_,0,_=>by simp[ak]
 | [],[],n+1,_=>by simp[ak]
 | [],_::_,n+1,h=>by simp[ak] at h
 | _::_,[],n+1,h=>by simp[ak] at h
 | x::xs,v::vs,n+1,h=>by
   simp only[ak] at h
   simp only[List.take_succ_cons,ak]
   exact⟨h.1,ak.take n h.2⟩
theorem ak.drop {X:Ctx} {μ:Mu}: ∀ {xs:List V} {vs:List Value} (n:Nat),ak X μ xs vs→ak X μ (xs.drop n) (vs.drop n)
 | _,_,0,h=>by simpa using h
 | [],[],n+1,_=>by simp[ak]
 | [],_::_,n+1,h=>by simp[ak] at h
 | _::_,[],n+1,h=>by simp[ak] at h
 | x::xs,v::vs,n+1,h=>by
   simp only[ak] at h
   simpa using ak.drop n h.2
theorem ak.set {X:Ctx} {μ:Mu} {xs:List V} {vs:List Value} (h:ak X μ xs vs) (i:Nat) {x:V} {v:Value} (hx:au X μ x v):ak X μ (xs.set i x) (vs.set i v):=by
 refine ak.y8 (by simpa using h.length) fun j y u hy hu=> ?_
 rw[List.getElem?_set] at hy hu
 split at hy
 · rename_i e
   subst e
   by_cases hl:i<xs.length
   · have LD:i<vs.length:=by rw[←h.length];exact hl
     simp[hl] at hy;simp[LD] at hu
     subst hy hu;exact hx
   · simp[hl] at hy
 · rename_i e
   simp[e] at hu
   obtain⟨u',Gf,hr⟩:=h.get hy
   rw[hu] at Gf;injection Gf with Gf;subst Gf;exact hr
structure Le (μ μ':Mu):Prop where
 size:μ.w.heap.size≤μ'.w.heap.size
 dq: ∀b,b<μ.w.heap.size→ ¬μ.own b→μ'.w.heap[b]? =μ.w.heap[b]? ∧ ¬μ'.own b
 gen: ∀r,(μ.O r).gen≤(μ'.O r).gen
 row: ∀r,(μ'.O r).gen=(μ.O r).gen→μ'.φ r=μ.φ r∧(μ'.O r).sz=(μ.O r).sz
 os:μ'.w.os=μ.w.os
 output:μ'.w.output=μ.w.output
 tape:μ'.w.tape=μ.w.tape
 frozen: ∀a:Addr,a.block<μ.w.heap.size→μ'.w.frozen? a=μ.w.frozen? a
theorem Le.refl (μ:Mu):Le μ μ:=
 ⟨Nat.le_refl _,fun _ _ h=> ⟨rfl,h⟩,fun _=>Nat.le_refl _,fun _ _=> ⟨rfl,rfl⟩,rfl,rfl,rfl,fun _ _=>rfl⟩
theorem Le.trans {a b c:Mu} (h:Le a b) (k:Le b c):Le a c where
 size:=Nat.le_trans h.size k.size
 dq:=fun i hi ho=>by
  obtain⟨h1,h2⟩:=h.dq i hi ho
  obtain⟨k1,k2⟩:=k.dq i (Nat.lt_of_lt_of_le hi h.size) h2
  exact⟨k1.trans h1,k2⟩
 gen:=fun r=>Nat.le_trans (h.gen r) (k.gen r)
 row:=fun r e=>by
  have h1:=h.gen r
  have k1:=k.gen r
  obtain⟨a1,a2⟩:=h.row r (by omega)
  obtain⟨b1,b2⟩:=k.row r (by omega)
  exact⟨b1.trans a1,b2.trans a2⟩
 os:=k.os.trans h.os
 output:=k.output.trans h.output
 tape:=k.tape.trans h.tape
 frozen:=fun x hx=> (k.frozen x (Nat.lt_of_lt_of_le hx h.size)).trans (h.frozen x hx)
theorem fb.dq {w w':World} {b off sz:Nat} {vs:List Value} (h:fb w b off sz vs) (e:w'.heap[b]? =w.heap[b]?):fb w' b off sz vs:=by
 intro i v hv
 obtain⟨h1,h2⟩:=h i v hv
 refine⟨h1,fun j c hc=> ?_⟩
 rw[←h2 j c hc]
 simp[World.cell?,e]
mutual
theorem au.mono {X:Ctx} {μ μ':Mu} (le:Le μ μ'): ∀ {x:V} {v:Value},au X μ x v→au X μ' x v
 | .bool _,_,h| .int ..,_,h| .float _,_,h| .str _,_,h| .nilp,_,h| .nilfn,_,h| .nili,_,h| .nils,_,h=>by simpa [au] using h
 | .any,_,_=>by simp[au]
 | .own ..,_,h| .msl ..,_,h| .mptr ..,_,h=>by simp[au] at h
 | .agg cs,_,h=>by
   simp only[au] at h ⊢
   obtain⟨h1,vs,rfl,h2⟩:=h
   exact⟨h1,vs,rfl,ak.mono le h2⟩
 | .tuple cs,_,h=>by
   simp only[au] at h ⊢
   obtain⟨vs,rfl,h2⟩:=h
   exact⟨vs,rfl,ak.mono le h2⟩
 | .bfn f cs,_,h=>by
   simp only[au] at h ⊢
   obtain⟨F,cv,rfl,h1,h2⟩:=h
   exact⟨F,cv,rfl,h1,ak.mono le h2⟩
 | .fn f cs,_,h=>by
   simp only[au] at h ⊢
   obtain⟨F,cv,rfl,h1,h2⟩:=h
   exact⟨F,cv,rfl,h1,ak.mono le h2⟩
 | .iface t x,_,h=>by
   simp only[au] at h ⊢
   obtain⟨T,y,rfl,h1,h2⟩:=h
   exact⟨T,y,rfl,h1,au.mono le h2⟩
 | .lit sz xs,_,h=>by
   simp only[au] at h ⊢
   obtain⟨h0,lY,a,cap,vs,rfl,h1,h2,h3⟩:=h
   refine⟨h0,lY,a,cap,vs,rfl,h1,ak.mono le h2,h3.imp id ?_⟩
   rintro⟨b,o,rfl,hb,hs,hr⟩
   obtain⟨k1,k2⟩:=le.dq b hs (fun h=>hb (.inl h))
   exact⟨b,o,rfl,(fun h=>h.elim k2 fun h=>hb (.inr h)),Nat.lt_of_lt_of_le hs le.size,hr.dq k1⟩
 | .sl r g off len,_,h=>by
   simp only[au] at h ⊢
   obtain⟨a,cap,rfl,h1,h2,h3⟩:=h
   have hg:=le.gen r
   refine⟨a,cap,rfl,h1,by omega,fun e=> ?_⟩
   obtain⟨e1,e2⟩:=le.row r (by omega)
   rw[e1,e2];exact h3 (by omega)
 | .ptr r g idx off,_,h=>by
   simp only[au] at h ⊢
   obtain⟨a,rfl,h2,h3⟩:=h
   have hg:=le.gen r
   refine⟨a,rfl,by omega,fun e=> ?_⟩
   obtain⟨e1,e2⟩:=le.row r (by omega)
   rw[e1,e2];exact h3 (by omega)
 | .eptr e off,_,h=>by
   simp only[au] at h ⊢
   obtain⟨h0,lY,b,o,sz,x,rfl,hb,hs,h1,hr⟩:=h
   obtain⟨k1,k2⟩:=le.dq b hs (fun h=>hb (.inl h))
   exact⟨h0,lY,b,o,sz,x,rfl,(fun h=>h.elim k2 fun h=>hb (.inr h)),Nat.lt_of_lt_of_le hs le.size,au.mono le h1,hr.dq k1⟩
 | .litk sz xs,_,h=>by
   simp only[au] at h ⊢
   obtain⟨h0,lY,a,cap,vs,rfl,h1,h2,h3⟩:=h
   refine⟨h0,lY,a,cap,vs,rfl,h1,ak.mono le h2,h3.imp id ?_⟩
   rintro⟨rfl,hb,hs,hr⟩
   obtain⟨k1,k2⟩:=le.dq _ hs (fun h=>hb (.inl h))
   exact⟨rfl,(fun h=>h.elim k2 fun h=>hb (.inr h)),Nat.lt_of_lt_of_le hs le.size,hr.dq k1⟩
 | .epk i sz e off,_,h=>by
   simp only[au] at h ⊢
   obtain⟨h0,lY,x,rfl,hb,hs,h1,hr⟩:=h
   obtain⟨k1,k2⟩:=le.dq _ hs (fun h=>hb (.inl h))
   exact⟨h0,lY,x,rfl,(fun h=>h.elim k2 fun h=>hb (.inr h)),Nat.lt_of_lt_of_le hs le.size,au.mono le h1,hr.dq k1⟩
 | .mp r g,_,h=>by
   simp only[au] at h ⊢
   obtain⟨a,rfl,h2,h3⟩:=h
   have hg:=le.gen r
   refine⟨a,rfl,by omega,fun e=> ?_⟩
   obtain⟨e1,e2⟩:=le.row r (by omega)
   rw[e1,e2];exact h3 (by omega)
 | .it r g,_,h=>by
   simp only[au] at h ⊢
   obtain⟨a,rfl,h2,h3⟩:=h
   have hg:=le.gen r
   refine⟨a,rfl,by omega,fun e=> ?_⟩
   obtain⟨e1,e2⟩:=le.row r (by omega)
   rw[e1,e2];exact h3 (by omega)
 | .mlit es,_,h=>by
   simp only[au] at h ⊢
   obtain⟨h0,h⟩:=h
   refine⟨h0,h.imp id ?_⟩
   rintro⟨a,ents,clock,rfl,hb,hs,h1,h2⟩
   obtain⟨k1,k2⟩:=le.dq a hs (fun h=>hb (.inl h))
   exact⟨a,ents,clock,rfl,(fun h=>h.elim k2 fun h=>hb (.inr h)),Nat.lt_of_lt_of_le hs le.size,by rw[k1];exact h1,ak.mono le h2⟩
theorem ak.mono {X:Ctx} {μ μ':Mu} (le:Le μ μ'): ∀ {xs:List V} {vs:List Value},ak X μ xs vs→ak X μ' xs vs
 | [],[],_=>by simp[ak]
 | [],_::_,h=>by simp[ak] at h
 | _::_,[],h=>by simp[ak] at h
 | x::xs,v::vs,h=>by
   simp only[ak] at h ⊢
   exact⟨au.mono le h.1,ak.mono le h.2⟩
end
def mq (X:Ctx) (μ:Mu) (r:Nat) (es:List V):Prop:=0 < (μ.O r).sz∧es.length≤(μ.φ r).cap∧es.all (aZ · (μ.O r).sz)=true∧
 ((μ.φ r).cap=0∨ ∃c T vs,μ.w.heap[(μ.φ r).dQ]? =some (.cells c T (0,0))∧(μ.φ r).base+(μ.φ r).cap*(μ.O r).sz≤c.size∧ak X μ es vs∧
   fb μ.w (μ.φ r).dQ (μ.φ r).base (μ.O r).sz vs)
def nY (X:Ctx) (μ:Mu) (ob:Go.Obj) (es:List V):Prop:=
 (∃ents clock,ob= .map ents clock∧ak X μ es (ents.toList.map fun e=> .tuple #[e.key,e.val])∧y0 ents clock)∨(∃ (s:ByteArray) (pos:Nat),ob= .stringIter s pos∧es=[.str s.data.toList,.int .i64 (pos:Int)])∨
 ∃mo since sW,ob= .mapIter mo since #[] since∧es=[.mlit sW]∧(mo=none∧sW=[]∨ ∃m ents,mo=some m∧ ¬Own X μ m∧m<μ.w.heap.size∧μ.w.heap[m]? =some (.map ents since)∧y0 ents since∧ak X μ sW (ents.toList.map fun e=> .tuple #[e.key,e.val]))
theorem nY.mono {X:Ctx} {μ μ':Mu} (le:Le μ μ') {ob:Go.Obj} {es:List V} (h:nY X μ ob es):nY X μ' ob es:=by
 rcases h with⟨ents,clock,h1,h2,h3⟩ | h| ⟨mo,since,sW,h1,h2,h3⟩
 · exact .inl ⟨ents,clock,h1,ak.mono le h2,h3⟩
 · exact .inr (.inl h)
 · refine .inr (.inr ⟨mo,since,sW,h1,h2,h3.imp id ?_⟩)
   rintro⟨m,ents,k1,k2,k3,k4,k5,k6⟩
   obtain⟨l1,l2⟩:=le.dq m k3 (fun h=>k2 (.inl h))
   exact⟨m,ents,k1,(fun h=>h.elim l2 fun h=>k2 (.inr h)),Nat.lt_of_lt_of_le k3 le.size,by rw[l1];exact k4,k5,ak.mono le k6⟩
theorem nY.live {X:Ctx} {μ:Mu} {ob:Go.Obj} {es:List V} (h:nY X μ ob es) (a:Addr) (w:World) (hw:w.heap[a.block]? =some ob):w.frozen? a=false:=by
 rcases h with⟨_,_,rfl,_⟩ | ⟨_,_,rfl,_⟩ | ⟨_,_,_,rfl,_⟩ <;>simp only[World.frozen?,hw]
def ur (X:Ctx) (μ:Mu) (r:Nat) (es:List V):Prop:=(μ.O r).sz=0∧(μ.φ r).cap≠0∧
 ∃ob,μ.w.heap[(μ.φ r).dQ]? =some ob∧nY X μ ob es
def gF (X:Ctx) (μ:Mu) (r:Nat):Prop:= ∀es,(μ.O r).es=some es→mq X μ r es∨ur X μ r es
def Inj (μ:Mu):Prop:= ∀r r',r≠r'→(μ.O r).es.isSome=true→(μ.O r').es.isSome=true→(μ.φ r).cap≠0→(μ.φ r').cap≠0→(μ.φ r).dQ≠(μ.φ r').dQ
structure bQ (X:Ctx) (μ:Mu):Prop where
 ok: ∀r,gF X μ r
 inj:Inj μ
 wL: ∀r,(μ.O r).es.isSome=true→(μ.φ r).cap≠0→ ¬X.RI (μ.φ r).dQ
 blt: ∀b,X.RI b→b<μ.w.heap.size
theorem bQ.row {X:Ctx} {μ:Mu} (ho:bQ X μ) (r:Nat) (es:List V) (bX: (μ.O r).es=some es) (h0:0 < (μ.O r).sz):mq X μ r es:=by
 rcases ho.ok r es bX with h| ⟨h,_⟩
 · exact h
 · omega
theorem bQ.map {X:Ctx} {μ:Mu} (ho:bQ X μ) (r:Nat) (es:List V) (bX: (μ.O r).es=some es) (h0: (μ.O r).sz=0):ur X μ r es:=by
 rcases ho.ok r es bX with⟨h,_⟩ | h
 · omega
 · exact h
theorem bQ.ents {X:Ctx} {μ:Mu} (ho:bQ X μ) (r:Nat) (es:List V) (bX: (μ.O r).es=some es) (h0: (μ.O r).sz=0): ((μ.φ r).cap≠0∧ ∃ents clock,μ.w.heap[(μ.φ r).dQ]? =some (.map ents clock)∧ak X μ es (ents.toList.map fun e=> .tuple #[e.key,e.val])∧y0 ents clock)∨
  ((μ.φ r).cap≠0∧ ∃ (s:ByteArray) (pos:Nat),μ.w.heap[(μ.φ r).dQ]? =some (.stringIter s pos)∧es=[.str s.data.toList,.int .i64 (pos:Int)])∨ ∃sW,es=[.mlit sW]:=by
 obtain⟨_,h2,ob,h3,h4⟩:=ho.map r es bX h0
 rcases h4 with⟨ents,clock,rfl,h⟩ | ⟨s,pos,rfl,h⟩ | ⟨_,_,sW,_,h,_⟩
 · exact .inl ⟨h2,ents,clock,h3,h⟩
 · exact .inr (.inl ⟨h2,s,pos,h3,h⟩)
 · exact .inr (.inr ⟨sW,h⟩)
theorem gF.dQ {X:Ctx} {μ:Mu} {r:Nat} {es:List V} (h:mq X μ r es∨ur X μ r es) (hc: (μ.φ r).cap≠0): (μ.φ r).dQ<μ.w.heap.size:=by
 rcases h with⟨_,_,_,h⟩ | ⟨_,_,ob,h,_⟩
 · rcases h with h| ⟨_,_,_,h,_⟩
   · exact absurd h hc
   · exact(Array.getElem?_eq_some_iff.1 h).1
 · exact(Array.getElem?_eq_some_iff.1 h).1
theorem gF.dq {X:Ctx} {μ μ':Mu} {r r':Nat} {es:List V} (le:Le μ μ') (h:mq X μ r es∨ur X μ r es) (cJ: (μ'.O r').sz=(μ.O r).sz) (hφ:μ'.φ r'=μ.φ r)
   (hb: (μ.φ r).cap≠0→μ'.w.heap[(μ.φ r).dQ]? =μ.w.heap[(μ.φ r).dQ]?):mq X μ' r' es∨ur X μ' r' es:=by
 rcases h with⟨h1,h2,h3,h4⟩ | ⟨h1,h2,ob,h3,h4⟩
 · left
   unfold mq
   rw[cJ,hφ]
   by_cases hc: (μ.φ r).cap=0
   · exact⟨h1,h2,h3,.inl hc⟩
   · rcases h4 with h4| ⟨c,T,vs,k1,k2,k3,k4⟩
     · exact absurd h4 hc
     · exact⟨h1,h2,h3,.inr ⟨c,T,vs,by rw[hb hc];exact k1,k2,ak.mono le k3,k4.dq (hb hc)⟩⟩
 · right
   unfold ur
   rw[cJ,hφ]
   exact⟨h1,h2,ob,by rw[hb h2];exact h3,h4.mono le⟩
structure Gg (w0:World) (PD:Nat→Prop) (μ:Mu):Prop where
 size:w0.heap.size≤μ.w.heap.size
 dq: ∀b,b<w0.heap.size→ ¬PD b→μ.w.heap[b]? =w0.heap[b]? ∧ ¬μ.own b
 os:μ.w.os=w0.os
 output:μ.w.output=w0.output
 tape:μ.w.tape=w0.tape
 frozen: ∀a:Addr,a.block<w0.heap.size→μ.w.frozen? a=w0.frozen? a
theorem Gg.step {w0:World} {PD:Nat→Prop} {μ μ':Mu} (h:Gg w0 PD μ) (k:Le μ μ'):Gg w0 PD μ' where
 size:=Nat.le_trans h.size k.size
 dq:=fun i hi ho=>by
  obtain⟨h1,h2⟩:=h.dq i hi ho
  obtain⟨k1,k2⟩:=k.dq i (Nat.lt_of_lt_of_le hi h.size) h2
  exact⟨k1.trans h1,k2⟩
 os:=k.os.trans h.os
 output:=k.output.trans h.output
 tape:=k.tape.trans h.tape
 frozen:=fun x hx=> (k.frozen x (Nat.lt_of_lt_of_le hx h.size)).trans (h.frozen x hx)
theorem au.nZ {X:Ctx} {μ:Mu} {x:V} {v:Value} (h:au X μ x v) (hc:x.aV=true):v.oneCell'=true∧v.cells= #[v]:=by
 cases x<;>simp[V.aV] at hc<;>simp only[au] at h
 case bool=>subst h;exact⟨rfl,rfl⟩
 case int=>subst h;exact⟨rfl,rfl⟩
 case float=>subst h;exact⟨rfl,rfl⟩
 case str=>obtain⟨_,rfl,_⟩:=h;exact⟨rfl,rfl⟩
 case nilp=>subst h;exact⟨rfl,rfl⟩
 case nilfn=>subst h;exact⟨rfl,rfl⟩
 case nili=>subst h;exact⟨rfl,rfl⟩
 case fn=>obtain⟨_,_,rfl,_⟩:=h;exact⟨rfl,rfl⟩
 case bfn=>obtain⟨_,_,rfl,_⟩:=h;exact⟨rfl,rfl⟩
 case iface=>obtain⟨_,_,rfl,_⟩:=h;exact⟨rfl,rfl⟩
 case nils=>obtain⟨_,rfl⟩:=h;exact⟨rfl,rfl⟩
 case lit=>obtain⟨_,_,_,_,_,rfl,_⟩:=h;exact⟨rfl,rfl⟩
 case sl=>obtain⟨_,_,rfl,_⟩:=h;exact⟨rfl,rfl⟩
 case ptr=>obtain⟨_,rfl,_⟩:=h;exact⟨rfl,rfl⟩
 case eptr=>obtain⟨_,_,_,_,_,_,rfl,_⟩:=h;exact⟨rfl,rfl⟩
 case litk=>obtain⟨_,_,_,_,_,rfl,_⟩:=h;exact⟨rfl,rfl⟩
 case epk=>obtain⟨_,_,_,rfl,_⟩:=h;exact⟨rfl,rfl⟩
 case mp=>obtain⟨_,rfl,_⟩:=h;exact⟨rfl,rfl⟩
 case it=>obtain⟨_,rfl,_⟩:=h;exact⟨rfl,rfl⟩
 case mlit=>obtain⟨_,⟨_,rfl⟩ | ⟨_,_,_,rfl,_⟩⟩:=h<;>exact⟨rfl,rfl⟩
theorem V.iB {x:V} (h:x.aV=true):x.cells=[x]:=by
 cases x<;>simp_all[V.aV,V.cells]
theorem au.cells {X:Ctx} {μ:Mu} {x:V} {v:Value} (h:au X μ x v) (hl:x.dX=true):ak X μ x.cells v.cells.toList:=by
 simp only[V.dX,Bool.or_eq_true] at hl
 rcases hl with hl| hl
 · cases x<;>simp[V.isAgg] at hl
   simp only[au] at h
   obtain⟨_,vs,rfl,h2⟩:=h
   exact h2
 · rw[(h.nZ hl).2,V.iB hl]
   simp[ak,h]
theorem au.ej {X:Ctx} {μ:Mu} {x:V} {v:Value} (h:au X μ x v) (hl:x.dX=true):v.cells.size=x.cells.length:=by
 have:=(h.cells hl).length
 simpa using this.symm
theorem au.uu {X:Ctx} {μ:Mu} {x:V} {v:Value} (h:au X μ x v) (hl:x.dX=true):x.cells.all V.aV=true:=by
 simp only[V.dX,Bool.or_eq_true] at hl
 rcases hl with hl| hl
 · cases x<;>simp[V.isAgg] at hl
   simp only[au] at h
   exact h.1
 · rw[V.iB hl];simp[hl]
end Go.AM
namespace Go.AM
open Go Go.RowKit
theorem aL {α:Type} (f:Nat→α) (t:Nat) (v:α):eI f t v t=v:=by simp[eI]
theorem bu {α:Type} (f:Nat→α) {t n:Nat} (v:α) (h:n≠t):eI f t v n=f n:=by simp[eI,h]
theorem fb.D5 {w:World} {b off sz:Nat} {vs:List Value} {c:Array Value} {T:TypeId} {fr:Nat×Nat} (hb:w.heap[b]? =some (.cells c T fr))
  (h: ∀i v,vs[i]? =some v→v.cells.size=sz∧ ∀j x,v.cells[j]? =some x→c[off+i*sz+j]? =some x):fb w b off sz vs:=by
 intro i v hv
 obtain⟨h1,h2⟩:=h i v hv
 refine⟨h1,fun j x hx=> ?_⟩
 simp[World.cell?,hb,h2 j x hx]
theorem fb.LF {w:World} {b off sz:Nat} {vs:List Value} {c:Array Value} {T:TypeId} {fr:Nat×Nat} (hb:w.heap[b]? =some (.cells c T fr))
  (h:fb w b off sz vs): ∀i v,vs[i]? =some v→v.cells.size=sz∧ ∀j x,v.cells[j]? =some x→c[off+i*sz+j]? =some x:=by
 intro i v hv
 obtain⟨h1,h2⟩:=h i v hv
 refine⟨h1,fun j x hx=> ?_⟩
 have:=h2 j x hx
 simpa [World.cell?,hb] using this
theorem D6 {μ:Mu} {r:Nat} {o:Obj} {w':World} (h:o.es.isSome=true→o.fz=false→(μ.O r).es.isSome=true∧(μ.O r).fz=false) {b:Nat}
   (hb: (⟨w',μ.φ,eI μ.O r o⟩:Mu).own b):μ.own b:=by
 obtain⟨r',h1,h2,h3,h4⟩:=hb
 by_cases e:r'=r
 · subst e
   simp only[aL] at h1 h2
   obtain⟨k1,k2⟩:=h h1 h2
   exact⟨r',k1,k2,h3,h4⟩
 · simp only[bu _ _ e] at h1 h2
   exact⟨r',h1,h2,h3,h4⟩
theorem bQ.y9 {X:Ctx} {μ μ':Mu} (ho:bQ X μ) (le:Le μ μ') (hO:μ'.O=μ.O) (hφ:μ'.φ=μ.φ)
  (hb: ∀b,b<μ.w.heap.size→μ'.w.heap[b]? =μ.w.heap[b]?):bQ X μ' where
 ok:=fun r es bX=>by
  rw[hO] at bX
  exact gF.dq le (ho.ok r es bX) (by rw[hO]) (by rw[hφ]) fun hc=>hb _ (gF.dQ (ho.ok r es bX) hc)
 inj:=by unfold Inj;rw[hO,hφ];exact ho.inj
 wL:=by rw[hO,hφ];exact ho.wL
 blt:=fun b hb=>Nat.lt_of_lt_of_le (ho.blt b hb) le.size
theorem Le.drew {X:Ctx} {μ:Mu} (ho:bQ X μ):Le μ ⟨μ.w.drew,μ.φ,μ.O⟩∧bQ X ⟨μ.w.drew,μ.φ,μ.O⟩:=by
 have le:Le μ ⟨μ.w.drew,μ.φ,μ.O⟩:=
  ⟨Nat.le_refl _,fun _ _ h=> ⟨rfl,h⟩,fun _=>Nat.le_refl _,fun _ _=> ⟨rfl,rfl⟩,rfl,rfl,rfl,fun _ _=>rfl⟩
 exact⟨le,ho.y9 le rfl rfl fun _ _=>rfl⟩
theorem Cv {X:Ctx} {μ:Mu} (ho:bQ X μ) (r sz cap:Nat) (arr:Bool) {es:List V} {vs:List Value} {c:Array Value} (T:TypeId) (cJ:0 <sz)
   (eb:es.length≤cap) (oL:es.all (aZ · sz)=true) (cK:ak X μ es vs) (hc:cap*sz≤c.size)
   (iY: ∀i v,vs[i]? =some v→v.cells.size=sz∧ ∀j x,v.cells[j]? =some x→c[i*sz+j]? =some x):
   let μ':Mu:=⟨μ.w.alloc (.cells c T (0,0)),eI μ.φ r ⟨μ.w.heap.size,0,cap⟩,eI μ.O r {gen:=(μ.O r).gen+1,sz:=sz,arr:=arr,fz:=false,es:=some es}⟩
   Le μ μ'∧bQ X μ':=by
 intro μ'
 have ki: ∀b,b<μ.w.heap.size→μ'.w.heap[b]? =μ.w.heap[b]? :=fun b hb=>heap_alloc_old _ _ _ hb
 have D7:μ'.w.heap.size=μ.w.heap.size+1:=Array.size_push _
 have sy:μ'.w.heap[μ.w.heap.size]? =some (.cells c T (0,0)):=heap_alloc_new _ _
 have le:Le μ μ':=by
   refine⟨by omega,fun b hb eP=> ⟨ki b hb,?_⟩,fun r'=> ?_,fun r' e=> ?_,rfl,rfl,rfl,fun a ha=> ?_⟩
   · rintro⟨r',h1,h2,h3,h4⟩
     by_cases e:r'=r
     · subst e
       simp only[μ',aL] at h4
       omega
     · simp only[μ',bu _ _ e] at h1 h2 h3 h4
       exact eP ⟨r',h1,h2,h3,h4⟩
   · by_cases e:r'=r
     · subst e;simp[μ',aL]
     · simp[μ',bu _ _ e]
   · by_cases e':r'=r
     · subst e';simp[μ',aL] at e
     · simp[μ',bu _ _ e']
   · simp only[World.frozen?,ki a.block ha]
 refine⟨le,fun r' es' gU=> ?_,fun r1 r2 cu h1 h2 h3 h4=> ?_,fun r' h1 h2 hb=> ?_,fun b hb=>Nat.lt_of_lt_of_le (ho.blt b hb) le.size⟩
 rotate_left 2
 · by_cases e:r'=r
   · subst e
     simp only[μ',aL] at hb
     have:=ho.blt _ hb
     omega
   · simp only[μ',bu _ _ e] at h1 h2 hb
     exact ho.wL r' h1 h2 hb
 · by_cases e:r'=r
   · subst e
     simp only[μ',aL] at gU ⊢
     injection gU with gU
     subst gU
     refine .inl ?_
     unfold mq
     simp only[μ',aL]
     refine⟨cJ,eb,oL,.inr ⟨c,T,vs,sy,by simpa using hc,ak.mono le cK,fb.D5 sy ?_⟩⟩
     simpa using iY
   · have hO:μ'.O r'=μ.O r':=by simp[μ',bu _ _ e]
     have hφ:μ'.φ r'=μ.φ r':=by simp[μ',bu _ _ e]
     rw[hO] at gU
     exact gF.dq le (ho.ok r' es' gU) (by rw[hO]) hφ fun hc=>ki _ (gF.dQ (ho.ok r' es' gU) hc)
 · have hold: ∀r',r'≠r→(μ.O r').es.isSome=true→(μ.φ r').cap≠0→(μ.φ r').dQ<μ.w.heap.size:=fun r' _ hs C9=>by
     obtain⟨es',he⟩:=Option.isSome_iff_exists.1 hs
     exact gF.dQ (ho.ok r' es' he) C9
   by_cases e1:r1=r
   · subst e1
     have e2:r2≠r1:=fun e=>cu e.symm
     simp only[μ',aL,bu _ _ e2] at h1 h2 h3 h4 ⊢
     have:=hold r2 e2 h2 h4
     omega
   · by_cases e2:r2=r
     · subst e2
       simp only[μ',aL,bu _ _ e1] at h1 h2 h3 h4 ⊢
       have:=hold r1 e1 h1 h3
       omega
     · simp only[μ',bu _ _ e1,bu _ _ e2] at h1 h2 h3 h4 ⊢
       exact ho.inj r1 r2 cu h1 h2 h3 h4
theorem Jp {X:Ctx} {μ:Mu} (ho:bQ X μ) (r sz:Nat) (cJ:0 <sz):
   let μ':Mu:=⟨μ.w,eI μ.φ r ⟨0,0,0⟩,eI μ.O r {gen:=(μ.O r).gen+1,sz:=sz,arr:=true,fz:=false,es:=some []}⟩
   Le μ μ'∧bQ X μ':=by
 intro μ'
 have le:Le μ μ':=by
   refine⟨Nat.le_refl _,fun b hb eP=> ⟨rfl,?_⟩,fun r'=> ?_,fun r' e=> ?_,rfl,rfl,rfl,fun _ _=>rfl⟩
   · rintro⟨r',h1,h2,h3,h4⟩
     by_cases e:r'=r
     · subst e
       simp only[μ',aL] at h3
       exact h3 rfl
     · simp only[μ',bu _ _ e] at h1 h2 h3 h4
       exact eP ⟨r',h1,h2,h3,h4⟩
   · by_cases e:r'=r
     · subst e;simp[μ',aL]
     · simp[μ',bu _ _ e]
   · by_cases e':r'=r
     · subst e';simp[μ',aL] at e
     · simp[μ',bu _ _ e']
 refine⟨le,fun r' es' gU=> ?_,fun r1 r2 cu h1 h2 h3 h4=> ?_,fun r' h1 h2 hb=> ?_,ho.blt⟩
 · by_cases e:r'=r
   · subst e
     simp only[μ',aL] at gU
     injection gU with gU
     subst gU
     refine .inl ?_
     unfold mq
     simp only[μ',aL]
     exact⟨cJ,Nat.le_refl _,rfl,.inl (by simp)⟩
   · have hO:μ'.O r'=μ.O r':=by simp[μ',bu _ _ e]
     have hφ:μ'.φ r'=μ.φ r':=by simp[μ',bu _ _ e]
     rw[hO] at gU
     exact gF.dq le (ho.ok r' es' gU) (by rw[hO]) hφ fun _=>rfl
 · have e1:r1≠r:=by
     intro e;subst e
     simp only[μ',aL] at h3
     exact h3 rfl
   have e2:r2≠r:=by
     intro e;subst e
     simp only[μ',aL] at h4
     exact h4 rfl
   simp only[μ',bu _ _ e1,bu _ _ e2] at h1 h2 h3 h4 ⊢
   exact ho.inj r1 r2 cu h1 h2 h3 h4
 · have e:r'≠r:=by
     intro e;subst e
     simp only[μ',aL] at h2
     exact h2 rfl
   simp only[μ',bu _ _ e] at h1 h2 hb
   exact ho.wL r' h1 h2 hb
theorem PE {X:Ctx} {μ:Mu} (ho:bQ X μ) {r r1:Nat} (cu:r1≠r):
   let μ':Mu:=⟨μ.w,eI μ.φ r (μ.φ r1),eI (eI μ.O r ⟨(μ.O r).gen+1,(μ.O r1).sz,(μ.O r1).arr,(μ.O r1).fz,(μ.O r1).es⟩) r1 ⟨(μ.O r1).gen+1,(μ.O r1).sz,(μ.O r1).arr,(μ.O r1).fz,none⟩⟩
   Le μ μ'∧bQ X μ':=by
 intro μ'
 have za:r≠r1:=Ne.symm cu
 have W3:μ'.O r1=⟨(μ.O r1).gen+1,(μ.O r1).sz,(μ.O r1).arr,(μ.O r1).fz,none⟩:=by simp[μ',aL]
 have hOr:μ'.O r=⟨(μ.O r).gen+1,(μ.O r1).sz,(μ.O r1).arr,(μ.O r1).fz,(μ.O r1).es⟩:=by simp[μ',bu _ _ za,aL]
 have hφr:μ'.φ r=μ.φ r1:=by simp[μ',aL]
 have hO: ∀r',r'≠r→r'≠r1→μ'.O r'=μ.O r':=fun r' h1 h2=>by simp[μ',bu _ _ h1,bu _ _ h2]
 have hφ: ∀r',r'≠r→μ'.φ r'=μ.φ r':=fun r' h1=>by simp[μ',bu _ _ h1]
 have gS: ∀b,μ'.own b→μ.own b:=by
   rintro b ⟨r',h1,h2,h3,h4⟩
   by_cases e1:r'=r1
   · subst e1;rw[W3] at h1;simp at h1
   · by_cases e:r'=r
     · subst e
       rw[hOr] at h1 h2
       rw[hφr] at h3 h4
       exact⟨r1,h1,h2,h3,h4⟩
     · rw[hO _ e e1] at h1 h2
       rw[hφ _ e] at h3 h4
       exact⟨r',h1,h2,h3,h4⟩
 have le:Le μ μ':=by
   refine⟨Nat.le_refl _,fun b hb eP=> ⟨rfl,fun h=>eP (gS b h)⟩,fun r'=> ?_,fun r' e=> ?_,rfl,rfl,rfl,fun _ _=>rfl⟩
   · by_cases e1:r'=r1
     · subst e1;rw[W3];simp
     · by_cases e:r'=r
       · subst e;rw[hOr];simp
       · rw[hO _ e e1];exact Nat.le_refl _
   · by_cases e1:r'=r1
     · subst e1;rw[W3] at e;simp at e
     · by_cases e2:r'=r
       · subst e2;rw[hOr] at e;simp at e
       · rw[hO _ e2 e1,hφ _ e2];exact⟨rfl,rfl⟩
 refine⟨le,fun r' es' gU=> ?_,fun r2 r3 ab5 h1 h2 h3 h4=> ?_,fun r' h1 h2 hb=> ?_,ho.blt⟩
 · by_cases e1:r'=r1
   · subst e1;rw[W3] at gU;simp at gU
   · by_cases e:r'=r
     · subst e
       rw[hOr] at gU
       exact gF.dq (r:=r1) le (ho.ok r1 es' gU) (by rw[hOr]) hφr fun _=>rfl
     · rw[hO _ e e1] at gU
       exact gF.dq le (ho.ok r' es' gU) (by rw[hO _ e e1]) (hφ _ e) fun _=>rfl
 · have ne1:r2≠r1:=by intro e;subst e;rw[W3] at h1;simp at h1
   have ne2:r3≠r1:=by intro e;subst e;rw[W3] at h2;simp at h2
   by_cases e2:r2=r
   · subst e2
     have e3:r3≠r2:=Ne.symm ab5
     rw[hOr] at h1
     rw[hO _ e3 ne2] at h2
     rw[hφr] at h3 ⊢
     rw[hφ _ e3] at h4 ⊢
     exact ho.inj r1 r3 (Ne.symm ne2) h1 h2 h3 h4
   · rw[hO _ e2 ne1] at h1
     rw[hφ _ e2] at h3 ⊢
     by_cases e3:r3=r
     · subst e3
       rw[hOr] at h2
       rw[hφr] at h4 ⊢
       exact ho.inj r2 r1 ne1 h1 h2 h3 h4
     · rw[hO _ e3 ne2] at h2
       rw[hφ _ e3] at h4 ⊢
       exact ho.inj r2 r3 ab5 h1 h2 h3 h4
 · have ne1:r'≠r1:=by intro e;subst e;rw[W3] at h1;simp at h1
   by_cases e:r'=r
   · subst e
     rw[hOr] at h1
     rw[hφr] at h2 hb
     exact ho.wL r1 h1 h2 hb
   · rw[hO _ e ne1] at h1
     rw[hφ _ e] at h2 hb
     exact ho.wL r' h1 h2 hb
theorem nh {X:Ctx} {μ:Mu} (ho:bQ X μ) (r:Nat) {es:List V} {c:Array Value} {T:TypeId} (bX: (μ.O r).es=some es) (jn: (μ.O r).fz=false)
   (hb:μ.w.heap[(μ.φ r).dQ]? =some (.cells c T (0,0))) (kQ: (μ.φ r).cap≠0)
   {c':Array Value} (hc:c'.size=c.size) (W4 HM Jq:Nat) {es':List V} {vs':List Value}
   (hg: (W4=(μ.O r).gen∧HM=(μ.φ r).base∧Jq=(μ.φ r).cap)∨(μ.O r).gen<W4) (agx:Jq≠0)
   (hlen:es'.length≤Jq) (oL:es'.all (aZ · (μ.O r).sz)=true) (cK:ak X μ es' vs') (rL:HM+Jq*(μ.O r).sz≤c.size)
   (iY: ∀i v,vs'[i]? =some v→v.cells.size=(μ.O r).sz∧ ∀j x,v.cells[j]? =some x→c'[HM+i*(μ.O r).sz+j]? =some x):
   let μ':Mu:=⟨μ.w.setRow (μ.φ r).dQ c',eI μ.φ r ⟨(μ.φ r).dQ,HM,Jq⟩,eI μ.O r {μ.O r with gen:=W4,es:=some es'}⟩
   Le μ μ'∧bQ X μ':=by
 intro μ'
 have sy:μ'.w.heap[(μ.φ r).dQ]? =some (.cells c' T (0,0)):=setRow_heap _ _ _ _ _ _ hb
 have sA: ∀b,b≠(μ.φ r).dQ→μ'.w.heap[b]? =μ.w.heap[b]? :=fun b cu=>setRow_other _ _ _ _ cu
 have D7:μ'.w.heap.size=μ.w.heap.size:=by simp[μ',World.setRow]
 have bY: (μ.φ r).dQ<μ.w.heap.size:=(Array.getElem?_eq_some_iff.1 hb).1
 have gS:μ.own (μ.φ r).dQ:=⟨r,by simp[bX],jn,kQ,rfl⟩
 have le:Le μ μ':=by
   refine⟨by omega,fun b wM eP=> ⟨sA b (fun e=>eP (e ▸ gS)),?_⟩,fun r'=> ?_,fun r' e=> ?_,rfl,rfl,rfl,fun a ha=> ?_⟩
   · rintro⟨r',h1,h2,h3,h4⟩
     by_cases e:r'=r
     · subst e
       simp only[μ',aL] at h4
       exact eP (h4 ▸ gS)
     · simp only[μ',bu _ _ e] at h1 h2 h3 h4
       exact eP ⟨r',h1,h2,h3,h4⟩
   · by_cases e:r'=r
     · subst e;simp only[μ',aL];omega
     · simp[μ',bu _ _ e]
   · by_cases e':r'=r
     · subst e'
       simp only[μ',aL] at e ⊢
       rcases hg with⟨_,g2,g3⟩ | hg
       · subst g2;subst g3;exact⟨rfl,trivial⟩
       · omega
     · simp[μ',bu _ _ e']
   · by_cases e:a.block=(μ.φ r).dQ
     · simp only[World.frozen?,e,sy,hb]
     · simp only[World.frozen?,sA _ e]
 refine⟨le,fun r' es2 sB=> ?_,fun r1 r2 cu h1 h2 h3 h4=> ?_,fun r' h1 h2 hb=> ?_,fun b hb=>Nat.lt_of_lt_of_le (ho.blt b hb) le.size⟩
 rotate_left 2
 · by_cases e:r'=r
   · subst e
     simp only[μ',aL] at hb
     exact ho.wL r' (by simp[bX]) kQ hb
   · simp only[μ',bu _ _ e] at h1 h2 hb
     exact ho.wL r' h1 h2 hb
 · by_cases e:r'=r
   · subst e
     have cJ:0 < (μ.O r').sz:=by
       rcases ho.ok r' es bX with⟨h,_⟩ | ⟨_,_,ob,hm,Kf⟩
       · exact h
       · rw[hb] at hm;injection hm with hm;subst hm
         rcases Kf with⟨_,_,h,_⟩ | ⟨_,_,h,_⟩ | ⟨_,_,_,h,_⟩ <;>cases h
     simp only[μ',aL] at sB
     injection sB with sB
     subst sB
     refine .inl ?_
     unfold mq
     simp only[μ',aL]
     exact⟨cJ,hlen,oL,.inr ⟨c',T,vs',sy,by omega,ak.mono le cK,fb.D5 sy iY⟩⟩
   · have hO:μ'.O r'=μ.O r':=by simp[μ',bu _ _ e]
     have hφ:μ'.φ r'=μ.φ r':=by simp[μ',bu _ _ e]
     rw[hO] at sB
     exact gF.dq le (ho.ok r' es2 sB) (by rw[hO]) hφ fun hcr=>sA _ (ho.inj r' r e (by simp[sB]) (by simp[bX]) hcr kQ)
 · have hs: ∀x,(μ'.O x).es.isSome=true→(μ.O x).es.isSome=true:=fun x hx=>by
     by_cases e:x=r
     · subst e;simp[bX]
     · simpa [μ',bu _ _ e] using hx
   have oZ: ∀x,(μ'.φ x).cap≠0→(μ.φ x).cap≠0:=fun x hx=>by
     by_cases e:x=r
     · subst e;exact kQ
     · simpa [μ',bu _ _ e] using hx
   have LG: ∀x,(μ'.φ x).dQ=(μ.φ x).dQ:=fun x=>by
     by_cases e:x=r
     · subst e;simp[μ',aL]
     · simp[μ',bu _ _ e]
   rw[LG,LG]
   exact ho.inj r1 r2 cu (hs _ h1) (hs _ h2) (oZ _ h3) (oZ _ h4)
theorem sC {X:Ctx} {μ:Mu} (ho:bQ X μ) (r:Nat):
   let μ':Mu:=⟨μ.w,μ.φ,eI μ.O r {μ.O r with fz:=true}⟩
   Le μ μ'∧bQ X μ':=by
 intro μ'
 have cW: ∀x,(μ'.O x).gen=(μ.O x).gen∧(μ'.O x).sz=(μ.O x).sz∧(μ'.O x).es=(μ.O x).es:=fun x=>by
   by_cases e:x=r
   · subst e;simp[μ',aL]
   · simp[μ',bu _ _ e]
 have le:Le μ μ':=
   ⟨Nat.le_refl _,fun b hb h=> ⟨rfl,fun wM=>h (D6 (r:=r) (w':=μ.w) (by simp) wM)⟩,fun x=>by rw[(cW x).1];exact Nat.le_refl _,fun x _=> ⟨rfl,(cW x).2.1⟩,rfl,rfl,rfl,fun _ _=>rfl⟩
 refine⟨le,fun x es bX=> ?_,fun r1 r2 cu h1 h2 h3 h4=> ?_,fun x h1 h2 hb=>ho.wL x (by rw[(cW x).2.2] at h1;exact h1) h2 hb,ho.blt⟩
 · rw[(cW x).2.2] at bX
   exact gF.dq le (ho.ok x es bX) (cW x).2.1 rfl fun _=>rfl
 · rw[(cW r1).2.2] at h1
   rw[(cW r2).2.2] at h2
   exact ho.inj r1 r2 cu h1 h2 h3 h4
theorem Jr {X:Ctx} {μ:Mu} (ho:bQ X μ) (r:Nat) {es':List V} (h0: (μ.O r).es.isSome=true) (cJ:0 < (μ.O r).sz) (hl:es'.length≤(μ.φ r).cap) (oL:es'.all (aZ · (μ.O r).sz)=true)
   (hc: (μ.φ r).cap=0∨ ∃c T vs,μ.w.heap[(μ.φ r).dQ]? =some (.cells c T (0,0))∧(μ.φ r).base+(μ.φ r).cap*(μ.O r).sz≤c.size∧ak X μ es' vs∧
     fb μ.w (μ.φ r).dQ (μ.φ r).base (μ.O r).sz vs):
   let μ':Mu:=⟨μ.w,μ.φ,eI μ.O r {μ.O r with es:=some es'}⟩
   Le μ μ'∧bQ X μ':=by
 intro μ'
 have cW: ∀x,(μ'.O x).gen=(μ.O x).gen∧(μ'.O x).sz=(μ.O x).sz∧(μ'.O x).es.isSome=(μ.O x).es.isSome∧(μ'.O x).fz=(μ.O x).fz:=fun x=>by
   by_cases e:x=r
   · subst e;simp[μ',aL,h0]
   · simp[μ',bu _ _ e]
 have gS: ∀b,μ'.own b→μ.own b:=by
   rintro b ⟨r',h1,h2,h3,h4⟩
   rw[(cW r').2.2.1] at h1
   rw[(cW r').2.2.2] at h2
   exact⟨r',h1,h2,h3,h4⟩
 have le:Le μ μ':=
   ⟨Nat.le_refl _,fun b hb h=> ⟨rfl,fun wM=>h (gS b wM)⟩,fun x=>by rw[(cW x).1];exact Nat.le_refl _,fun x _=> ⟨rfl,(cW x).2.1⟩,rfl,rfl,rfl,fun _ _=>rfl⟩
 refine⟨le,fun x es bX=> ?_,fun r1 r2 cu h1 h2 h3 h4=> ?_,fun x h1 h2 hb=>ho.wL x (by rw[(cW x).2.2.1] at h1;exact h1) h2 hb,ho.blt⟩
 · by_cases e:x=r
   · subst e
     have:es=es':=by simp[μ',aL] at bX;exact bX.symm
     subst this
     refine .inl ?_
     unfold mq
     rw[(cW x).2.1]
     refine⟨cJ,hl,oL,hc.imp id ?_⟩
     rintro⟨c,T,vs,q1,q2,q3,q4⟩
     exact⟨c,T,vs,q1,q2,ak.mono le q3,q4⟩
   · have hx:μ'.O x=μ.O x:=by simp[μ',bu _ _ e]
     rw[hx] at bX
     exact gF.dq le (ho.ok x es bX) (by rw[hx]) rfl fun _=>rfl
 · rw[(cW r1).2.2.1] at h1
   rw[(cW r2).2.2.1] at h2
   exact ho.inj r1 r2 cu h1 h2 h3 h4
theorem uv {X:Ctx} {μ:Mu} (ho:bQ X μ) (r:Nat) (ob:Go.Obj) (es:List V) (Kf:nY X μ ob es):
   let μ':Mu:=⟨μ.w.alloc ob,eI μ.φ r ⟨μ.w.heap.size,0,1⟩,eI μ.O r {gen:=(μ.O r).gen+1,sz:=0,arr:=false,fz:=false,es:=some es}⟩
   Le μ μ'∧bQ X μ':=by
 intro μ'
 have ki: ∀b,b<μ.w.heap.size→μ'.w.heap[b]? =μ.w.heap[b]? :=fun b hb=>heap_alloc_old _ _ _ hb
 have D7:μ'.w.heap.size=μ.w.heap.size+1:=Array.size_push _
 have sy:μ'.w.heap[μ.w.heap.size]? =some ob:=heap_alloc_new _ _
 have le:Le μ μ':=by
   refine⟨by omega,fun b hb eP=> ⟨ki b hb,?_⟩,fun r'=> ?_,fun r' e=> ?_,rfl,rfl,rfl,fun a ha=> ?_⟩
   · rintro⟨r',h1,h2,h3,h4⟩
     by_cases e:r'=r
     · subst e
       simp only[μ',aL] at h4
       omega
     · simp only[μ',bu _ _ e] at h1 h2 h3 h4
       exact eP ⟨r',h1,h2,h3,h4⟩
   · by_cases e:r'=r
     · subst e;simp[μ',aL]
     · simp[μ',bu _ _ e]
   · by_cases e':r'=r
     · subst e';simp[μ',aL] at e
     · simp[μ',bu _ _ e']
   · simp only[World.frozen?,ki a.block ha]
 refine⟨le,fun r' es' gU=> ?_,fun r1 r2 cu h1 h2 h3 h4=> ?_,fun r' h1 h2 hb=> ?_,fun b hb=>Nat.lt_of_lt_of_le (ho.blt b hb) le.size⟩
 rotate_left 2
 · by_cases e:r'=r
   · subst e
     simp only[μ',aL] at hb
     have:=ho.blt _ hb
     omega
   · simp only[μ',bu _ _ e] at h1 h2 hb
     exact ho.wL r' h1 h2 hb
 · by_cases e:r'=r
   · subst e
     simp only[μ',aL] at gU
     injection gU with gU
     subst gU
     refine .inr ?_
     unfold ur
     simp only[μ',aL]
     exact⟨trivial,by simp,ob,sy,Kf.mono le⟩
   · have hO:μ'.O r'=μ.O r':=by simp[μ',bu _ _ e]
     have hφ:μ'.φ r'=μ.φ r':=by simp[μ',bu _ _ e]
     rw[hO] at gU
     exact gF.dq le (ho.ok r' es' gU) (by rw[hO]) hφ fun hc=>ki _ (gF.dQ (ho.ok r' es' gU) hc)
 · have hold: ∀r',r'≠r→(μ.O r').es.isSome=true→(μ.φ r').cap≠0→(μ.φ r').dQ<μ.w.heap.size:=fun r' _ hs C9=>by
     obtain⟨es',he⟩:=Option.isSome_iff_exists.1 hs
     exact gF.dQ (ho.ok r' es' he) C9
   by_cases e1:r1=r
   · subst e1
     have e2:r2≠r1:=fun e=>cu e.symm
     simp only[μ',aL,bu _ _ e2] at h1 h2 h3 h4 ⊢
     have:=hold r2 e2 h2 h4
     omega
   · by_cases e2:r2=r
     · subst e2
       simp only[μ',aL,bu _ _ e1] at h1 h2 h3 h4 ⊢
       have:=hold r1 e1 h1 h3
       omega
     · simp only[μ',bu _ _ e1,bu _ _ e2] at h1 h2 h3 h4 ⊢
       exact ho.inj r1 r2 cu h1 h2 h3 h4
theorem sD {X:Ctx} {μ:Mu} (ho:bQ X μ) (r:Nat) {es es':List V} {ob ob':Go.Obj} (bX: (μ.O r).es=some es) (jn: (μ.O r).fz=false) (cJ: (μ.O r).sz=0)
   (hb:μ.w.heap[(μ.φ r).dQ]? =some ob) (kQ: (μ.φ r).cap≠0) (Kf:nY X μ ob es) (ab6:nY X μ ob' es'):
   let μ':Mu:=⟨{μ.w with heap:=μ.w.heap.set! (μ.φ r).dQ ob'},μ.φ,eI μ.O r {μ.O r with es:=some es'}⟩
   Le μ μ'∧bQ X μ':=by
 intro μ'
 have bY: (μ.φ r).dQ<μ.w.heap.size:=(Array.getElem?_eq_some_iff.1 hb).1
 have sy:μ'.w.heap[(μ.φ r).dQ]? =some ob':=by simp[μ',Array.getElem?_setIfInBounds,bY]
 have sA: ∀b,b≠(μ.φ r).dQ→μ'.w.heap[b]? =μ.w.heap[b]? :=fun b cu=>by simp[μ',Array.getElem?_setIfInBounds,Ne.symm cu]
 have D7:μ'.w.heap.size=μ.w.heap.size:=by simp[μ']
 have gS:μ.own (μ.φ r).dQ:=⟨r,by simp[bX],jn,kQ,rfl⟩
 have wN: ∀x,(μ'.O x).gen=(μ.O x).gen∧(μ'.O x).sz=(μ.O x).sz∧(μ'.O x).fz=(μ.O x).fz∧(μ'.O x).es.isSome=(μ.O x).es.isSome:=fun x=>by
   by_cases e:x=r
   · subst e;simp[μ',aL,bX]
   · simp[μ',bu _ _ e]
 have W5: ∀b,μ'.own b→μ.own b:=by
   rintro b ⟨r',h1,h2,h3,h4⟩
   rw[(wN r').2.2.2] at h1
   rw[(wN r').2.2.1] at h2
   exact⟨r',h1,h2,h3,h4⟩
 have le:Le μ μ':=by
   refine⟨by omega,fun b wM eP=> ⟨sA b (fun e=>eP (e ▸ gS)),fun h=>eP (W5 b h)⟩,fun r'=>by rw[(wN r').1];exact Nat.le_refl _,fun r' _=> ⟨rfl,(wN r').2.1⟩,rfl,rfl,rfl,fun a ha=> ?_⟩
   by_cases e:a.block=(μ.φ r).dQ
   · rw[ab6.live a μ'.w (by rw[e];exact sy),Kf.live a μ.w (by rw[e];exact hb)]
   · simp only[World.frozen?,sA _ e]
 refine⟨le,fun r' es2 sB=> ?_,fun r1 r2 cu h1 h2 h3 h4=> ?_,fun r' h1 h2 hb=> ?_,fun b hb=>Nat.lt_of_lt_of_le (ho.blt b hb) le.size⟩
 · by_cases e:r'=r
   · subst e
     simp only[μ',aL] at sB
     injection sB with sB
     subst sB
     refine .inr ?_
     unfold ur
     rw[(wN r').2.1]
     exact⟨cJ,kQ,ob',sy,ab6.mono le⟩
   · have hO:μ'.O r'=μ.O r':=by simp[μ',bu _ _ e]
     rw[hO] at sB
     exact gF.dq le (ho.ok r' es2 sB) (by rw[hO]) rfl fun hcr=>sA _ (ho.inj r' r e (by simp[sB]) (by simp[bX]) hcr kQ)
 · rw[(wN r1).2.2.2] at h1
   rw[(wN r2).2.2.2] at h2
   exact ho.inj r1 r2 cu h1 h2 h3 h4
 · rw[(wN r').2.2.2] at h1
   exact ho.wL r' h1 h2 hb
end Go.AM
namespace Go.AM
open Go Go.RowKit
structure Rel (X:Ctx) (T:Nat→V) (a:Go.Act) (μ:Mu):Prop where
 tmps: ∀t,au X μ (T t) (a.tmps.getD t undef)
 bB:bQ X μ
def de (X:Ctx) (o:Oper) (a:Go.Act) (μ:Mu) (O':Nat→Obj) (v:V):Prop:=
 ∃val w' φ',((execOp a.eval o).run X.P μ.w= .ok (.value val) w'∨((execOp a.eval o).run X.P μ.w= .ok .skip w'∧val=undef))∧
  au X ⟨w',φ',O'⟩ v val∧Le μ ⟨w',φ',O'⟩∧bQ X ⟨w',φ',O'⟩
theorem aS {X:Ctx} {o:Oper} {a:Go.Act} {μ:Mu} {v:V} {val:Value} (ho:bQ X μ) (ag: (execOp a.eval o).run X.P μ.w= .ok (.value val) μ.w)
  (hv:au X μ v val):de X o a μ μ.O v:=
 ⟨val,μ.w,μ.φ,.inl ag,hv,Le.refl μ,ho⟩
theorem cO {P:Program} {s:Sem Value} {w w':World} {val:Value} (h:s.run P w= .ok val w'): (do pure (Next.value (←s)):Sem Next).run P w= .ok (.value val) w':=by
 simp[Sem.run_bind,h]
theorem LH {P:Program} {s:Sem Unit} {w w':World} (h:s.run P w= .ok () w'): (do s;pure Next.skip:Sem Next).run P w= .ok .skip w':=by
 simp[Sem.run_bind,h]
theorem bP (C:bO) (x:bg) (k:V→Act) (σ:St): (ev x k).run C σ=(k (bM σ x)).run C σ:=by cases x<;>rfl
theorem oa (C:bO): ∀ (xs:List bg) (k:List V→Act) (σ:St),(ym xs k).run C σ=(k (xs.map (bM σ))).run C σ
 | [],_,_=>rfl
 | x::xs,k,σ=>by simp only[ym,bP,oa C xs,List.map_cons]
theorem HN (C:bO) (x:Option bg) (k:Option V→Act) (σ:St): (Aa x k).run C σ=(k (x.map (bM σ))).run C σ:=by
 cases x with
 | none=>rfl
 | some x=>exact bP C x _ σ
theorem eu {C:bO} {r:Option V} {σ σ':St} {v:V} (h: (dF r).run C σ=some (v,σ')):r=some v∧σ'=σ:=by
 cases r with
 | none=>simp[dF,Act.run] at h
 | some u=>simp only[dF,Act.run,Option.some.injEq,Prod.mk.injEq] at h;exact⟨by rw[h.1],h.2.symm⟩
theorem bo {C:bO} {u v:V} {σ σ':St} (h: (Act.done u).run C σ=some (v,σ')):u=v∧σ'=σ:=by
 simp only[Act.run,Option.some.injEq,Prod.mk.injEq] at h;exact⟨h.1,h.2.symm⟩
theorem aC {C:bO} {p:V×St} {σ:St}: (Act.fail).run C σ≠some p:=by simp[Act.run]
theorem rM {X:Ctx} {μ:Mu} {v:Value} {c:V} (h:qN v=some c):au X μ c v∧c.aV=true:=by
 unfold qN at h
 split at h<;>first
  | (injection h with h;subst h;simp[au,V.aV,V.ae])
  | simp at h
theorem pR {X:Ctx} {μ:Mu}: ∀ {vs:List Value} {cs:List V},lJ vs=some cs→ak X μ cs vs∧cs.all V.aV=true
 | [],cs,h=>by simp[lJ] at h;subst h;simp[ak]
 | v::vs,cs,h=>by
   simp only[lJ] at h
   split at h
   · rename_i c dC h1 h2
     injection h with h;subst h
     obtain⟨a1,a2⟩:=rM (X:=X) (μ:=μ) h1
     obtain⟨b1,b2⟩:=pR (X:=X) (μ:=μ) h2
     simp[ak,a1,a2,b1,b2]
   · simp at h
theorem fm {X:Ctx} {μ:Mu} {v:Value} {c:V} (h:yW v=some c):au X μ c v∧c.dX=true:=by
 unfold yW at h
 split at h
 · rename_i cs
   simp only[Option.map_eq_some_iff] at h
   obtain⟨l,h1,rfl⟩:=h
   obtain⟨a1,a2⟩:=pR (X:=X) (μ:=μ) h1
   simp[au,V.dX,V.isAgg,a1,a2]
 · obtain⟨a1,a2⟩:=rM (X:=X) (μ:=μ) h
   exact⟨a1,by simp[V.dX,a2]⟩
theorem aX {X:Ctx} {μ:Mu} {T:Nat→V} {a:Go.Act} {x:Operand} {y:bg} (hr:Rel X T a μ) (h:du X x=some y) (O:Nat→Obj):au X μ (bM ⟨T,O⟩ y) (a.eval x):=by
 cases x with
 | tmp t=>simp[du] at h;subst h;exact hr.tmps t
 | const v=>
   simp only[du,Option.map_eq_some_iff] at h
   obtain⟨c,h1,rfl⟩:=h
   exact(fm h1).1
 | global g=>simp[du] at h
 | func f=>
   simp only[du,Option.map_eq_some_iff] at h
   obtain⟨n,h1,rfl⟩:=h
   simp only[bM,Go.Act.eval,au]
   exact⟨f,#[],rfl,h1,by simp[ak]⟩
theorem pS {X:Ctx} {μ:Mu} {T:Nat→V} {a:Go.Act} (hr:Rel X T a μ) (O:Nat→Obj): ∀ {xs:List Operand} {ys:List bg},rp X xs=some ys→
   ak X μ (ys.map (bM ⟨T,O⟩)) (xs.map a.eval)
 | [],ys,h=>by simp[rp] at h;subst h;simp[ak]
 | x::xs,ys,h=>by
   simp only[rp] at h
   split at h
   · rename_i b bs h1 h2
     injection h with h;subst h
     simp only[List.map_cons,ak]
     exact⟨aX hr h1 O,pS hr O h2⟩
   · simp at h
theorem oc {X:Ctx} {μ:Mu} {e u:V} {x:Value} {off sz:Nat} (h:au X μ e x) (hp:part true off sz e=some u):
   ∃cs,x= .agg cs∧off+sz≤cs.size∧au X μ u (.agg (cs.extract off (off+sz))):=by
 cases e<;>simp[part] at hp
 rename_i cs
 obtain⟨h1,h2⟩:=hp
 subst h2
 simp only[au] at h
 obtain⟨h0,vs,rfl,hv⟩:=h
 have hl:=hv.length
 simp at hl
 refine⟨vs,rfl,by omega,?_⟩
 simp only[au]
 refine⟨?_,_,rfl,?_⟩
 · simp only[List.all_eq_true] at h0 ⊢
   intro c hc
   exact h0 c (List.mem_of_mem_drop (List.mem_of_mem_take hc))
 · have:=ak.take sz (ak.drop off hv)
   simpa [Array.toList_extract,List.extract_eq_take_drop] using this
theorem mK {X:Ctx} {μ:Mu} {e u:V} {x:Value} {off sz:Nat} (h:au X μ e x) (hp:part false off sz e=some u):
   e.dX=true∧ ∃c,x.cells[off]? =some c∧au X μ u c:=by
 by_cases ha: ∃cs,e= .agg cs
 · obtain⟨cs,rfl⟩:=ha
   simp only[part] at hp
   simp only[au] at h
   obtain⟨h0,vs,rfl,hv⟩:=h
   obtain⟨c,h1,h2⟩:=hv.get hp
   exact⟨by simp[V.dX,V.isAgg],c,by simpa [Value.cells] using h1,h2⟩
 · have:part false off sz e=if e.aV∧off=0 then some e else none:=by
     cases e<;>first| rfl| exact absurd ⟨_,rfl⟩ ha
   rw[this] at hp
   split at hp
   · rename_i hc
     injection hp with hp;subst hp
     refine⟨by simp[V.dX,hc.1],x,?_,h⟩
     rw[(h.nZ hc.1).2,hc.2];simp
   · simp at hp
section
variable {X:Ctx} {h:Hints} {dst:Nat} {E:Env} {C:bO} {o:Oper} {a:Go.Act} {T:Nat→V} {μ:Mu} {v:V} {σ':St}
theorem ak.B8 {X:Ctx} {μ:Mu}: ∀ (ks:List Nat) {cs:List V} {vs:List Value},ak X μ cs vs→ak X μ (AM.B8 ks cs) vs
 | [],cs,vs,h=>by simpa [AM.B8] using h
 | k::ks,[],vs,h=>by simpa [AM.B8] using h
 | k::ks,c::cs,[],h=>by simp[ak] at h
 | k::ks,c::cs,v::vs,h=>by
   simp only[ak] at h
   simp only[AM.B8,ak]
   refine⟨?_,ak.B8 ks h.2⟩
   split
   · obtain⟨a,rfl⟩:=by simpa [au] using h.1
     simp only[au]
     exact⟨rfl,rfl,a,0,[],rfl,Nat.le_refl _,by simp[ak],.inl trivial⟩
   · exact h.1
theorem sE: ∀ (ks:List Nat) {cs:List V},cs.all V.aV=true→(AM.B8 ks cs).all V.aV=true
 | [],cs,h=>by simpa [AM.B8] using h
 | k::ks,[],h=>by simp[AM.B8]
 | k::ks,c::cs,h=>by
   simp only[List.all_cons,Bool.and_eq_true] at h
   simp only[AM.B8,List.all_cons,Bool.and_eq_true]
   refine⟨?_,sE ks h.2⟩
   split
   · rfl
   · exact h.1
theorem au.Fi {X:Ctx} {μ:Mu} (ks:List Nat) {v:V} {val:Value} (h:au X μ v val):au X μ (AM.Fi ks v) val:=by
 unfold AM.Fi
 split
 · simp only[au] at h ⊢
   obtain⟨h1,vs,rfl,h2⟩:=h
   exact⟨sE ks h1,vs,rfl,h2.B8 ks⟩
 · split
   · obtain⟨a,rfl⟩:=by simpa [au] using h
     simp only[au]
     exact⟨rfl,rfl,a,0,[],rfl,Nat.le_refl _,by simp[ak],.inl trivial⟩
   · exact h
 · exact h
theorem au.LB {X:Ctx} {μ:Mu} (ks:List Nat) {σ:St} {y:bg} {val:Value} (h:au X μ (bM σ y) val):au X μ (bM σ (AM.LB ks y)) val:=by
 cases y with
 | tmp t=>exact h
 | const v=>exact au.Fi ks h
theorem W6 {x:Operand} {y:bg} (ks:List Nat) (hr:Rel X T a μ) (ho:o.op= .move x∨o.op= .assign x) (ht:du X x=some y) (ag: (aF E (.move (LB ks y))).run C ⟨T,μ.O⟩=some (v,σ')):
  σ'.T=T∧de X o a μ σ'.O v:=by
 simp only[aF,bP] at ag
 obtain⟨rfl,rfl⟩:=bo ag
 refine⟨rfl,aS hr.bB ?_ (au.LB ks (aX hr ht _))⟩
 rcases ho with ho| ho<;>simp[execOp,ho]
theorem RJ {h:Hints} {dst:Nat} {x:Operand} {rq:vb} (hr:Rel X T a μ) (ho:o.op= .move x∨o.op= .assign x) (ht:yX X h dst x=some rq) (ag: (aF E rq).run C ⟨T,μ.O⟩=some (v,σ')):
   σ'.T=T∧de X o a μ σ'.O v:=by
 unfold yX at ht
 split at ht
 · rename_i r sz hn hb
   injection ht with ht;subst ht
   simp only[aF] at ag
   split at ag
   · rename_i cJ
     simp only[Act.run,Option.some.injEq,Prod.mk.injEq] at ag
     obtain⟨rfl,rfl⟩:=ag
     have hx:x= .const (.slice none 0 0):=by
       unfold isNil at hn
       split at hn
       · rfl
       · simp at hn
     subst hx
     obtain⟨le,vB⟩:=Jp hr.bB r sz cJ
     refine⟨rfl,.slice none 0 0,μ.w,eI μ.φ r ⟨0,0,0⟩,.inl ?_,?_,le,vB⟩
     · rcases ho with ho| ho<;>simp[execOp,ho,Go.Act.eval]
     · simp only[au,aL]
       exact⟨_,0,rfl,Nat.le_refl _,Nat.le_refl _,fun _=> ⟨cJ,rfl,.inl rfl⟩⟩
   · exact absurd ag aC
 · split at ht
   · rename_i r hrn
     simp only[Option.map_eq_some_iff] at ht
     obtain⟨y,h1,rfl⟩:=ht
     simp only[aF,bP] at ag
     have cK:=aX hr h1 μ.O
     have kG: (execOp a.eval o).run X.P μ.w= .ok (.value (a.eval x)) μ.w:=by rcases ho with ho| ho<;>simp[execOp,ho]
     split at ag
     · rename_i r1 g off len he
       rw[he] at cK
       split at ag
       · obtain⟨rfl,rfl⟩:=bo ag
         exact⟨rfl,aS hr.bB kG cK⟩
       · rename_i cu
         simp only[Act.run] at ag
         split at ag
         · rename_i hg
           simp only[Act.run,Option.some.injEq,Prod.mk.injEq] at ag
           obtain⟨rfl,rfl⟩:=ag
           obtain⟨le,vB⟩:=PE hr.bB (r:=r) (r1:=r1) cu
           refine⟨rfl,a.eval x,μ.w,eI μ.φ r (μ.φ r1),.inl kG,?_,le,vB⟩
           simp only[au] at cK ⊢
           obtain⟨ad,cap,k1,k2,k3,k4⟩:=cK
           obtain⟨k5,k6⟩:=k4 hg
           have za:r≠r1:=fun e=>cu e.symm
           simp only[bu _ _ za,aL]
           exact⟨ad,cap,k1,k2,Nat.le_refl _,fun _=> ⟨k5,k6⟩⟩
         · simp[Act.run] at ag
     · obtain⟨rfl,rfl⟩:=bo ag
       exact⟨rfl,aS hr.bB kG cK⟩
   · simp only[Option.map_eq_some_iff] at ht
     obtain⟨y,h1,rfl⟩:=ht
     exact W6 _ hr ho h1 ag
theorem PF {c p q:Operand} {c' p' q':bg} (hr:Rel X T a μ) (ho:o.op= .pick c p q) (h1:du X c=some c') (h2:du X p=some p') (h3:du X q=some q')
   (ag: (aF E (.pick c' p' q')).run C ⟨T,μ.O⟩=some (v,σ')):σ'.T=T∧de X o a μ σ'.O v:=by
 simp only[aF,bP] at ag
 have hc:=aX hr h1 μ.O
 split at ag
 · rename_i e
   rw[e] at hc
   simp only[au] at hc
   rw[bP] at ag
   obtain⟨rfl,rfl⟩:=bo ag
   refine⟨rfl,aS hr.bB ?_ (aX hr h2 _)⟩
   simp[execOp,ho,hc,asBool,Sem.run_bind]
 · rename_i e
   rw[e] at hc
   simp only[au] at hc
   rw[bP] at ag
   obtain⟨rfl,rfl⟩:=bo ag
   refine⟨rfl,aS hr.bB ?_ (aX hr h3 _)⟩
   simp[execOp,ho,hc,asBool,Sem.run_bind]
 · exact absurd ag aC
theorem D8 {x:Operand} {y:bg} (hr:Rel X T a μ) (ho:o.op= .nilCheck x) (ht:du X x=some y) (ag: (aF E (.nilCheck y)).run C ⟨T,μ.O⟩=some (v,σ')):
   σ'.T=T∧de X o a μ σ'.O v:=by
 simp only[aF,bP] at ag
 have hx:=aX hr ht μ.O
 split at ag
 · rename_i e
   obtain⟨rfl,rfl⟩:=bo ag
   refine⟨rfl,aS hr.bB ?_ (e ▸ hx)⟩
   rw[e] at hx
   simp only[au] at hx
   obtain⟨p,hp,_⟩:=hx
   simp[execOp,ho,hp]
 · rename_i e
   obtain⟨rfl,rfl⟩:=bo ag
   refine⟨rfl,aS hr.bB ?_ (e ▸ hx)⟩
   rw[e] at hx
   simp only[au] at hx
   obtain⟨_,_,b,o',sz,q,hp,_⟩:=hx
   simp[execOp,ho,hp]
 · rename_i e
   obtain⟨rfl,rfl⟩:=bo ag
   refine⟨rfl,aS hr.bB ?_ (e ▸ hx)⟩
   rw[e] at hx
   simp only[au] at hx
   obtain⟨_,_,q,hp,_⟩:=hx
   simp[execOp,ho,hp]
 · rename_i e
   obtain⟨rfl,rfl⟩:=bo ag
   refine⟨rfl,aS hr.bB ?_ (e ▸ hx)⟩
   rw[e] at hx
   simp only[au] at hx
   obtain⟨F,cv,hp,_⟩:=hx
   simp[execOp,ho,hp]
 · rename_i e
   obtain⟨rfl,rfl⟩:=bo ag
   refine⟨rfl,aS hr.bB ?_ (e ▸ hx)⟩
   rw[e] at hx
   simp only[au] at hx
   obtain⟨F,cv,hp,_⟩:=hx
   simp[execOp,ho,hp]
 · exact absurd ag aC
theorem Cw {s:TypeId} {x:Operand} {i:Nat} {y:bg} {fs:Array Field} {f:Field} {n:Nat} (hr:Rel X T a μ) (ho:o.op= .fieldAddr s x i) (ht:du X x=some y)
   (hd:bG X s=some (.struct fs)) (hf:fs[i]? =some f) (hn:bT X f.type=some (n+1)) (ag: (aF E (.fieldAddr f.offset y)).run C ⟨T,μ.O⟩=some (v,σ')):
   σ'.T=T∧de X o a μ σ'.O v:=by
 simp only[aF,bP] at ag
 have hx:=aX hr ht μ.O
 have hi: ∃inf,X.P.info? f.type=some inf∧inf.size=n+1:=by
   simpa [bT,info] using hn
 obtain⟨inf,xr,gv⟩:=hi
 have cJ:X.P.cellsOf f.type=n+1:=by simp[Program.cellsOf,xr,gv]
 have key: ∀p:Addr,a.eval x= .pointer (some p)→(execOp a.eval o).run X.P μ.w= .ok (.value (.pointer (some (p.add f.offset)))) μ.w:=fun p hp=>by
   simp only[execOp,ho]
   refine cO ?_
   simp[Instr.fieldAt,Sem.run_bind,run_underlying hd,hf,Instr.sureAddr,hp,fieldPlace,run_sizeOf (w:=μ.w) xr,cJ]
 have Js: ∀ (b q:Nat),(⟨b,q,none⟩:Addr).add f.offset=⟨b,q+f.offset,none⟩:=fun b q=>by unfold Addr.add;split<;>simp_all
 split at ag
 · rename_i e
   obtain⟨rfl,rfl⟩:=bo ag
   rw[e] at hx
   simp only[au] at hx
   obtain⟨p,hp,h1,h2⟩:=hx
   refine⟨rfl,aS hr.bB (key p hp) ?_⟩
   simp only[au]
   refine⟨_,rfl,h1,fun eg=> ⟨(h2 eg).1,?_⟩⟩
   rw[(h2 eg).2,Js];simp[Nat.add_assoc]
 · rename_i e
   obtain⟨rfl,rfl⟩:=bo ag
   rw[e] at hx
   simp only[au] at hx
   obtain⟨h0,lY,b,o',sz,q,hp,h1,h2,h3,h4⟩:=hx
   refine⟨rfl,aS hr.bB (key _ hp) ?_⟩
   simp only[au]
   exact⟨h0,lY,b,o',sz,q,by rw[Js];simp[Nat.add_assoc],h1,h2,h3,h4⟩
 · rename_i e
   obtain⟨rfl,rfl⟩:=bo ag
   rw[e] at hx
   simp only[au] at hx
   obtain⟨h0,lY,q,hp,h1,h2,h3,h4⟩:=hx
   refine⟨rfl,aS hr.bB (key _ hp) ?_⟩
   simp only[au]
   exact⟨h0,lY,q,by rw[Js];simp[Nat.add_assoc],h1,h2,h3,h4⟩
 · exact absurd ag aC
theorem Gh {x:Operand} {i:Nat} {y:bg} (hr:Rel X T a μ) (ho:o.op= .extract x i) (ht:du X x=some y) (ag: (aF E (.extract y i)).run C ⟨T,μ.O⟩=some (v,σ')):
   σ'.T=T∧de X o a μ σ'.O v:=by
 simp only[aF,bP] at ag
 have hx:=aX hr ht μ.O
 split at ag
 · rename_i vs e
   obtain⟨h1,rfl⟩:=eu ag
   rw[e] at hx
   simp only[au] at hx
   obtain⟨us,hu,hv⟩:=hx
   obtain⟨c,h2,h3⟩:=hv.get h1
   refine⟨rfl,aS hr.bB ?_ h3⟩
   simp only[execOp,ho]
   refine cO ?_
   have Jt:us[i]? =some c:=by simpa using h2
   simp[Instr.extract,hu,Jt]
 · exact absurd ag aC
theorem D9 {f:FuncId} {first caps:Array Operand} {n:Nat} {cs:List bg} (hr:Rel X T a μ) (ho:o.op= .makeFunc (.func f) first caps) (hfi:first.isEmpty=true)
   (hn:X.kh f=some n) (ht:rp X caps.toList=some cs) (ag: (aF E (.iH n cs)).run C ⟨T,μ.O⟩=some (v,σ')):σ'.T=T∧de X o a μ σ'.O v:=by
 simp only[aF,oa] at ag
 obtain⟨rfl,rfl⟩:=bo ag
 have hx:=pS hr μ.O ht
 obtain rfl:first= #[]:=by simpa using hfi
 refine⟨rfl,aS (val:= .func (.func f) #[] (caps.map a.eval)) hr.bB ?_ ?_⟩
 · simp[execOp,ho,Instr.makeFunc,Sem.run_bind]
 · simp only[au]
   exact⟨f,_,rfl,hn,by simpa using hx⟩
theorem Cx {f:FuncId} {first caps:Array Operand} {n:Nat} {cs:List bg} (hr:Rel X T a μ) (ho:o.op= .makeFunc (.func f) first caps) (hfi:caps.isEmpty=true)
   (hn:X.kh f=some n) (ht:rp X first.toList=some cs) (ag: (aF E (.qH n cs)).run C ⟨T,μ.O⟩=some (v,σ')):σ'.T=T∧de X o a μ σ'.O v:=by
 simp only[aF,oa] at ag
 obtain⟨rfl,rfl⟩:=bo ag
 have hx:=pS hr μ.O ht
 obtain rfl:caps= #[]:=by simpa using hfi
 refine⟨rfl,aS (val:= .func (.func f) (first.map a.eval) #[]) hr.bB ?_ ?_⟩
 · simp[execOp,ho,Instr.makeFunc,Sem.run_bind]
 · simp only[au]
   exact⟨f,_,rfl,hn,by simpa using hx⟩
theorem vQ {t:TypeId} {x:Operand} {n:Nat} {y:bg} (hr:Rel X T a μ) (ho:o.op= .makeInterface t x) (hn:X.ku t=some n) (ht:du X x=some y)
   (hd: ∃d,bG X t=some d∧ ∀ms,d≠ .interface ms) (ag: (aF E (.cU n y)).run C ⟨T,μ.O⟩=some (v,σ')):σ'.T=T∧de X o a μ σ'.O v:=by
 simp only[aF,bP] at ag
 obtain⟨rfl,rfl⟩:=bo ag
 have hx:=aX hr ht μ.O
 obtain⟨d,sq,Da⟩:=hd
 refine⟨rfl,aS (val:= .iface t (a.eval x)) hr.bB ?_ ?_⟩
 · simp only[execOp,ho]
   refine cO ?_
   simp only[Instr.makeInterface,Sem.run_bind,run_underlying sq,Result.andThen_ok]
   cases d<;>first| rfl| exact absurd rfl (Da _)
 · simp only[au]
   exact⟨t,_,rfl,hn,hx⟩
theorem LI {t:TypeId} {x:Operand} {i:Nat} {y:bg} {fs:Array Field} {f:Field} {g:Bool} {sz:Nat} (hr:Rel X T a μ) (ho:o.op= .field t x i) (ht:du X x=some y)
   (hd:bG X t=some (.struct fs)) (hf:fs[i]? =some f) (hg:je X f.type=some g) (hn:bT X f.type=some sz)
   (ag: (aF E (.field g f.offset sz y)).run C ⟨T,μ.O⟩=some (v,σ')):σ'.T=T∧de X o a μ σ'.O v:=by
 simp only[aF,bP] at ag
 split at ag
 case isFalse=>exact absurd ag aC
 rename_i Ju
 obtain⟨hp,rfl⟩:=eu ag
 have hx:=aX hr ht μ.O
 obtain⟨inf,xr,gv⟩: ∃inf,X.P.info? f.type=some inf∧inf.size=sz:=by simpa [bT,info] using hn
 have cJ:X.P.cellsOf f.type=sz:=by simp[Program.cellsOf,xr,gv]
 obtain⟨d,Kg⟩: ∃d,X.P.underlying f.type=some d:=by
   simp only[je,bG,Option.map_eq_some_iff] at hg
   obtain⟨d,h1,_⟩:=hg;exact⟨d,h1⟩
 have LJ: (isAgg f.type).run X.P μ.w= .ok g μ.w:=by
   simp only[je,bG,Kg,Option.map_some,Option.some.injEq] at hg
   simp only[isAgg,Sem.run_bind,run_underlying Kg,Result.andThen_ok]
   subst hg
   cases d<;>rfl
 cases g with
 | true=>
   obtain⟨cs,hc,hle,hv⟩:=oc hx hp
   refine⟨rfl,aS hr.bB ?_ hv⟩
   simp only[execOp,ho]
   refine cO ?_
   simp[Instr.field,Sem.run_bind,run_underlying hd,hf,part,LJ,hc,asAgg,run_sizeOf (w:=μ.w) xr,cJ,Go.part]
 | false=>
   obtain⟨_,c,hc,hv⟩:=mK hx hp
   cases hy:bM ⟨T,μ.O⟩ y<;>rw[hy] at Ju<;>simp[V.isAgg] at Ju
   rw[hy] at hx
   simp only[au] at hx
   obtain⟨_,cs,nT,_⟩:=hx
   rw[nT] at hc
   refine⟨rfl,aS hr.bB ?_ hv⟩
   simp only[execOp,ho]
   refine cO ?_
   have C9:cs[f.offset]? =some c:=by simpa [Value.cells] using hc
   simp[Instr.field,Sem.run_bind,run_underlying hd,hf,LJ,nT,asAgg,Go.part,C9]
end
end Go.AM
namespace Go.AM
open Go Go.RowKit
theorem qO {X:Ctx} {t:TypeId} {g:Bool} (hg:je X t=some g) (w:World): (isAgg t).run X.P w= .ok g w:=by
 simp only[je,bG,Option.map_eq_some_iff] at hg
 obtain⟨d,Kg,hg⟩:=hg
 simp only[isAgg,Sem.run_bind,run_underlying Kg,Result.andThen_ok]
 subst hg
 cases d<;>rfl
theorem dU {X:Ctx} {t:TypeId} {sz:Nat} (hn:bT X t=some sz) (w:World): (sizeOf t).run X.P w= .ok sz w:=by
 obtain⟨inf,xr,gv⟩: ∃inf,X.P.info? t=some inf∧inf.size=sz:=by simpa [bT,info] using hn
 have cJ:X.P.cellsOf t=sz:=by simp[Program.cellsOf,xr,gv]
 rw[run_sizeOf (w:=w) xr,cJ]
theorem uw {X:Ctx} {t:TypeId} {sz:Nat} (hg:je X t=some true) (hn:bT X t=some sz) (cs:Array Value) (off:Nat) (w:World):
  (Go.part t cs off).run X.P w= .ok (.agg (cs.extract off (off+sz))) w:=by
 simp[Go.part,Sem.run_bind,qO hg,dU hn]
theorem hY {X:Ctx} {t:TypeId} (hg:je X t=some false) (cs:Array Value) (off:Nat) (c:Value) (hc:cs[off]? =some c) (w:World):
  (Go.part t cs off).run X.P w= .ok c w:=by
 simp[Go.part,Sem.run_bind,qO hg,hc]
theorem zb: ∀ (ks:List Nat) {PA:List Nat} {cs ds:List V} {b:Bool},gk (ks++PA) cs ds=some b→
   ∃b1 b2,gk ks (cs.take ks.length) (ds.take ks.length)=some b1∧gk PA (cs.drop ks.length) (ds.drop ks.length)=some b2∧b=(b1 &&b2)
 | [],PA,cs,ds,b,h=> ⟨true,b,by simp[gk],by simpa using h,by simp⟩
 | k::ks,PA,[],_,b,h=>by simp[gk] at h
 | k::ks,PA,_::_,[],b,h=>by simp[gk] at h
 | k::ks,PA,c::cs,d::ds,b,h=>by
   simp only[List.cons_append,gk] at h
   split at h
   · rename_i x y hx hy
     injection h with h;subst h
     obtain⟨b1,b2,h1,h2,h3⟩:=zb ks hy
     refine⟨x &&b1,b2,?_,by simpa using h2,by rw[h3,Bool.and_assoc]⟩
     simp[gk,hx,h1]
   · simp at h
theorem wO: ∀ {ks:List Nat} {cs ds:List V} {b:Bool},gk ks cs ds=some b→cs.length=ks.length∧ds.length=ks.length
 | [],[],[],_,_=> ⟨rfl,rfl⟩
 | [],[],_::_,_,h=>by simp[gk] at h
 | [],_::_,_,_,h=>by simp[gk] at h
 | _::_,[],_,_,h=>by simp[gk] at h
 | _::_,_::_,[],_,h=>by simp[gk] at h
 | k::ks,c::cs,d::ds,b,h=>by
   simp only[gk] at h
   split at h
   · rename_i x y hx hy
     obtain⟨h1,h2⟩:=wO hy
     simp[h1,h2]
   · simp at h
theorem HO {X:Ctx} {μ:Mu} {t:TypeId} {m k:Nat} {c e:V} {x y:Value} {b:Bool} {D:TypeDesc} (hd:bG X t=some D)
   (hk: (k=0∧D= .bool)∨(k=1∧ ∃q,D= .int q)∨(k=2∧D= .string))
   (hc:au X μ c x) (he:au X μ e y) (hb:Aj k c e=some b) (w:World): (Op.equalIn (m+1) t x y).run X.P w= .ok b w:=by
 unfold Aj at hb
 split at hb
 · injection hb with hb;subst hb
   simp only[au] at hc he
   subst hc;subst he
   rcases hk with⟨_,rfl⟩ | ⟨h,_⟩ | ⟨h,_⟩
   · exact run_equalIn_bool' w m t _ _ hd
   · cases h
   · cases h
 · split at hb
   · injection hb with hb;subst hb
     simp only[au] at hc he
     subst hc;subst he
     rename_i La
     subst La
     rcases hk with⟨h,_⟩ | ⟨_,q,rfl⟩ | ⟨h,_⟩
     · cases h
     · exact run_equalIn_int w m t _ _ _ _ hd
     · cases h
   · simp at hb
 · injection hb with hb;subst hb
   simp only[au] at hc he
   obtain⟨p,rfl,hp⟩:=hc
   obtain⟨q,rfl,hq⟩:=he
   rcases hk with⟨h,_⟩ | ⟨h,_⟩ | ⟨_,rfl⟩
   · cases h
   · cases h
   · rw[run_equalIn_string w m t _ _ hd]
     congr 1
     rw[ByteArray.toList_eq,ByteArray.toList_eq,hp,hq]
     rw[Bool.eq_iff_iff];simp
 · simp at hb
theorem wP {X:Ctx} {μ:Mu} (w:World) {e:TypeId} {k m:Nat} (hg:je X e=some false) (h1:X.P.cellsOf e=1)
   (ih: ∀c f x y b,au X μ c x→au X μ f y→Aj k c f=some b→(Op.equalIn m e x y).run X.P w= .ok b w):
   ∀ (n off:Nat) (cs ds:List V) (xs ys:List Value) (b:Bool),ak X μ cs xs→ak X μ ds ys→gk (List.replicate n k) (cs.drop off) (ds.drop off)=some b→
     (Op.eqItems m e (X.P.cellsOf e) xs.toArray ys.toArray (List.range' off n)).run X.P w= .ok b w
 | 0,off,cs,ds,xs,ys,b,hx,hy,hb=>by
   cases hc:cs.drop off<;>cases he:ds.drop off<;>rw[hc,he] at hb<;>simp[gk] at hb
   subst hb
   simp[Op.eqItems]
 | n+1,off,cs,ds,xs,ys,b,hx,hy,hb=>by
   rw[List.replicate_succ] at hb
   cases hc:cs.drop off with
   | nil=>rw[hc] at hb;simp[gk] at hb
   | cons c dC=>
     cases he:ds.drop off with
     | nil=>rw[hc,he] at hb;simp[gk] at hb
     | cons f ds'=>
       rw[hc,he] at hb
       simp only[gk] at hb
       split at hb
       · rename_i p q hp hq
         injection hb with hb;subst hb
         have gc:cs[off]? =some c:=by
          have:=congrArg (fun l=>l[0]?) hc
          simpa using this
         have gf:ds[off]? =some f:=by
          have:=congrArg (fun l=>l[0]?) he
          simpa using this
         obtain⟨x,gx,rx⟩:=hx.get gc
         obtain⟨y,gy,ry⟩:=hy.get gf
         have vJ:cs.drop (off+1)=dC:=by
          have:=congrArg (List.drop 1) hc
          simpa [List.drop_drop] using this
         have W7:ds.drop (off+1)=ds':=by
          have:=congrArg (List.drop 1) he
          simpa [List.drop_drop] using this
         have rest:=wP w hg h1 ih n (off+1) cs ds xs ys q hx hy (by rw[vJ,W7];exact hq)
         have px:xs.toArray[off*X.P.cellsOf e]? =some x:=by rw[h1];simpa using gx
         have py:ys.toArray[off*X.P.cellsOf e]? =some y:=by rw[h1];simpa using gy
         rw[List.range'_succ]
         simp only[Op.eqItems,Sem.run_bind,hY hg _ _ _ px,hY hg _ _ _ py,Result.andThen_ok,ih c f x y p rx ry hp]
         cases p
         · simp
         · simpa using rest
       · simp at hb
theorem W8 {   X:Ctx} {μ:Mu} (w:World): ∀d:Nat,
   (∀t ks cs ds xs ys b m,mJ X d t=some ks→d≤m→ak X μ cs xs→ak X μ ds ys→gk ks cs ds=some b→
     bT X t=some ks.length∧((je X t=some true∧(Op.equalIn m t (.agg xs.toArray) (.agg ys.toArray)).run X.P w= .ok b w)∨
       (je X t=some false∧ks.length=1∧ ∃x y,xs=[x]∧ys=[y]∧(Op.equalIn m t x y).run X.P w= .ok b w)))∧
   (∀fs off ks cs ds xs ys b m,vP X d fs off=some ks→d≤m→ak X μ cs xs→ak X μ ds ys→gk ks (cs.drop off) (ds.drop off)=some b→
     (Op.eqFields m xs.toArray ys.toArray fs).run X.P w= .ok b w):=by
 intro d
 induction d with
 | zero=>exact⟨fun _ _ _ _ _ _ _ _ h=>by simp[mJ] at h,fun _ _ _ _ _ _ _ _ _ h=>by simp[vP] at h⟩
 | succ d ih=>
   refine⟨fun t ks cs ds xs ys b m hk hm hx hy hb=> ?_,fun fs off ks cs ds xs ys b m hk hm hx hy hb=> ?_⟩
   · obtain⟨ m,rfl⟩: ∃m',m=m'+1:=⟨m - 1,by omega⟩
     have scalar: ∀ (D:TypeDesc) (k:Nat),bG X t=some D→((k=0∧D= .bool)∨(k=1∧ ∃q,D= .int q)∨(k=2∧D= .string))→bT X t=some 1→ks=[k]→
         bT X t=some ks.length∧((je X t=some true∧(Op.equalIn (m+1) t (.agg xs.toArray) (.agg ys.toArray)).run X.P w= .ok b w)∨
       (je X t=some false∧ks.length=1∧ ∃x y,xs=[x]∧ys=[y]∧(Op.equalIn (m+1) t x y).run X.P w= .ok b w)):=by
       intro D k hd hD hs e
       subst e
       obtain⟨l1,l2⟩:=wO hb
       have lx:=hx.length
       have ly:=hy.length
       match cs,ds,xs,ys,l1,l2,lx,ly with
       | [c],[e],[x],[y],_,_,_,_=>
         simp only[ak,and_true] at hx hy
         simp only[gk,Bool.and_true] at hb
         have wM:Aj k c e=some b:=by
           cases hq:Aj k c e<;>rw[hq] at hb<;>simp at hb;rw[hb]
         refine⟨by simpa using hs,.inr ⟨?_,rfl,x,y,rfl,rfl,HO hd hD hx hy wM w⟩⟩
         simp only[je,hd,Option.map_some]
         rcases hD with⟨_,rfl⟩ | ⟨_,q,rfl⟩ | ⟨_,rfl⟩ <;>rfl
     simp only[mJ] at hk
     split at hk
     · split at hk<;>simp at hk
       rename_i hd hs
       exact scalar _ 0 hd (by simp) hs hk.symm
     · split at hk<;>simp at hk
       rename_i hd hs
       exact scalar _ 1 hd (by simp) hs hk.symm
     · split at hk<;>simp at hk
       rename_i hd hs
       exact scalar _ 2 hd (by simp) hs hk.symm
     · rename_i fs hd
       split at hk
       · rename_i ni
         split at hk
         · rename_i PA hkf
           split at hk
           · rename_i hs
             injection hk with hk;subst hk
             refine⟨hs,.inl ⟨by simp[je,hd],?_⟩⟩
             have HP:X.P.fieldsOf t=fs:=by
               have oV:X.P.underlying t=some (.struct fs):=hd
               simp[Program.fieldsOf,oV]
             rw[run_equalIn_struct w m t _ _ (by rw[HP];exact hd) ni,HP]
             exact ih.2 _ 0 _ cs ds xs ys b m hkf (by omega) hx hy (by simpa using hb)
           · simp at hk
         · simp at hk
       · simp at hk
     · rename_i n e hd
       split at hk
       · rename_i ve
         obtain⟨ve,cJ⟩:=ve
         split at hk
         · rename_i k W9
           injection hk with hk;subst hk
           refine⟨by rw[List.length_replicate];exact cJ,.inl ⟨by simp[je,hd],?_⟩⟩
           have ub:bT X e=some 1:=by
             cases d with
             | zero=>simp[mJ] at W9
             | succ d=>
               simp only[mJ] at W9
               split at W9<;> (try (split at W9<;>simp at W9<;>assumption)) <;> (try (rename_i hde;simp[je,hde] at ve)) <;>simp at W9
           obtain⟨inf,xr,gv⟩: ∃inf,X.P.info? e=some inf∧inf.size=1:=by simpa [bT,info] using ub
           have oZ:X.P.cellsOf e=1:=by simp[Program.cellsOf,xr,gv]
           rw[run_equalIn_array w m _ _ hd xr,List.range_eq_range']
           refine wP w ve oZ (fun c f x y b' rx ry wM=> ?_) n 0 cs ds xs ys b hx hy (by simpa using hb)
           obtain⟨_,hq⟩:=ih.1 e [k] [c] [f] [x] [y] b' m W9 (by omega) (by simp only[ak,and_true];exact rx) (by simp only[ak,and_true];exact ry) (by simp[gk,wM])
           rcases hq with⟨hq,_⟩ | ⟨_,_,x',y',sX,RK,hq⟩
           · rw[ve] at hq;cases hq
           · obtain rfl:x=x':=by simpa using sX
             obtain rfl:y=y':=by simpa using RK
             exact hq
         · simp at hk
       · simp at hk
     · simp at hk
   · obtain⟨ m,rfl⟩: ∃m',m=m'+1:=⟨m - 1,by omega⟩
     cases fs with
     | nil=>
       simp only[vP,Option.some.injEq] at hk
       subst hk
       cases hc:cs.drop off<;>cases he:ds.drop off<;>rw[hc,he] at hb<;>simp[gk] at hb
       subst hb
       simp[Op.eqFields]
     | cons f fs=>
       simp only[vP] at hk
       split at hk
       · rename_i hn
         split at hk
         · rename_i k1 Kh
           split at hk
           · rename_i k2 hk2
             injection hk with hk;subst hk
             obtain⟨b1,b2,e1,e2,e3⟩:=zb k1 hb
             obtain⟨hs,ha⟩:=ih.1 f.type k1 _ _ _ _ b1 (m+1) Kh (by omega) (ak.take k1.length (ak.drop off hx)) (ak.take k1.length (ak.drop off hy)) e1
             have wH:=ih.2 fs (off+k1.length) k2 cs ds xs ys b2 (m+1) hk2 (by omega) hx hy (by simpa [List.drop_drop] using e2)
             have PG:=hn.2
             have head: (do let a ←Go.part f.type xs.toArray f.offset;let c ←Go.part f.type ys.toArray f.offset;Op.equalIn (m+1) f.type a c:Sem Bool).run X.P w= .ok b1 w:=by
               rcases ha with⟨hg,hq⟩ | ⟨hg,h1,x,y,hx1,hy1,hq⟩
               · simp only[Sem.run_bind,uw hg hs,Result.andThen_ok,PG]
                 rw[←hq]
                 congr 3 <;> (apply Array.ext';simp[Array.toList_extract,List.extract_eq_take_drop])
               · have gx:xs.toArray[f.offset]? =some x:=by
                  have:=congrArg (fun l=>l[0]?) hx1
                  simpa [List.getElem?_take,h1,PG] using this
                 have gy:ys.toArray[f.offset]? =some y:=by
                  have:=congrArg (fun l=>l[0]?) hy1
                  simpa [List.getElem?_take,h1,PG] using this
                 simp only[Sem.run_bind,hY hg _ _ _ gx,hY hg _ _ _ gy,Result.andThen_ok]
                 exact hq
             simp only[Op.eqFields,Sem.run_ite,if_pos hn.1]
             simp only[Sem.run_bind] at head ⊢
             generalize (Go.part f.type xs.toArray f.offset).run X.P w=r1 at head ⊢
             cases r1 with
             | halt _ _=>simp[Result.andThen] at head
             | ok a1 w1=>
               simp only[Result.andThen_ok] at head ⊢
               generalize (Go.part f.type ys.toArray f.offset).run X.P w1=r2 at head ⊢
               cases r2 with
               | halt _ _=>simp[Result.andThen] at head
               | ok a2 w2=>
                 simp only[Result.andThen_ok] at head ⊢
                 rw[head]
                 simp only[Result.andThen_ok,Sem.run_ite]
                 subst e3
                 cases b1
                 · simp
                 · simpa using wH
           · simp at hk
         · simp at hk
       · simp at hk
end Go.AM
namespace Go.AM
open Go Go.RowKit
theorem LK {X:Ctx} {μ:Mu} {T:Nat→V} {a:Go.Act} {x:Option Operand} {y:Option bg} (hr:Rel X T a μ) (h:vO X x=some y) (O:Nat→Obj):
   (x=none∧y=none)∨ ∃x' y',x=some x'∧y=some y'∧au X μ (bM ⟨T,O⟩ y') (a.eval x'):=by
 cases x with
 | none=>simp[vO] at h;exact .inl ⟨rfl,h.symm⟩
 | some x=>
   simp only[vO,Option.map_eq_some_iff] at h
   obtain⟨c,h1,rfl⟩:=h
   exact .inr ⟨x,c,rfl,rfl,aX hr h1 O⟩
section
variable {X:Ctx} {E:Env} {C:bO} {o:Oper} {a:Go.Act} {T:Nat→V} {μ:Mu} {v:V} {σ':St}
theorem LL {op:BinOp} {t:TypeId} {x y:V} {xv yv:Value} {u:V} (hx:au X μ x xv) (hy:au X μ y yv) (h:cQ op x y=some u) (p q:Operand):
   ∃val,(do eqGuard op t p q xv yv;Go.binOp op t xv yv:Sem Value).run X.P μ.w= .ok val μ.w∧au X μ u val:=by
 unfold cQ at h
 split at h
 · rename_i k n k' n'
   simp only[au] at hx hy
   subst hx;subst hy
   have hg: (eqGuard op t p q (.int k n) (.int k' n')).run X.P μ.w= .ok () μ.w:=by
     cases op<;>simp[eqGuard]
   simp only[Sem.run_bind,hg,Result.andThen_ok]
   cases op with
   | shl=>
     simp only at h
     split at h<;>simp at h
     subst h
     rename_i hb
     exact⟨.int k (k.wrap (n*2 ^ min n'.toNat k.bits)),by simp[Go.binOp,Op.shift,hb],by simp[au]⟩
   | shr=>
     simp only at h
     split at h<;>simp at h
     subst h
     rename_i hb
     exact⟨.int k (n.fdiv (2 ^ min n'.toNat k.bits)),by simp[Go.binOp,Op.shift,hb],by simp[au]⟩
   | quo=>
     simp only at h
     split at h
     · rename_i hk;subst hk
       split at h<;>simp at h
       subst h
       rename_i hb
       exact⟨.int k (k.wrap (n.tdiv n')),by simp[Go.binOp,Op.intDiv,hb],by simp[au]⟩
     · simp at h
   | rem=>
     simp only at h
     split at h
     · rename_i hk;subst hk
       split at h<;>simp at h
       subst h
       rename_i hb
       exact⟨.int k (n.tmod n'),by simp[Go.binOp,Op.intDiv,hb],by simp[au]⟩
     · simp at h
   | _=>
     simp only at h
     split at h
     · rename_i hk;subst hk
       simp only[ml,ew,Option.some.injEq] at h
       subst h
       exact⟨_,by simp[Go.binOp,Op.intArith,Op.intBits,Op.intCmp];rfl,by simp[au]⟩
     · simp at h
 · rename_i s s'
   simp only[au] at hx hy
   obtain⟨bs,rfl,rfl⟩:=hx
   obtain⟨cs,rfl,rfl⟩:=hy
   have hg: (eqGuard op t p q (.string bs) (.string cs)).run X.P μ.w= .ok () μ.w:=by
     cases op<;>simp[eqGuard]
   simp only[Sem.run_bind,hg,Result.andThen_ok]
   have he: (bs.toList==cs.toList)=decide (bs.data.toList=cs.data.toList):=by
     rw[ByteArray.toList_eq,ByteArray.toList_eq,Bool.eq_iff_iff];simp
   cases op with
   | add=>
     simp only at h
     split at h<;>simp at h
     subst h
     rename_i hl
     have LD: ¬ ((bs.size+cs.size:Nat):Int) >IntKind.i64.max:=by
       have hm:IntKind.i64.max=9223372036854775807:=by decide
       have h1:bs.data.toList.length=bs.size:=by rw[Array.length_toList];rfl
       have h2:cs.data.toList.length=cs.size:=by rw[Array.length_toList];rfl
       rw[hm];rw[h1,h2] at hl;omega
     refine⟨.string (bs++cs),by simp only[Go.binOp,Op.stringOp];rw[if_neg LD];rfl,?_⟩
     simp[au,ByteArray.data_append]
   | _=>
     simp only[Option.some.injEq,reduceCtorEq] at h
     try (subst h;refine⟨_,by simp only[Go.binOp,Op.stringOp];rfl,?_⟩;simp only[au,he] <;>simp only[ByteArray.toList_eq])
 · simp at h
theorem Gi {op:BinOp} {t t2:TypeId} {x y:Operand} {x' y':bg} (hr:Rel X T a μ) (ho:o.op= .binOp op t x y t2) (h1:du X x=some x') (h2:du X y=some y')
  (ag: (aF E (.bin op x' y')).run C ⟨T,μ.O⟩=some (v,σ')):σ'.T=T∧de X o a μ σ'.O v:=by
 simp only[aF,bP] at ag
 obtain⟨hb,rfl⟩:=eu ag
 obtain⟨val,hv,cK⟩:=LL (t:=t) (aX hr h1 μ.O) (aX hr h2 μ.O) hb x y
 refine⟨rfl,aS hr.bB ?_ cK⟩
 simp only[execOp,ho]
 exact cO hv
theorem Xa {op:BinOp} {t t2:TypeId} {x y:Operand} {x' y':bg} (hr:Rel X T a μ) (ho:o.op= .binOp op t x y t2) (dN:op= .eql∨op= .neq) (hd:bG X t=some .bool)
   (h1:du X x=some x') (h2:du X y=some y') {neg:Bool} (hn:neg=iP op)
   (ag: (aF E (.tI neg x' y')).run C ⟨T,μ.O⟩=some (v,σ')):σ'.T=T∧de X o a μ σ'.O v:=by
 simp only[aF,bP] at ag
 have hx:=aX hr h1 μ.O
 have hy:=aX hr h2 μ.O
 split at ag
 · rename_i p q e1 e2
   obtain⟨rfl,rfl⟩:=bo ag
   rw[e1] at hx;rw[e2] at hy
   simp only[au] at hx hy
   refine⟨rfl,aS (val:= .bool ((p==q) !=neg)) hr.bB ?_ (by simp[au])⟩
   simp only[execOp,ho]
   refine cO ?_
   have heq: (Op.equal t (.bool p) (.bool q)).run X.P μ.w= .ok (p==q) μ.w:=run_equalIn_bool' μ.w 9999 t p q hd
   rcases dN with rfl| rfl
   · subst hn
     simp[eqGuard,hx,hy,Go.binOp,Sem.run_bind,heq,iP]
   · subst hn
     simp[eqGuard,hx,hy,Go.binOp,Sem.run_bind,heq,iP]
 · exact absurd ag aC
theorem LM {op:BinOp} {t t2:TypeId} {x y:Operand} {x' y':bg} {ks:List Nat} (hr:Rel X T a μ) (ho:o.op= .binOp op t x y t2) (dN:op= .eql∨op= .neq)
   (hg:X.P.eqGuardType X.P.depth t=false) (hk:mJ X 100 t=some ks) (Ju:je X t=some true)
   (h1:du X x=some x') (h2:du X y=some y') {neg:Bool} (hn:neg=iP op)
   (ag: (aF E (.KC neg ks x' y')).run C ⟨T,μ.O⟩=some (v,σ')):σ'.T=T∧de X o a μ σ'.O v:=by
 simp only[aF,bP] at ag
 have hx:=aX hr h1 μ.O
 have hy:=aX hr h2 μ.O
 split at ag
 · rename_i p q e1 e2
   split at ag
   · rename_i b hb
     obtain⟨rfl,rfl⟩:=bo ag
     rw[e1] at hx;rw[e2] at hy
     simp only[au] at hx hy
     obtain⟨_,xs,GX,fD⟩:=hx
     obtain⟨_,ys,hys,gi⟩:=hy
     refine⟨rfl,aS (val:= .bool (b !=neg)) hr.bB ?_ (by simp[au])⟩
     simp only[execOp,ho]
     refine cO ?_
     obtain⟨_,hh⟩:=(W8 (X:=X) (μ:=μ) μ.w 100).1 t ks p q _ _ b 10000 hk (by omega) fD gi hb
     rcases hh with⟨_,hh⟩ | ⟨hh,_⟩
     · have heq: (Op.equal t (.agg xs) (.agg ys)).run X.P μ.w= .ok b μ.w:=by simpa [Op.equal,Op.maxDepth] using hh
       have Gj: (eqGuard op t x y (.agg xs) (.agg ys)).run X.P μ.w= .ok () μ.w:=run_eqGuard_agg μ.w op t x y xs ys hg
       rw[GX,hys]
       rcases dN with rfl| rfl
       · subst hn
         simp only[Sem.run_bind,Gj,Result.andThen_ok,Go.binOp,heq,iP];simp
       · subst hn
         simp only[Sem.run_bind,Gj,Result.andThen_ok,Go.binOp,heq,iP];simp
     · rw[Ju] at hh;cases hh
   · exact absurd ag aC
 · exact absurd ag aC
theorem zc {t k:Nat}: ∀ {ks:List (Nat×Nat)},sj t ks=some k→(t,k) ∈ ks
 | [],h=>by simp[sj] at h
 | (t',k')::ks,h=>by
   simp only[sj] at h
   cases hb:Nat.beq t' t with
   | true=>
     have:=Nat.eq_of_beq_eq_true hb
     rw[hb] at h
     simp at h;subst h;subst this;simp
   | false=>
     rw[hb] at h
     exact List.mem_cons_of_mem _ (zc h)
theorem Ea {X:TrEnv} {t k:Nat} (h: (t,k) ∈ xP X): ∃T i D,X.ku T=some t∧X.P.info? T=some i∧i.comparable=true∧bG X T=some D∧
   ((k=0∧D= .bool)∨(k=1∧ ∃q,D= .int q)∨(k=2∧D= .string)):=by
 simp only[xP,List.mem_filterMap] at h
 obtain⟨T,_,h⟩:=h
 split at h
 · rename_i h1 h2 h3
   simp only[Option.map_eq_some_iff] at h2
   obtain⟨i,hi,hc⟩:=h2
   simp at h;obtain⟨rfl,rfl⟩:=h
   exact⟨T,i,_,h1,hi,hc,h3,.inl ⟨rfl,rfl⟩⟩
 · rename_i h1 h2 h3
   simp only[Option.map_eq_some_iff] at h2
   obtain⟨i,hi,hc⟩:=h2
   simp at h;obtain⟨rfl,rfl⟩:=h
   exact⟨T,i,_,h1,hi,hc,h3,.inr (.inl ⟨rfl,_,rfl⟩)⟩
 · rename_i h1 h2 h3
   simp only[Option.map_eq_some_iff] at h2
   obtain⟨i,hi,hc⟩:=h2
   simp at h;obtain⟨rfl,rfl⟩:=h
   exact⟨T,i,_,h1,hi,hc,h3,.inr (.inr ⟨rfl,rfl⟩)⟩
 · simp at h
theorem ux {P:Program} {w:World} (d:Nat) {ti tp:TypeId} {ms:Array (String×TypeId)} {i:TypeInfo} {u v:Value} {b:Bool} (hi:P.underlying ti=some (.interface ms)) (ab7:P.info? tp=some i) (ab8:i.comparable=true)
  (h: (Op.equalIn d tp u v).run P w= .ok b w): (Op.equalIn (d+1) ti (.iface tp u) (.iface tp v)).run P w= .ok b w:=by
 simp[Op.equalIn,run_underlying hi,typeInfo,ab7,ab8,h]
theorem zd {P:Program} {w:World} (d:Nat) {ti tp:TypeId} {ms:Array (String×TypeId)} {u:Value} (hi:P.underlying ti=some (.interface ms)):
  (Op.equalIn (d+1) ti .nilIface (.iface tp u)).run P w= .ok false w:=by
 simp[Op.equalIn,run_underlying hi]
theorem ze {P:Program} {w:World} (d:Nat) {ti tp:TypeId} {ms:Array (String×TypeId)} {u:Value} (hi:P.underlying ti=some (.interface ms)):
  (Op.equalIn (d+1) ti (.iface tp u) .nilIface).run P w= .ok false w:=by
 simp[Op.equalIn,run_underlying hi]
theorem Xb {op:BinOp} {t t2:TypeId} {x y:Operand} {x' y':bg} (hr:Rel X T a μ) (ho:o.op= .binOp op t x y t2) (dN:op= .eql∨op= .neq) (hd: ∃ms,bG X t=some (.interface ms))
   (oW: ∀t1 t2 k,X.ku t1=some k→X.ku t2=some k→t1=t2)
   (h1:du X x=some x') (h2:du X y=some y') {neg:Bool} (hn:neg=iP op)
   (ag: (aF E (.YC neg (xP X) x' y')).run C ⟨T,μ.O⟩=some (v,σ')):σ'.T=T∧de X o a μ σ'.O v:=by
 simp only[aF,bP] at ag
 have hx:=aX hr h1 μ.O
 have hy:=aX hr h2 μ.O
 obtain⟨ms,hd⟩:=hd
 have fin: ∀b,(Op.equal t (a.eval x) (a.eval y)).run X.P μ.w= .ok b μ.w→(eqGuard op t x y (a.eval x) (a.eval y)).run X.P μ.w= .ok () μ.w→
     (∀k1 k2 m1 m2,¬ (a.eval x= .int k1 m1∧a.eval y= .int k2 m2))→
     (Go.binOp op t (a.eval x) (a.eval y)).run X.P μ.w= .ok (.bool (b !=neg)) μ.w→de X o a μ μ.O (.bool (b !=neg)):=fun b heq Gj _ hb=>by
   refine aS (val:= .bool (b !=neg)) hr.bB ?_ (by simp[au])
   simp only[execOp,ho]
   refine cO ?_
   simp only[Sem.run_bind,Gj,Result.andThen_ok,hb]
 split at ag
 · rename_i s p s' q e1 e2
   rw[e1] at hx;rw[e2] at hy
   simp only[au] at hx hy
   obtain⟨T1,u1,hx,Xc,hp⟩:=hx
   obtain⟨T2,u2,hy,ht2,hq⟩:=hy
   split at ag
   · rename_i hss
     subst hss
     split at ag
     · rename_i k hk
       split at ag
       · rename_i b hb
         obtain⟨rfl,rfl⟩:=bo ag
         obtain⟨T0,i,D,k1,k2,k3,k4,k5⟩:=Ea (zc hk)
         obtain rfl:=oW T1 T0 _ Xc k1
         obtain rfl:=oW T2 T1 _ ht2 k1
         have heq: (Op.equal t (.iface T2 u1) (.iface T2 u2)).run X.P μ.w= .ok b μ.w:=
           ux 9999 hd k2 k3 (HO (m:=9998) k4 k5 hp hq hb μ.w)
         refine⟨rfl,fin b (by rw[hx,hy];exact heq) (by rw[hx,hy];rcases dN with rfl| rfl<;>simp[eqGuard]) (by simp[hx]) ?_⟩
         rw[hx,hy]
         rcases dN with rfl| rfl
         · subst hn
           simp[Go.binOp,Sem.run_bind,heq,iP]
         · subst hn
           simp[Go.binOp,Sem.run_bind,heq,iP]
       · exact absurd ag aC
     · exact absurd ag aC
   · exact absurd ag aC
 · rename_i s p e1 e2
   rw[e1] at hx;rw[e2] at hy
   simp only[au] at hx hy
   obtain⟨T2,u2,hy,ht2,hq⟩:=hy
   obtain⟨rfl,rfl⟩:=bo ag
   have heq: (Op.equal t .nilIface (.iface T2 u2)).run X.P μ.w= .ok false μ.w:=zd 9999 hd
   refine⟨rfl,?_⟩
   have:=fin false (by rw[hx,hy];exact heq) (by rw[hx,hy];rcases dN with rfl| rfl<;>simp[eqGuard]) (by simp[hx]) (by
     rw[hx,hy]
     rcases dN with rfl| rfl
     · subst hn
       simp[Go.binOp,Sem.run_bind,heq,iP]
     · subst hn
       simp[Go.binOp,Sem.run_bind,heq,iP])
   simpa using this
 · rename_i s p e1 e2
   rw[e1] at hx;rw[e2] at hy
   simp only[au] at hx hy
   obtain⟨T2,u2,hx,ht2,hq⟩:=hx
   obtain⟨rfl,rfl⟩:=bo ag
   have heq: (Op.equal t (.iface T2 u2) .nilIface).run X.P μ.w= .ok false μ.w:=ze 9999 hd
   refine⟨rfl,?_⟩
   have:=fin false (by rw[hx,hy];exact heq) (by rw[hx,hy];rcases dN with rfl| rfl<;>simp[eqGuard]) (by simp[hx]) (by
     rw[hx,hy]
     rcases dN with rfl| rfl
     · subst hn
       simp[Go.binOp,Sem.run_bind,heq,iP]
     · subst hn
       simp[Go.binOp,Sem.run_bind,heq,iP])
   simpa using this
 · exact absurd ag aC
theorem lK {P:Program} {w:World} (d:Nat) {t e:TypeId} (q:Option Addr) (hi:P.underlying t=some (.pointer e)):
  (Op.equalIn (d+1) t (.pointer none) (.pointer q)).run P w= .ok q.isNone w:=by
 simp[Op.equalIn,run_underlying hi]
theorem pT {P:Program} {w:World} (d:Nat) {t e:TypeId} (p:Addr) (hi:P.underlying t=some (.pointer e)):
  (Op.equalIn (d+1) t (.pointer (some p)) (.pointer none)).run P w= .ok false w:=by
 simp[Op.equalIn,run_underlying hi]
theorem zf {P:Program} {w:World} (d:Nat) {t e:TypeId} {inf:TypeInfo} {n:Nat} {b o o':Nat} (hi:P.underlying t=some (.pointer e)) (xr:P.info? e=some inf) (hse:P.cellsOf e=n+1):
  (Op.equalIn (d+1) t (.pointer (some ⟨b,o,none⟩)) (.pointer (some ⟨b,o',none⟩))).run P w= .ok (o==o') w:=by
 have hq: ((⟨b,o,none⟩:Addr)==⟨b,o',none⟩)=(o==o'):=by
  rw[Bool.eq_iff_iff]
  simp only[beq_iff_eq,Addr.mk.injEq,true_and,and_true]
 simp[Op.equalIn,run_underlying hi,Sem.run_bind,run_sizeOf (w:=w) xr,hse,sameAddr,hq]
theorem Xd {op:BinOp} {t e t2:TypeId} {n:Nat} {x y:Operand} {x' y':bg} (hr:Rel X T a μ) (ho:o.op= .binOp op t x y t2) (dN:op= .eql∨op= .neq) (hd:bG X t=some (.pointer e)) (cJ:bT X e=some (n+1))
  (h1:du X x=some x') (h2:du X y=some y') {neg:Bool} (hn:neg=iP op)
  (ag: (aF E (.Sk neg x' y')).run C ⟨T,μ.O⟩=some (v,σ')):σ'.T=T∧de X o a μ σ'.O v:=by
 simp only[aF,bP] at ag
 have hx:=aX hr h1 μ.O
 have hy:=aX hr h2 μ.O
 obtain⟨hb,rfl⟩:=eu ag
 rw[Option.map_eq_some_iff] at hb
 obtain⟨b,hb,rfl⟩:=hb
 have oV:X.P.underlying t=some (.pointer e):=hd
 obtain⟨inf,xr,gv⟩: ∃inf,X.P.info? e=some inf∧inf.size=n+1:=by simpa [bT,info] using cJ
 have hse:X.P.cellsOf e=n+1:=by simp[Program.cellsOf,xr,gv]
 have key: ∃p q,a.eval x= .pointer p∧a.eval y= .pointer q∧(Op.equal t (.pointer p) (.pointer q)).run X.P μ.w= .ok b μ.w:=by
  unfold GZ at hb
  split at hb
  · rename_i e1 e2
    rw[e1] at hx;rw[e2] at hy
    simp only[au] at hx hy
    simp only[Option.some.injEq] at hb;subst hb
    exact⟨_,_,hx,hy,lK 9999 none oV⟩
  · rename_i e1 e2
    rw[e1] at hx;rw[e2] at hy
    simp only[au] at hx hy
    simp only[Option.some.injEq] at hb;subst hb
    obtain⟨_,_,_,_,_,_,hy,_⟩:=hy
    exact⟨_,_,hx,hy,lK 9999 _ oV⟩
  · rename_i e1 e2
    rw[e1] at hx;rw[e2] at hy
    simp only[au] at hx hy
    simp only[Option.some.injEq] at hb;subst hb
    obtain⟨_,_,_,hy,_⟩:=hy
    exact⟨_,_,hx,hy,lK 9999 _ oV⟩
  · rename_i e1 e2
    rw[e1] at hx;rw[e2] at hy
    simp only[au] at hx hy
    simp only[Option.some.injEq] at hb;subst hb
    obtain⟨_,_,_,_,_,_,hx,_⟩:=hx
    exact⟨_,_,hx,hy,pT 9999 _ oV⟩
  · rename_i e1 e2
    rw[e1] at hx;rw[e2] at hy
    simp only[au] at hx hy
    simp only[Option.some.injEq] at hb;subst hb
    obtain⟨_,_,_,hx,_⟩:=hx
    exact⟨_,_,hx,hy,pT 9999 _ oV⟩
  · rename_i i z e0 i' z' e0' e1 e2
    rw[e1] at hx;rw[e2] at hy
    simp only[au] at hx hy
    split at hb<;>simp only[Option.some.injEq,reduceCtorEq] at hb
    rename_i hz
    obtain⟨rfl,YD⟩:=hz
    subst hb
    obtain⟨_,_,_,hx,_⟩:=hx
    obtain⟨_,_,_,hy,_⟩:=hy
    refine⟨_,_,hx,hy,?_⟩
    have hq: (X.tok.2+i*z+0==X.tok.2+i'*z+0)=(i==i'):=by
     rw[Bool.eq_iff_iff]
     simp only[beq_iff_eq]
     constructor
     · intro h
       have:i*z=i'*z:=by omega
       exact Nat.eq_of_mul_eq_mul_right YD this
     · rintro rfl;rfl
    exact(zf 9999 oV xr hse).trans (by rw[hq])
  · simp at hb
 obtain⟨p,q,hp,hq,heq⟩:=key
 refine⟨rfl,aS (val:= .bool (b !=neg)) hr.bB ?_ (by simp[au])⟩
 simp only[execOp,ho,hp,hq]
 refine cO ?_
 subst hn
 rcases dN with rfl| rfl<;>simp[eqGuard,Go.binOp,Sem.run_bind,heq,iP]
theorem ab9 {op:UnOp} {t:TypeId} {x:Operand} {x':bg} (hr:Rel X T a μ) (ho:o.op= .unOp op t x) (h1:du X x=some x')
  (ag: (aF E (.un op x')).run C ⟨T,μ.O⟩=some (v,σ')):σ'.T=T∧de X o a μ σ'.O v:=by
 simp only[aF,bP] at ag
 obtain⟨hb,rfl⟩:=eu ag
 have hx:=aX hr h1 μ.O
 have: ∃val,(Op.unary op (a.eval x)).run X.P μ.w= .ok val μ.w∧au X μ v val:=by
  unfold Fv at hb
  split at hb
  · rename_i k n e
    simp at hb;subst hb
    rw[e] at hx;simp only[au] at hx
    exact⟨.int k (k.wrap (0 - n)),by simp[hx,Op.unary,Op.intArith],by simp[au]⟩
  · rename_i b e
    simp at hb;subst hb
    rw[e] at hx;simp only[au] at hx
    exact⟨.bool (!b),by simp[hx,Op.unary],by simp[au]⟩
  · rename_i k n e
    simp only[ml,Option.some.injEq] at hb;subst hb
    rw[e] at hx;simp only[au] at hx
    exact⟨_,by simp[hx,Op.unary,Op.intBits];rfl,by simp[au]⟩
  · simp at hb
 obtain⟨val,h2,h3⟩:=this
 refine⟨rfl,aS hr.bB ?_ h3⟩
 simp only[execOp,ho]
 exact cO h2
theorem Gk {s d:TypeId} {x:Operand} {x':bg} {k k0:IntKind} (hr:Rel X T a μ) (ho:o.op= .convert s d x) (hs:bG X s=some (.int k0)) (hd:bG X d=some (.int k))
   (h1:du X x=some x') (ag: (aF E (.il k x')).run C ⟨T,μ.O⟩=some (v,σ')):σ'.T=T∧de X o a μ σ'.O v:=by
 simp only[aF,bP] at ag
 have hx:=aX hr h1 μ.O
 split at ag
 · rename_i k1 n1 e
   obtain⟨rfl,rfl⟩:=bo ag
   rw[e] at hx;simp only[au] at hx
   refine⟨rfl,aS (val:= .int k (k.wrap n1)) hr.bB ?_ (by simp[au])⟩
   simp only[execOp,ho]
   refine cO ?_
   simp[convert,Sem.run_bind,run_underlying hs,run_underlying hd,hx,Conv.intToInt]
 · exact absurd ag aC
theorem Jv {s d:TypeId} {x:Operand} {x':bg} {k0:IntKind} (hr:Rel X T a μ) (ho:o.op= .convert s d x) (hs:bG X s=some (.int k0)) (hd:bG X d=some (.float .f64))
   (h1:du X x=some x') (ag: (aF E (.yt x')).run C ⟨T,μ.O⟩=some (v,σ')):σ'.T=T∧de X o a μ σ'.O v:=by
 simp only[aF,bP] at ag
 have hx:=aX hr h1 μ.O
 split at ag
 · rename_i k1 n1 e
   obtain⟨rfl,rfl⟩:=bo ag
   rw[e] at hx;simp only[au] at hx
   refine⟨rfl,aS (val:= .float .f64 (FloatKind.f64.nearest n1)) hr.bB ?_ (by simp[au])⟩
   simp only[execOp,ho]
   refine cO ?_
   simp[convert,Sem.run_bind,run_underlying hs,run_underlying hd,hx,Conv.intToFloat]
 · exact absurd ag aC
theorem Jw {s d:TypeId} {x:Operand} {x':bg} {k:IntKind} (hr:Rel X T a μ) (ho:o.op= .convert s d x) (hs:bG X s=some (.float .f64)) (hd:bG X d=some (.int k))
   (h1:du X x=some x') (ag: (aF E (.yu k x')).run C ⟨T,μ.O⟩=some (v,σ')):σ'.T=T∧de X o a μ σ'.O v:=by
 simp only[aF,bP] at ag
 have hx:=aX hr h1 μ.O
 split at ag
 · rename_i b e
   split at ag
   · rename_i n hn
     split at ag
     · rename_i hle
       obtain⟨rfl,rfl⟩:=bo ag
       rw[e] at hx;simp only[au] at hx
       refine⟨rfl,aS (val:= .int k n) hr.bB ?_ (by simp[au])⟩
       simp only[execOp,ho]
       refine cO ?_
       simp[convert,Sem.run_bind,run_underlying hs,run_underlying hd,hx,Conv.floatToInt,hn,hle]
     · exact absurd ag aC
   · exact absurd ag aC
 · exact absurd ag aC
theorem Gl {s d:TypeId} {x:Operand} {x':bg} (hr:Rel X T a μ) (ho:o.op= .convert s d x) (hs:bG X s=some .string) (hd:bG X d=some .string)
   (h1:du X x=some x') (ag: (aF E (.tJ x')).run C ⟨T,μ.O⟩=some (v,σ')):σ'.T=T∧de X o a μ σ'.O v:=by
 simp only[aF,bP] at ag
 have hx:=aX hr h1 μ.O
 split at ag
 · rename_i b e
   obtain⟨rfl,rfl⟩:=bo ag
   rw[e] at hx;simp only[au] at hx
   obtain⟨bs,Eb,rfl⟩:=hx
   refine⟨rfl,aS (val:= .string bs) hr.bB ?_ (by simp[au])⟩
   simp only[execOp,ho]
   refine cO ?_
   simp[convert,Sem.run_bind,run_underlying hs,run_underlying hd,Eb]
 · exact absurd ag aC
theorem eD {c:Call} {b:Builtin} {val:Value} {w w':World} (ho:o.op= .call c) (hc:c.callee= .builtin b)
  (h: (builtin b c.argTypes o.type (c.args.map fun| .const _=>true| _=>false) (c.args.map a.eval)).run X.P w= .ok (.value val) w'):
  (execOp a.eval o).run X.P w= .ok (.value val) w':=by
 simp only[execOp,ho,resolve,hc,Sem.run_bind,Sem.run_pure,Result.andThen_ok,invoke]
 exact h
theorem Xf {c:Call} {x:Operand} {t e:TypeId} {x':bg} (hr:Rel X T a μ) (ho:o.op= .call c) (hc:c.callee= .builtin .len) (ha:c.args= #[x]) (ht:c.argTypes= #[t])
  (hd:bG X t=some (.slice e)) (h1:du X x=some x') (ag: (aF E (.len x')).run C ⟨T,μ.O⟩=some (v,σ')):
  σ'.T=T∧de X o a μ σ'.O v:=by
 simp only[aF,bP] at ag
 obtain⟨hb,rfl⟩:=eu ag
 have hx:=aX hr h1 μ.O
 have key: ∃n:Nat,(Builtin.len_ #[t] o.type #[a.eval x]).run X.P μ.w= .ok (goInt n) μ.w∧v= .int .i64 n:=by
  cases hy:bM ⟨T,μ.O⟩ x'<;>rw[hy] at hb hx<;>simp[rf] at hb
  · simp only[au] at hx
    obtain⟨p,hp⟩:=hx
    exact⟨0,by simp[Builtin.len_,Sem.run_bind,run_underlying hd,hp],hb.symm⟩
  · simp only[au] at hx
    obtain⟨_,_,p,cap,vs,hp,_⟩:=hx
    exact⟨_,by simp[Builtin.len_,Sem.run_bind,run_underlying hd,hp],hb.symm⟩
  · simp only[au] at hx
    obtain⟨p,cap,hp,_⟩:=hx
    exact⟨_,by simp[Builtin.len_,Sem.run_bind,run_underlying hd,hp],hb.symm⟩
  · simp only[au] at hx
    obtain⟨_,_,p,cap,vs,hp,_⟩:=hx
    exact⟨_,by simp[Builtin.len_,Sem.run_bind,run_underlying hd,hp],hb.symm⟩
 obtain⟨n,h2,rfl⟩:=key
 refine⟨rfl,aS (val:=goInt n) hr.bB ?_ (by simp[au,goInt])⟩
 refine eD ho hc ?_
 simp only[builtin,ha,ht]
 refine cO ?_
 simpa using h2
theorem Jy {c:Call} {x:Operand} {t:TypeId} {x':bg} (hr:Rel X T a μ) (ho:o.op= .call c) (hc:c.callee= .builtin .len) (ha:c.args= #[x]) (ht:c.argTypes= #[t])
   (hd:bG X t=some .string) (h1:du X x=some x') (ag: (aF E (.dM x')).run C ⟨T,μ.O⟩=some (v,σ')):
   σ'.T=T∧de X o a μ σ'.O v:=by
 simp only[aF,bP] at ag
 have hx:=aX hr h1 μ.O
 split at ag
 · rename_i s e
   obtain⟨rfl,rfl⟩:=bo ag
   rw[e] at hx;simp only[au] at hx
   obtain⟨bs,Eb,rfl⟩:=hx
   refine⟨rfl,aS (val:=goInt bs.size) hr.bB ?_ (by simp only[au,goInt];rw[Array.length_toList];rfl)⟩
   refine eD ho hc ?_
   simp only[builtin,ha,ht]
   refine cO ?_
   simp[Builtin.len_,Sem.run_bind,run_underlying hd,Eb]
 · exact absurd ag aC
theorem Jz {c:Call} {x:Operand} {t e:TypeId} {n:Nat} (hr:Rel X T a μ) (ho:o.op= .call c) (hc:c.callee= .builtin .len) (ha:c.args= #[x]) (ht:c.argTypes= #[t])
  (hd:bG X t=some (.array n e)) (ag: (aF E (.move (.const (.int .i64 n)))).run C ⟨T,μ.O⟩=some (v,σ')):
  σ'.T=T∧de X o a μ σ'.O v:=by
 simp only[aF,bP,bM] at ag
 obtain⟨rfl,rfl⟩:=bo ag
 refine⟨rfl,aS (val:=goInt n) hr.bB ?_ (by simp[au,goInt])⟩
 refine eD ho hc ?_
 simp only[builtin,ha,ht]
 refine cO ?_
 simp[Builtin.len_,Sem.run_bind,run_underlying hd]
theorem A8 {w:World}: ∀ {xs:List V} {x:V} {u:V} {xv:Value} {vs:List Value},au X μ x xv→ak X μ xs vs→js min2 (x::xs)=some u→
   ∃val,(vs.foldlM Builtin.min2 xv).run X.P w= .ok val w∧au X μ u val
 | [],x,u,xv,[],hx,_,h=>by simp[js,iZ] at h;subst h;exact⟨xv,by simp,hx⟩
 | [],_,_,_,_::_,_,hv,_=>by simp[ak] at hv
 | _::_,_,_,_,[],_,hv,_=>by simp[ak] at hv
 | y::ys,x,u,xv,yv::vs,hx,hv,h=>by
   simp only[ak] at hv
   simp only[js,iZ] at h
   split at h
   · rename_i z hz
     have: ∃zv,(Builtin.min2 xv yv).run X.P w= .ok zv w∧au X μ z zv:=by
      unfold min2 at hz
      split at hz
      · split at hz<;>simp at hz
        rename_i hk;subst hk;subst hz
        have h1:=hv.1
        simp only[au] at hx h1
        subst hx;subst h1
        exact⟨_,by simp[Builtin.min2];rfl,by simp[au]⟩
      · simp at hz
     obtain⟨zv,h1,h2⟩:=this
     obtain⟨val,h3,h4⟩:=A8 (w:=w) h2 hv.2 h
     exact⟨val,by simp[List.foldlM_cons,Sem.run_bind,h1,h3],h4⟩
   · simp at h
theorem A9 {w:World}: ∀ {xs:List V} {x:V} {u:V} {xv:Value} {vs:List Value},au X μ x xv→ak X μ xs vs→js max2 (x::xs)=some u→
   ∃val,(vs.foldlM Builtin.max2 xv).run X.P w= .ok val w∧au X μ u val
 | [],x,u,xv,[],hx,_,h=>by simp[js,iZ] at h;subst h;exact⟨xv,by simp,hx⟩
 | [],_,_,_,_::_,_,hv,_=>by simp[ak] at hv
 | _::_,_,_,_,[],_,hv,_=>by simp[ak] at hv
 | y::ys,x,u,xv,yv::vs,hx,hv,h=>by
   simp only[ak] at hv
   simp only[js,iZ] at h
   split at h
   · rename_i z hz
     have: ∃zv,(Builtin.max2 xv yv).run X.P w= .ok zv w∧au X μ z zv:=by
      unfold max2 at hz
      split at hz
      · split at hz<;>simp at hz
        rename_i hk;subst hk;subst hz
        have h1:=hv.1
        simp only[au] at hx h1
        subst hx;subst h1
        exact⟨_,by simp[Builtin.max2];rfl,by simp[au]⟩
      · simp at hz
     obtain⟨zv,h1,h2⟩:=this
     obtain⟨val,h3,h4⟩:=A9 (w:=w) h2 hv.2 h
     exact⟨val,by simp[List.foldlM_cons,Sem.run_bind,h1,h3],h4⟩
   · simp at h
theorem Xg {c:Call} {xs:List bg} (hr:Rel X T a μ) (ho:o.op= .call c) (hc:c.callee= .builtin .min) (h1:rp X c.args.toList=some xs)
   (ag: (aF E (.min xs)).run C ⟨T,μ.O⟩=some (v,σ')):σ'.T=T∧de X o a μ σ'.O v:=by
 simp only[aF,oa] at ag
 obtain⟨hb,rfl⟩:=eu ag
 have hx:=pS hr μ.O h1
 generalize hq:xs.map (bM ⟨T,μ.O⟩)=us at hb hx
 generalize hp:c.args.toList.map a.eval=vs at hx
 match us,vs,hx,hb with
 | [],_,_,hb=>simp[js,iZ] at hb
 | u::us,[],hx,_=>simp[ak] at hx
 | u::us,y::vs,hx,hb=>
   simp only[ak] at hx
   obtain⟨val,h2,h3⟩:=A8 (w:=μ.w) hx.1 hx.2 hb
   refine⟨rfl,aS (val:=val) hr.bB (eD ho hc ?_) h3⟩
   simp only[builtin]
   refine cO ?_
   simp only[Builtin.min_,Array.toList_map,hp]
   exact h2
theorem Xh {c:Call} {xs:List bg} (hr:Rel X T a μ) (ho:o.op= .call c) (hc:c.callee= .builtin .max) (h1:rp X c.args.toList=some xs)
   (ag: (aF E (.max xs)).run C ⟨T,μ.O⟩=some (v,σ')):σ'.T=T∧de X o a μ σ'.O v:=by
 simp only[aF,oa] at ag
 obtain⟨hb,rfl⟩:=eu ag
 have hx:=pS hr μ.O h1
 generalize hq:xs.map (bM ⟨T,μ.O⟩)=us at hb hx
 generalize hp:c.args.toList.map a.eval=vs at hx
 match us,vs,hx,hb with
 | [],_,_,hb=>simp[js,iZ] at hb
 | u::us,[],hx,_=>simp[ak] at hx
 | u::us,y::vs,hx,hb=>
   simp only[ak] at hx
   obtain⟨val,h2,h3⟩:=A9 (w:=μ.w) hx.1 hx.2 hb
   refine⟨rfl,aS (val:=val) hr.bB (eD ho hc ?_) h3⟩
   simp only[builtin]
   refine cO ?_
   simp only[Builtin.max_,Array.toList_map,hp]
   exact h2
end
end Go.AM
namespace Go.AM
open Go Go.RowKit
theorem fZ (b q n:Nat): (⟨b,q,none⟩:Addr).add n=⟨b,q+n,none⟩:=by unfold Addr.add;split<;>simp_all
theorem pU: ∀ {xs:List V} {i:Nat} {x:V},V.ae xs=true→xs[i]? =some x→V.aj x=true
 | [],_,_,_,h=>by simp at h
 | y::ys,0,x,hp,h=>by simp[V.ae] at hp;simp at h;rw[←h];exact hp.1
 | y::ys,i+1,x,hp,h=>by simp[V.ae] at hp;simp at h;exact pU hp.2 h
theorem uy: ∀ {xs:List V} (n:Nat),V.ae xs=true→V.ae (xs.take n)=true
 | _,0,_=>by simp[V.ae]
 | [],n+1,_=>by simp[V.ae]
 | y::ys,n+1,h=>by simp[V.ae] at h ⊢;exact⟨h.1,uy n h.2⟩
theorem uz: ∀ {xs:List V} (n:Nat),V.ae xs=true→V.ae (xs.drop n)=true
 | _,0,h=>by simpa using h
 | [],n+1,_=>by simp[V.ae]
 | y::ys,n+1,h=>by simp[V.ae] at h;simpa using uz n h.2
theorem kW {p:V→Bool} {xs:List V} (n:Nat) (h:xs.all p=true): (xs.take n).all p=true:=by
 simp only[List.all_eq_true] at h ⊢
 exact fun x hx=>h x (List.mem_of_mem_take hx)
theorem nj {p:V→Bool} {xs:List V} (n:Nat) (h:xs.all p=true): (xs.drop n).all p=true:=by
 simp only[List.all_eq_true] at h ⊢
 exact fun x hx=>h x (List.mem_of_mem_drop hx)
theorem fb.drop {w:World} {b off sz:Nat} {vs:List Value} (h:fb w b off sz vs) (n:Nat):fb w b (off+n*sz) sz (vs.drop n):=by
 intro i v hv
 simp only[List.getElem?_drop] at hv
 obtain⟨h1,h2⟩:=h (n+i) v hv
 refine⟨h1,fun j c hc=> ?_⟩
 rw[←h2 j c hc]
 congr 2
 rw[Nat.add_mul];omega
theorem fb.take {w:World} {b off sz:Nat} {vs:List Value} (h:fb w b off sz vs) (n:Nat):fb w b off sz (vs.take n):=by
 intro i v hv
 rw[List.getElem?_take] at hv
 split at hv
 · exact h i v hv
 · simp at hv
section
variable {X:Ctx} {E:Env} {C:bO} {o:Oper} {a:Go.Act} {T:Nat→V} {μ:Mu} {v:V} {σ':St}
theorem qP {t:TypeId} {e u:V} {x:Value} {off sz:Nat} {agg:Bool} {w:World} {b q:Nat} (hx:au X μ e x) (hp:part agg off sz e=some u)
   (hg:je X t=some agg) (hn:bT X t=some sz) (hm: ∀j c,x.cells[j]? =some c→w.cell? ⟨b,q+j,none⟩=some c):
   ∃val,(loadVar t ⟨b,q+off,none⟩).run X.P w= .ok val w∧au X μ u val:=by
 cases agg with
 | true=>
   obtain⟨cs,rfl,hle,hv⟩:=oc hx hp
   refine⟨_,?_,hv⟩
   have hl: (cs.extract off (off+sz)).toList.length=sz:=by simp;omega
   have:=run_loadCells_list (P:=X.P) w ⟨b,q+off,none⟩ (cs.extract off (off+sz)).toList (fun j c hc=>by
    rw[fZ]
    have C9:cs[off+j]? =some c:=by
     rw[Array.toList_extract,List.extract_eq_take_drop,List.getElem?_take] at hc
     split at hc
     · simpa using hc
     · simp at hc
    have:=hm (off+j) c (by simpa [Value.cells] using C9)
    rwa [←Nat.add_assoc] at this)
   rw[hl,Array.toArray_toList] at this
   simp[loadVar,Sem.run_bind,qO hg,dU hn,this]
 | false=>
   obtain⟨_,c,hc,hv⟩:=mK hx hp
   refine⟨c,?_,hv⟩
   have:=hm off c hc
   simp[loadVar,Sem.run_bind,qO hg,this]
theorem Ec (ho:bQ X μ) {r idx:Nat} {es:List V} {e:V} (bX: (μ.O r).es=some es) (he:es[idx]? =some e) (h0:0 < (μ.O r).sz):
   ∃x,au X μ e x∧(μ.φ r).cap≠0∧ ∀j c,x.cells[j]? =some c→μ.w.cell? ⟨(μ.φ r).dQ,(μ.φ r).base+idx*(μ.O r).sz+j,none⟩=some c:=by
 obtain⟨_,h2,_,h4⟩:=ho.row r es bX h0
 have bY:idx<es.length:=(List.getElem?_eq_some_iff.1 he).1
 have hc: (μ.φ r).cap≠0:=by omega
 rcases h4 with h4| ⟨c,T',vs,_,_,hv,iY⟩
 · exact absurd h4 hc
 · obtain⟨x,hx,hr⟩:=hv.get he
   exact⟨x,hr,hc,(iY idx x hx).2⟩
theorem HQ {t:TypeId} {x:Operand} {x':bg} {agg:Bool} {sz:Nat} (hr:Rel X T a μ) (ho:o.op= .load t x) (h1:du X x=some x') (hg:je X t=some agg) (hn:bT X t=some sz)
   (ag: (aF E (.load agg sz x')).run C ⟨T,μ.O⟩=some (v,σ')):σ'.T=T∧de X o a μ σ'.O v:=by
 simp only[aF,bP] at ag
 have hx:=aX hr h1 μ.O
 have fin: ∀ (p:Addr),a.eval x= .pointer (some p)→ ∀val,(loadVar t p).run X.P μ.w= .ok val μ.w→(execOp a.eval o).run X.P μ.w= .ok (.value val) μ.w:=fun p hp val hv=>by
   simp only[execOp,ho]
   refine cO ?_
   simp[Instr.loadAt,Instr.sureAddr,Sem.run_bind,hp,hv]
 split at ag
 · rename_i r g idx off e
   simp only[Act.run] at ag
   split at ag
   · rename_i es bX
     split at ag
     · rename_i cW
       split at ag
       · rename_i el qQ
         obtain⟨hp,rfl⟩:=eu ag
         rw[e] at hx
         simp only[au] at hx
         obtain⟨p,hP,_,dm⟩:=hx
         obtain⟨xv,gD,_,gm⟩:=Ec hr.bB bX qQ (dm cW).1
         obtain⟨val,hl,cK⟩:=qP gD hp hg hn gm
         refine⟨rfl,aS hr.bB (fin p hP val ?_) cK⟩
         rw[(dm cW).2];exact hl
       · exact absurd ag aC
     · exact absurd ag aC
   · exact absurd ag aC
 · rename_i el off e
   obtain⟨hp,rfl⟩:=eu ag
   rw[e] at hx
   simp only[au] at hx
   obtain⟨_,_,b,q,sz',xv,hP,_,_,gD,iY⟩:=hx
   obtain⟨val,hl,cK⟩:=qP (w:=μ.w) (b:=b) (q:=q) gD hp hg hn (fun j c hc=>by simpa using (iY 0 xv (by simp)).2 j c hc)
   exact⟨rfl,aS hr.bB (fin _ hP val hl) cK⟩
 · rename_i i z el off e
   obtain⟨hp,rfl⟩:=eu ag
   rw[e] at hx
   simp only[au] at hx
   obtain⟨_,_,xv,hP,_,_,gD,iY⟩:=hx
   obtain⟨val,hl,cK⟩:=qP (w:=μ.w) (b:=X.tok.1) (q:=X.tok.2+i*z) gD hp hg hn (fun j c hc=>by simpa using (iY 0 xv (by simp)).2 j c hc)
   exact⟨rfl,aS hr.bB (fin _ hP val hl) cK⟩
 · exact absurd ag aC
theorem JA {ks:List Nat} {agg:Bool} {sz:Nat} {x:bg} {σ:St} (h: (aF E (.AG ks agg sz x)).run C σ=some (v,σ')): ∃v0,(aF E (.load agg sz x)).run C σ=some (v0,σ')∧v=AM.Fi ks v0:=by
 simp only[aF,bP] at h ⊢
 have fin: ∀ (p:Option V),(dF (p.map (AM.Fi ks))).run C σ=some (v,σ')→ ∃v0,(dF p).run C σ=some (v0,σ')∧v=AM.Fi ks v0:=by
   intro p hp
   cases p with
   | none=>exact absurd hp aC
   | some v0=>
     obtain⟨h1,h2⟩:=eu hp
     simp only[Option.map_some,Option.some.injEq] at h1
     exact⟨v0,by simp only[dF,Act.run,h2],h1.symm⟩
 split at h
 · rename_i r g idx off e
   simp only[Act.run] at h ⊢
   split at h
   · rename_i es bX
     split at h
     · rename_i hg
       split at h
       · rename_i el qQ
         rw[if_pos hg]
         exact fin _ h
       · exact absurd h aC
     · exact absurd h aC
   · exact absurd h aC
 · exact fin _ h
 · exact fin _ h
 · exact absurd h aC
theorem LN {t:TypeId} {x:Operand} {x':bg} {agg:Bool} {sz:Nat} (ks:List Nat) (hr:Rel X T a μ) (ho:o.op= .load t x) (h1:du X x=some x') (hg:je X t=some agg) (hn:bT X t=some sz)
  (ag: (aF E (.AG ks agg sz x')).run C ⟨T,μ.O⟩=some (v,σ')):σ'.T=T∧de X o a μ σ'.O v:=by
 obtain⟨v0,h2,rfl⟩:=JA ag
 obtain⟨h3,val,w',φ',h4,h5,h6,h7⟩:=HQ hr ho h1 hg hn h2
 exact⟨h3,val,w',φ',h4,au.Fi ks h5,h6,h7⟩
theorem Cy { t e:TypeId} {x i:Operand} {x' i':bg} {sz:Nat} (hr:Rel X T a μ) (ho:o.op= .indexAddr t x i) (hd:bG X t=some (.slice e)) (hn:bT X e=some sz)
   (h1:du X x=some x') (h2:du X i=some i') (ag: (aF E (.indexAddr sz x' i')).run C ⟨T,μ.O⟩=some (v,σ')):σ'.T=T∧de X o a μ σ'.O v:=by
 simp only[aF,bP] at ag
 have hx:=aX hr h1 μ.O
 have hi:=aX hr h2 μ.O
 have fin: ∀ (p:Addr) (len cap:Nat) (k:IntKind) (n:Int),a.eval x= .slice (some p) len cap→a.eval i= .int k n→0≤n→n<len→
     (execOp a.eval o).run X.P μ.w= .ok (.value (.pointer (some (p.add (n.toNat*sz))))) μ.w:=fun p len cap k n hp hq vc hn1=>by
   simp only[execOp,ho]
   refine cO ?_
   simp[Instr.indexAt,Sem.run_bind,hp,hq,asIntOf,run_underlying hd,vc,hn1,dU hn]
 split at ag
 · rename_i r g off len k n e1 e2
   simp only[Act.run] at ag
   split at ag
   · rename_i hc
     obtain⟨rfl,rfl⟩:=bo ag
     rw[e1] at hx;rw[e2] at hi
     simp only[au] at hx hi
     obtain⟨p,cap,hp,hlc,ve,dm⟩:=hx
     obtain⟨q0,q1,q2⟩:=dm hc.2.2.2
     have eb:cap≠0:=by omega
     have vR:=q2.resolve_left eb
     rw[vR] at hp
     refine⟨rfl,aS hr.bB (fin _ len cap k n hp hi hc.1 hc.2.1) ?_⟩
     simp only[au]
     refine⟨_,rfl,ve,fun _=> ⟨q0,?_⟩⟩
     rw[fZ,hc.2.2.1]
     simp only[Addr.mk.injEq,true_and,and_true]
     rw[Nat.add_mul];omega
   · exact absurd ag aC
 · rename_i sz' xs k n e1 e2
   split at ag
   · rename_i hc
     split at ag
     · rename_i el qQ
       obtain⟨rfl,rfl⟩:=bo ag
       rw[e1] at hx;rw[e2] at hi
       simp only[au] at hx hi
       obtain⟨gO,KH,p,cap,vs,hp,hlc,xQ,gm⟩:=hx
       have bY:n.toNat<xs.length:=(List.getElem?_eq_some_iff.1 qQ).1
       rcases gm with gm| ⟨b,q,WT,eP,Eb,iY⟩
       · subst gm;simp at bY
       · rw[WT] at hp
         obtain⟨xv,gD,cK⟩:=xQ.get qQ
         refine⟨rfl,aS hr.bB (fin _ xs.length cap k n hp hi hc.1 (by omega)) ?_⟩
         simp only[au]
         refine⟨pU gO qQ,?_,b,q+n.toNat*sz,sz,xv,by rw[fZ];simp,eP,Eb,cK,?_⟩
         · simp only[List.all_eq_true] at KH
           exact KH el (List.mem_of_getElem? qQ)
         · have:=(iY.drop n.toNat).take 1
           rw[hc.2] at this
           have sq: (vs.drop n.toNat).take 1=[xv]:=by
            have JB:n.toNat<vs.length:=(List.getElem?_eq_some_iff.1 gD).1
            rw[List.drop_eq_getElem_cons JB,List.take_succ_cons,List.take_zero]
            rw[List.getElem?_eq_getElem JB] at gD
            injection gD with gD;rw[gD]
           rwa [sq] at this
     · exact absurd ag aC
   · exact absurd ag aC
 · rename_i sz' xs k n e1 e2
   split at ag
   · rename_i hc
     split at ag
     · rename_i el qQ
       obtain⟨rfl,rfl⟩:=bo ag
       rw[e1] at hx;rw[e2] at hi
       simp only[au] at hx hi
       obtain⟨gO,KH,p,cap,vs,hp,hlc,xQ,gm⟩:=hx
       have bY:n.toNat<xs.length:=(List.getElem?_eq_some_iff.1 qQ).1
       rcases gm with gm| ⟨WT,eP,Eb,iY⟩
       · subst gm;simp at bY
       · rw[WT] at hp
         obtain⟨xv,gD,cK⟩:=xQ.get qQ
         refine⟨rfl,aS hr.bB (fin _ xs.length cap k n hp hi hc.1 (by omega)) ?_⟩
         simp only[au]
         refine⟨pU gO qQ,?_,xv,by rw[fZ];simp,eP,Eb,cK,?_⟩
         · simp only[List.all_eq_true] at KH
           exact KH el (List.mem_of_getElem? qQ)
         · have:=(iY.drop n.toNat).take 1
           rw[hc.2.1] at this
           have sq: (vs.drop n.toNat).take 1=[xv]:=by
            have JB:n.toNat<vs.length:=(List.getElem?_eq_some_iff.1 gD).1
            rw[List.drop_eq_getElem_cons JB,List.take_succ_cons,List.take_zero]
            rw[List.getElem?_eq_getElem JB] at gD
            injection gD with gD;rw[gD]
           rwa [sq] at this
     · exact absurd ag aC
   · exact absurd ag aC
 · exact absurd ag aC
theorem Ed {t e:TypeId} {x i:Operand} {x' i':bg} {n sz:Nat} (hr:Rel X T a μ) (ho:o.op= .indexAddr t x i) (hd:bG X t=some (.array n e)) (hn:bT X e=some sz)
   (h1:du X x=some x') (h2:du X i=some i') (ag: (aF E (.bZ n sz x' i')).run C ⟨T,μ.O⟩=some (v,σ')):σ'.T=T∧de X o a μ σ'.O v:=by
 simp only[aF,bP] at ag
 have hx:=aX hr h1 μ.O
 have hi:=aX hr h2 μ.O
 have fin: ∀ (p:Addr) (k:IntKind) (j:Int),a.eval x= .pointer (some p)→a.eval i= .int k j→0≤j→j<n→
     (execOp a.eval o).run X.P μ.w= .ok (.value (.pointer (some (p.add (j.toNat*sz))))) μ.w:=fun p k j hp hq vc hn1=>by
   simp only[execOp,ho]
   refine cO ?_
   simp[Instr.indexAt,Sem.run_bind,hp,hq,asIntOf,run_underlying hd,vc,hn1,dU hn,Instr.sureAddr]
 split at ag
 · rename_i r g idx off k j e1 e2
   split at ag
   · rename_i hc
     obtain⟨rfl,rfl⟩:=bo ag
     rw[e1] at hx;rw[e2] at hi
     simp only[au] at hx hi
     obtain⟨p,hp,ve,dm⟩:=hx
     refine⟨rfl,aS hr.bB (fin p k j hp hi hc.1 hc.2) ?_⟩
     simp only[au]
     refine⟨_,rfl,ve,fun hg=> ⟨(dm hg).1,?_⟩⟩
     rw[(dm hg).2,fZ];simp[Nat.add_assoc]
   · exact absurd ag aC
 · rename_i el off k j e1 e2
   split at ag
   · rename_i hc
     obtain⟨rfl,rfl⟩:=bo ag
     rw[e1] at hx;rw[e2] at hi
     simp only[au] at hx hi
     obtain⟨fY,Cz,b,q,sz',xv,hp,wH⟩:=hx
     refine⟨rfl,aS hr.bB (fin _ k j hp hi hc.1 hc.2) ?_⟩
     simp only[au]
     exact⟨fY,Cz,b,q,sz',xv,by rw[fZ];simp[Nat.add_assoc],wH⟩
   · exact absurd ag aC
 · exact absurd ag aC
theorem Ee {t:TypeId} {x i:Operand} {x' i':bg} (hr:Rel X T a μ) (ho:o.op= .index t x i) (hd:bG X t=some .string)
   (h1:du X x=some x') (h2:du X i=some i') (ag: (aF E (.cj x' i')).run C ⟨T,μ.O⟩=some (v,σ')):σ'.T=T∧de X o a μ σ'.O v:=by
 simp only[aF,bP] at ag
 have hx:=aX hr h1 μ.O
 have hi:=aX hr h2 μ.O
 split at ag
 · rename_i s k n e1 e2
   split at ag
   · rename_i hc
     split at ag
     · rename_i b hb
       obtain⟨rfl,rfl⟩:=bo ag
       rw[e1] at hx;rw[e2] at hi
       simp only[au] at hx hi
       obtain⟨bs,Eb,rfl⟩:=hx
       refine⟨rfl,aS (val:= .int .u8 b.toNat) hr.bB ?_ (by simp[au])⟩
       simp only[execOp,ho]
       refine cO ?_
       have wM:bs[n.toNat]? =some b:=by
        have bY:=(List.getElem?_eq_some_iff.1 hb).1
        have hv:=(List.getElem?_eq_some_iff.1 hb).2
        have cJ:n.toNat<bs.size:=by rw[Array.length_toList] at bY;exact bY
        rw[getElem?_pos bs n.toNat cJ]
        congr 1
       simp[Instr.index,Sem.run_bind,Eb,hi,asIntOf,run_underlying hd,hc,wM]
     · exact absurd ag aC
   · exact absurd ag aC
 · exact absurd ag aC
theorem Ef {t e:TypeId} {x i:Operand} {x' i':bg} {agg:Bool} {n sz:Nat} (hr:Rel X T a μ) (ho:o.op= .index t x i) (hd:bG X t=some (.array n e)) (hg:je X e=some agg)
   (hn:bT X e=some sz) (h1:du X x=some x') (h2:du X i=some i') (ag: (aF E (.pr agg n sz x' i')).run C ⟨T,μ.O⟩=some (v,σ')):σ'.T=T∧de X o a μ σ'.O v:=by
 simp only[aF,bP] at ag
 have hx:=aX hr h1 μ.O
 have hi:=aX hr h2 μ.O
 split at ag
 · rename_i k j e2
   split at ag
   · rename_i hc
     obtain⟨hp,rfl⟩:=eu ag
     rw[e2] at hi
     simp only[au] at hi
     cases hy:bM ⟨T,μ.O⟩ x'<;>rw[hy] at hc hx hp<;>simp[V.isAgg] at hc
     cases agg with
     | true=>
       obtain⟨cs,nT,hle,hv⟩:=oc hx hp
       refine⟨rfl,aS hr.bB ?_ hv⟩
       simp only[execOp,ho]
       refine cO ?_
       simp[Instr.index,Sem.run_bind,nT,hi,asIntOf,run_underlying hd,hc,dU hn,uw hg hn]
     | false=>
       obtain⟨_,c,YE,hv⟩:=mK hx hp
       simp only[au] at hx
       obtain⟨_,cs,nT,_⟩:=hx
       rw[nT] at YE
       refine⟨rfl,aS hr.bB ?_ hv⟩
       simp only[execOp,ho]
       refine cO ?_
       simp[Instr.index,Sem.run_bind,nT,hi,asIntOf,run_underlying hd,hc,dU hn,hY hg cs _ c (by simpa [Value.cells] using YE)]
   · exact absurd ag aC
 · exact absurd ag aC
end
end Go.AM
namespace Go.AM
open Go Go.RowKit
def PH (X:Ctx) (μ:Mu) (x:Option V) (v:Option Value):Prop:=(x=none∧v=none)∨ ∃x' v',x=some x'∧v=some v'∧au X μ x' v'
theorem nk {X:Ctx} {μ:Mu} {T:Nat→V} {a:Go.Act} {x:Option Operand} {y:Option bg} (hr:Rel X T a μ) (h:vO X x=some y) (O:Nat→Obj):
  PH X μ (y.map (bM ⟨T,O⟩)) (x.map a.eval):=by
 rcases LK hr h O with⟨rfl,rfl⟩ | ⟨x',y',rfl,rfl,cK⟩
 · exact .inl ⟨rfl,rfl⟩
 · exact .inr ⟨_,_,rfl,rfl,cK⟩
section
variable {X:Ctx} {E:Env} {C:bO} {o:Oper} {a:Go.Act} {T:Nat→V} {μ:Mu} {v:V} {σ':St}
theorem run_sliceBound {d l y:Nat} {x:V} {xv:Value} {code:BoundsCode} {w:World} (h:au X μ x xv) (hb:cf d (some x)=some l) (hle:l≤y):
  (Instr.sliceBound xv y code).run X.P w= .ok l w:=by
 cases x<;>simp[cf] at hb
 obtain⟨h0,rfl⟩:=hb
 simp only[au] at h
 subst h
 rename_i k n
 have:n≤(y:Int):=by omega
 simp[Instr.sliceBound,asIntOf,Sem.run_bind,h0,this]
theorem gM {isSlice:Bool} {len cap l h:Nat} {lo hi:Option V} {YF YG:Option Value} {w:World} (h1:PH X μ lo YF) (h2:PH X μ hi YG)
   (hl:cf 0 lo=some l) (hh:cf len hi=some h) (YH:l≤h) (eb:h≤cap):
   (Instr.sliceBounds isSlice len cap YF YG none).run X.P w= .ok (l,h,cap) w:=by
 rcases h1 with⟨rfl,rfl⟩ | ⟨lx,lv,rfl,rfl,hlr⟩ <;>rcases h2 with⟨rfl,rfl⟩ | ⟨hx,hv,rfl,rfl,hhr⟩
 · simp[cf] at hl hh;subst hl;subst hh
   simp[Instr.sliceBounds,Sem.run_bind]
 · simp[cf] at hl;subst hl
   simp[Instr.sliceBounds,Sem.run_bind,run_sliceBound hhr hh eb]
 · have hh':=hh
   simp[cf] at hh';subst hh'
   simp[Instr.sliceBounds,Sem.run_bind,run_sliceBound hlr hl YH]
 · simp[Instr.sliceBounds,Sem.run_bind,run_sliceBound hlr hl YH,run_sliceBound hhr hh eb]
theorem jF {isSlice:Bool} {len cap l h m:Nat} {lo:Option V} {hi mx:V} {YF:Option Value} {YG mxv:Value} {w:World} (h1:PH X μ lo YF) (h2:au X μ hi YG) (h3:au X μ mx mxv)
   (hl:cf 0 lo=some l) (hh:cf len (some hi)=some h) (hm:cf 0 (some mx)=some m) (YH:l≤h) (hhm:h≤m) (eb:m≤cap):
   (Instr.sliceBounds isSlice len cap YF (some YG) (some mxv)).run X.P w= .ok (l,h,m) w:=by
 rcases h1 with⟨rfl,rfl⟩ | ⟨lx,lv,rfl,rfl,hlr⟩
 · simp[cf] at hl;subst hl
   simp[Instr.sliceBounds,Sem.run_bind,run_sliceBound h3 hm eb,run_sliceBound h2 hh hhm]
 · simp[Instr.sliceBounds,Sem.run_bind,run_sliceBound h3 hm eb,run_sliceBound h2 hh hhm,run_sliceBound hlr hl YH]
theorem Eg {t:TypeId} {x:Operand} {lo hi:Option Operand} {x':bg} {AU gP:Option bg} (hr:Rel X T a μ) (ho:o.op= .slice t x lo hi none) (hd:bG X t=some .string)
   (h1:du X x=some x') (h2:vO X lo=some AU) (h3:vO X hi=some gP) (ag: (aF E (.eX x' AU gP)).run C ⟨T,μ.O⟩=some (v,σ')):σ'.T=T∧de X o a μ σ'.O v:=by
 simp only[aF,bP,HN] at ag
 obtain⟨hb,rfl⟩:=eu ag
 have hx:=aX hr h1 μ.O
 cases hy:bM ⟨T,μ.O⟩ x'<;>rw[hy] at hb hx<;>simp only[gg,reduceCtorEq] at hb
 rename_i s
 split at hb
 · rename_i l h hl hh
   split at hb<;>simp at hb
   rename_i hle
   subst hb
   simp only[au] at hx
   obtain⟨bs,Eb,hbd⟩:=hx
   have cJ:s.length=bs.size:=by rw[←hbd,Array.length_toList];rfl
   have afM:=gM (isSlice:=false) (len:=bs.size) (cap:=bs.size) (w:=μ.w) (nk hr h2 μ.O) (nk hr h3 μ.O) hl (by rw[←cJ];exact hh) hle.1 (by omega)
   refine⟨rfl,aS (val:= .string (bs.extract l h)) hr.bB ?_ ?_⟩
   · simp only[execOp,ho]
     refine cO ?_
     have oV:X.P.underlying t=some .string:=hd
     simp only[Instr.sliceAt,Sem.run_bind,run_underlying oV,Result.andThen_ok,Instr.slice,Eb]
     have hn: (Option.map a.eval (none:Option Operand))=none:=rfl
     simp only[hn,Option.isSome_none,Bool.false_eq_true,if_false,Sem.run_bind,afM,Result.andThen_ok,Sem.run_pure]
   · simp only[au]
     refine⟨_,rfl,?_⟩
     rw[ByteArray.data_extract,Array.toList_extract,List.extract_eq_take_drop,hbd]
 · simp at hb
theorem LO {     t e:TypeId} {x:Operand} {lo hi mx:Option Operand} {x':bg} {AU gP mx':Option bg} {sz:Nat} (hr:Rel X T a μ) (ho:o.op= .slice t x lo hi mx) (hd:bG X t=some (.slice e))
   (hn:bT X e=some sz) (h1:du X x=some x') (h2:vO X lo=some AU) (h3:vO X hi=some gP) (h4:vO X mx=some mx')
   (ag: (aF E (.slice sz x' AU gP mx')).run C ⟨T,μ.O⟩=some (v,σ')):σ'.T=T∧de X o a μ σ'.O v:=by
 simp only[aF,bP,HN] at ag
 have hx:=aX hr h1 μ.O
 have rl:=nk hr h2 μ.O
 have rh:=nk hr h3 μ.O
 have rm:=nk hr h4 μ.O
 generalize AU.map (bM ⟨T,μ.O⟩)=YF at ag rl
 generalize gP.map (bM ⟨T,μ.O⟩)=YG at ag rh
 generalize mx'.map (bM ⟨T,μ.O⟩)=mxv at ag rm
 have oV:X.P.underlying t=some (.slice e):=hd
 have fin: ∀ (p:Option Addr) (len cap l h m:Nat),a.eval x= .slice p len cap→(Instr.sliceBounds true len cap (lo.map a.eval) (hi.map a.eval) (mx.map a.eval)).run X.P μ.w= .ok (l,h,m) μ.w→
     (execOp a.eval o).run X.P μ.w= .ok (.value (.slice (if m=l then p else p.map (·.add (l*sz))) (h - l) (m - l))) μ.w:=fun p len cap l h m hp hb=>by
   simp only[execOp,ho]
   refine cO ?_
   simp only[Instr.sliceAt,Sem.run_bind,run_underlying oV,Result.andThen_ok,Instr.slice,hp,hb,dU hn,Sem.run_pure]
 split at ag
 · rename_i r g off len ey
   rw[ey] at hx
   simp only[au] at hx
   obtain⟨p,cap,hp,hlc,ve,dm⟩:=hx
   simp only[Act.run] at ag
   split at ag
   · rename_i es bX
     split at ag
     · rename_i Eh
       obtain⟨q0,q1,q2⟩:=dm Eh.1
       have afN:es.length≤(μ.φ r).cap:=(hr.bB.row r es bX q0).2.1
       split at ag
       ·
         rename_i _ l h hl hh
         split at ag
         · rename_i hle
           obtain⟨rfl,rfl⟩:=bo ag
           have hmv:mx.map a.eval=none:=by
             rcases rm with⟨h5,h6⟩ | ⟨_,_,h5,_⟩
             · exact h6
             · cases h5
           have hb:=gM (isSlice:=true) (len:=len) (cap:=cap) (w:=μ.w) rl rh hl hh hle.1 (by omega)
           refine⟨rfl,aS hr.bB (fin p len cap l h cap hp (by rw[hmv];exact hb)) ?_⟩
           simp only[au]
           refine⟨_,_,rfl,by omega,ve,fun _=> ⟨q0,by omega,?_⟩⟩
           by_cases rj:cap=l
           · left;omega
           · right
             rw[if_neg rj]
             have:cap≠0:=by omega
             rw[q2.resolve_left this,Option.map_some,fZ,Eh.2]
             congr 2
             rw[Nat.add_mul];omega
         · exact absurd ag aC
       ·
         rename_i _ l h' m hl hh
         split at ag
         · rename_i _ _ h m' RL
           split at ag
           · rename_i hle
             obtain⟨rfl,rfl⟩:=bo ag
             rcases rm with⟨h5,_⟩ | ⟨mxx,aca,h5,h6,Ei⟩
             · cases h5
             · injection h5 with h5;subst h5
               rcases rh with⟨h7,_⟩ | ⟨xx,acb,h7,h8,Ej⟩
               · cases h7
               · injection h7 with h7;subst h7
                 have hb:=jF (isSlice:=true) (len:=len) (cap:=cap) (w:=μ.w) rl Ej Ei hl hh RL hle.1 hle.2.1 (by omega)
                 refine⟨rfl,aS hr.bB (fin p len cap l h' m' hp (by rw[h6,h8];exact hb)) ?_⟩
                 split
                 · rename_i LP
                   simp only[au]
                   have e1:h' - l=0:=by omega
                   have e2:m' - l=0:=by omega
                   exact⟨_,by rw[e1,e2]⟩
                 · simp[au]
           · exact absurd ag aC
         · exact absurd ag aC
       · exact absurd ag aC
     · exact absurd ag aC
   · exact absurd ag aC
 · obtain⟨ Ad,rfl⟩:=eu ag
   refine⟨rfl,?_⟩
   generalize bM ⟨T,μ.O⟩ x'=y at Ad hx
   cases y<;>simp only[lr,reduceCtorEq] at Ad
   ·
     simp only[au] at hx
     obtain⟨p,hp⟩:=hx
     split at Ad
     · rename_i l h m hl hh hm
       split at Ad<;>simp at Ad
       rename_i hle
       subst Ad
       have e1:l=0:=by omega
       have e2:h=0:=by omega
       have e3:m=0:=by omega
       subst e1;subst e2;subst e3
       have hb: ∃m',(Instr.sliceBounds true 0 0 (lo.map a.eval) (hi.map a.eval) (mx.map a.eval)).run X.P μ.w= .ok (0,0,m') μ.w∧m'=0:=by
         rcases rm with⟨rfl,h6⟩ | ⟨mxx,aca,rfl,h6,Ei⟩
         · rw[h6];exact⟨_,gM (isSlice:=true) (len:=0) (cap:=0) (w:=μ.w) rl rh hl hh (Nat.le_refl _) (Nat.le_refl _),rfl⟩
         · rcases rh with⟨rfl,h8⟩ | ⟨xx,acb,rfl,h8,Ej⟩
           · simp at hle
           · rw[h6,h8];exact⟨_,jF (isSlice:=true) (len:=0) (cap:=0) (w:=μ.w) rl Ej Ei hl hh hm (Nat.le_refl _) (Nat.le_refl _) (Nat.le_refl _),rfl⟩
       obtain⟨m',hb,rfl⟩:=hb
       refine aS hr.bB (fin p 0 0 0 0 0 hp hb) ?_
       simp[au]
     · simp at Ad
   ·
     rename_i sz' xs
     simp only[au] at hx
     obtain⟨gO,KH,p,cap,vs,hp,hlc,xQ,gm⟩:=hx
     split at Ad
     · rename_i acd
       subst acd
       split at Ad
       · rename_i l h hl hh
         split at Ad<;>simp at Ad
         rename_i hle
         subst Ad
         obtain⟨_,hmv⟩: (none:Option V)=none∧mx.map a.eval=none:=by
           rcases rm with⟨h5,h6⟩ | ⟨_,_,h5,_⟩
           · exact⟨rfl,h6⟩
           · cases h5
         have hb:=gM (isSlice:=true) (len:=xs.length) (cap:=cap) (w:=μ.w) rl rh hl hh hle.1 (by omega)
         refine aS hr.bB (fin p xs.length cap l h cap hp (by rw[hmv];exact hb)) ?_
         have sF: (bb xs l (h - l)).length=h - l:=by simp[bb];omega
         simp only[au]
         refine⟨uy _ (uz _ gO),kW _ (nj _ KH),_,_,(vs.drop l).take (h - l),by rw[sF],by rw[sF];omega,ak.take _ (ak.drop _ xQ),?_⟩
         by_cases YH:l=h
         · left;simp[bb,YH]
         · right
           rcases gm with gm| ⟨b,q,WT,eP,Eb,iY⟩
           · subst gm;simp at hle;omega
           · have: ¬cap=l:=by omega
             rw[if_neg this,WT,Option.map_some,fZ]
             exact⟨b,q+l*sz',rfl,eP,Eb,(iY.drop l).take _⟩
       · rename_i l h m hl hh
         split at Ad
         · rename_i hi0 m' RL
           split at Ad<;>simp at Ad
           rename_i hle
           subst Ad
           rcases rm with⟨h5,_⟩ | ⟨mxx,aca,h5,h6,Ei⟩
           · cases h5
           · injection h5 with h5;subst h5
             rcases rh with⟨h7,_⟩ | ⟨xx,acb,h7,h8,Ej⟩
             · cases h7
             · injection h7 with h7;subst h7
               have hb:=jF (isSlice:=true) (len:=xs.length) (cap:=cap) (w:=μ.w) rl Ej Ei hl hh RL hle.1 hle.2.1 (by omega)
               refine aS hr.bB (fin p xs.length cap l h m' hp (by rw[h6,h8];exact hb)) ?_
               split
               · simp only[au]
                 have e1:h - l=0:=by omega
                 have e2:m' - l=0:=by omega
                 exact⟨_,by rw[e1,e2]⟩
               · simp[au]
         · simp at Ad
       · simp at Ad
     · simp at Ad
end
end Go.AM
namespace Go.AM
open Go Go.RowKit
def dk {α:Type} (L:List α) (p:Nat) (m:List α):List α:=L.take p++m++L.drop (p+m.length)
theorem fo {α:Type} {L m:List α} {p:Nat} (h:p+m.length≤L.length): (dk L p m).length=L.length:=by
 simp[dk];omega
theorem fM {α:Type} {L m:List α} {p:Nat} (h:p+m.length≤L.length) (q:Nat):
   (dk L p m)[q]? =if q<p then L[q]? else if q<p+m.length then m[q - p]? else L[q]? :=by
 unfold dk
 rw[List.append_assoc,List.getElem?_append]
 have hl: (L.take p).length=p:=by simp;omega
 rw[hl]
 split
 · rename_i hq
   rw[List.getElem?_take];simp[hq]
 · rename_i hq
   rw[List.getElem?_append]
   split
   · rename_i hm
     rw[if_pos (by omega)]
   · rename_i hm
     rw[if_neg (by omega),List.getElem?_drop]
     congr 1;omega
def ek (c:List Value) (base sz:Nat) (vs:List Value):Prop:=
 ∀i v,vs[i]? =some v→v.cells.size=sz∧ ∀j x,v.cells[j]? =some x→c[base+i*sz+j]? =some x
def flat (us:List Value):List Value:=us.flatMap fun v=>v.cells.toList
theorem fI {us:List Value} {sz:Nat} (h: ∀v ∈ us,v.cells.size=sz): (flat us).length=us.length*sz:=by
 induction us with
 | nil=>simp[flat]
 | cons u us ih=>
   have h1:=h u (by simp)
   have h2:=ih fun v hv=>h v (by simp[hv])
   simp only[flat,List.flatMap_cons,List.length_append,List.length_cons] at h2 ⊢
   rw[h2,Array.length_toList,h1,Nat.add_mul];omega
theorem uA {us:List Value} {sz:Nat} (h: ∀v ∈ us,v.cells.size=sz) {i j:Nat} {v x:Value} (hv:us[i]? =some v) (hx:v.cells[j]? =some x):
   (flat us)[i*sz+j]? =some x:=by
 induction us generalizing i with
 | nil=>simp at hv
 | cons u us ih=>
   have h1:=h u (by simp)
   simp only[flat,List.flatMap_cons]
   cases i with
   | zero=>
     simp at hv;subst hv
     have hj:j<u.cells.size:=(Array.getElem?_eq_some_iff.1 hx).1
     rw[List.getElem?_append_left (by rw[Array.length_toList];omega)]
     simpa using hx
   | succ i=>
     simp at hv
     have:=ih (fun v hv=>h v (by simp[hv])) hv
     rw[List.getElem?_append_right (by rw[Array.length_toList,h1,Nat.add_mul];omega)]
     rw[Array.length_toList,h1]
     have e: (i+1)*sz+j - sz=i*sz+j:=by rw[Nat.add_mul];omega
     rw[e];exact this
theorem xR {sz i j k:Nat} (hj:j<sz) (LQ:i<k):i*sz+j<k*sz:=by
 have: (i+1)*sz≤k*sz:=Nat.mul_le_mul_right _ (by omega)
 rw[Nat.add_mul] at this;omega
theorem CA {sz i j k:Nat} (LQ:k≤i):k*sz≤i*sz+j:=by
 have:k*sz≤i*sz:=Nat.mul_le_mul_right _ LQ
 omega
theorem ek.write {c:List Value} {base sz k:Nat} {vs us:List Value} (h:ek c base sz vs) (hk:k≤vs.length) (Dd: ∀v ∈ us,v.cells.size=sz)
   (rL:base+k*sz+us.length*sz≤c.length):
   ek (dk c (base+k*sz) (flat us)) base sz (vs.take k++us++vs.drop (k+us.length)):=by
 have Ao:=fI Dd
 intro i v hv
 have bY: (vs.take k).length=k:=by simp;omega
 rw[List.append_assoc,List.getElem?_append,bY] at hv
 split at hv
 · rename_i hi
   rw[List.getElem?_take] at hv
   simp only[hi,if_true] at hv
   obtain⟨h1,h2⟩:=h i v hv
   refine⟨h1,fun j x hx=> ?_⟩
   have hj:j<sz:=h1 ▸ (Array.getElem?_eq_some_iff.1 hx).1
   rw[fM (by rw[Ao];omega),if_pos (by have:=xR hj hi;omega)]
   exact h2 j x hx
 · rename_i hi
   rw[List.getElem?_append] at hv
   split at hv
   · rename_i gv
     have hvm:=List.mem_of_getElem? hv
     refine⟨Dd v hvm,fun j x hx=> ?_⟩
     have hj:j<sz:=Dd v hvm ▸ (Array.getElem?_eq_some_iff.1 hx).1
     have ve:=CA (sz:=sz) (j:=j) (show k≤i by omega)
     have Ek:=xR (k:=k+us.length) hj (show i<k+us.length by omega)
     rw[Nat.add_mul] at Ek
     rw[fM (by rw[Ao];omega),if_neg (by omega),if_pos (by rw[Ao];omega)]
     have e:base+i*sz+j - (base+k*sz)=(i - k)*sz+j:=by
      rw[Nat.sub_mul]
      have:=Nat.mul_le_mul_right sz (show k≤i by omega)
      omega
     rw[e]
     exact uA Dd hv hx
   · rename_i gv
     rw[List.getElem?_drop] at hv
     have e:k+us.length+(i - k - us.length)=i:=by omega
     rw[e] at hv
     obtain⟨h1,h2⟩:=h i v hv
     refine⟨h1,fun j x hx=> ?_⟩
     have ve:=CA (sz:=sz) (j:=j) (show k+us.length≤i by omega)
     rw[Nat.add_mul] at ve
     rw[fM (by rw[Ao];omega),if_neg (by omega),if_neg (by rw[Ao];omega)]
     exact h2 j x hx
theorem ek.take {c:List Value} {base sz:Nat} {vs:List Value} (h:ek c base sz vs) (n:Nat):ek c base sz (vs.take n):=by
 intro i v hv
 rw[List.getElem?_take] at hv
 split at hv
 · exact h i v hv
 · simp at hv
theorem ek.drop {c:List Value} {base sz:Nat} {vs:List Value} (h:ek c base sz vs) (n:Nat):ek c (base+n*sz) sz (vs.drop n):=by
 intro i v hv
 rw[List.getElem?_drop] at hv
 obtain⟨h1,h2⟩:=h (n+i) v hv
 refine⟨h1,fun j x hx=> ?_⟩
 rw[←h2 j x hx,Nat.add_mul]
 congr 1;omega
theorem ek.put {c:List Value} {base sz idx off:Nat} {vs m:List Value} {x x':Value} (h:ek c base sz vs) (hx:vs[idx]? =some x)
   (rL:base+(idx+1)*sz≤c.length) (hm:off+m.length≤sz) (sX:x'.cells.toList=dk x.cells.toList off m):
   ek (dk c (base+idx*sz+off) m) base sz (vs.set idx x'):=by
 have cJ:=(h idx x hx).1
 rw[Nat.add_mul] at rL
 have jh:base+idx*sz+off+m.length≤c.length:=by omega
 have Xi:off+m.length≤x.cells.toList.length:=by have:x.cells.toList.length=x.cells.size:=Array.length_toList;omega
 intro i v hv
 rw[List.getElem?_set] at hv
 split at hv
 · rename_i e;subst e
   have bY:idx<vs.length:=(List.getElem?_eq_some_iff.1 hx).1
   simp only[bY,if_true,Option.some.injEq] at hv
   subst hv
   have PI:x'.cells.size=sz:=by rw[←Array.length_toList,sX,fo Xi,Array.length_toList];exact cJ
   refine⟨PI,fun j y hy=> ?_⟩
   have hj:j<sz:=PI ▸ (Array.getElem?_eq_some_iff.1 hy).1
   have RK: (dk x.cells.toList off m)[j]? =some y:=by rw[←sX];simpa using hy
   rw[fM Xi] at RK
   rw[fM jh]
   have e2:base+idx*sz+j - (base+idx*sz+off)=j - off:=by omega
   split at RK
   · rw[if_pos (by omega)]
     exact(h idx x hx).2 j y (by simpa using RK)
   · split at RK
     · rw[if_neg (by omega),if_pos (by omega),e2];exact RK
     · rw[if_neg (by omega),if_neg (by omega)]
       exact(h idx x hx).2 j y (by simpa using RK)
 · rename_i cu
   obtain⟨h1,h2⟩:=h i v hv
   refine⟨h1,fun j y hy=> ?_⟩
   have hj:j<sz:=h1 ▸ (Array.getElem?_eq_some_iff.1 hy).1
   rw[fM jh]
   by_cases bY:i<idx
   · have:=xR hj bY
     rw[if_pos (by omega)];exact h2 j y hy
   · have:=CA (sz:=sz) (j:=j) (show idx+1≤i by omega)
     rw[Nat.add_mul] at this
     rw[if_neg (by omega),if_neg (by omega)];exact h2 j y hy
theorem ia {w:World} {b base sz:Nat} {vs:List Value} {c:Array Value} {T:TypeId} {fr:Nat×Nat} (hb:w.heap[b]? =some (.cells c T fr))
  (h:fb w b base sz vs):ek c.toList base sz vs:=by
 intro i v hv
 obtain⟨h1,h2⟩:=h.LF hb i v hv
 exact⟨h1,fun j x hx=>by simpa using h2 j x hx⟩
theorem qR {P:Program} {w:World} {b q sz n:Nat} {vs:List Value} (h:fb w b q sz vs) (hn:n≤vs.length):
  (loadCells ⟨b,q,none⟩ (n*sz)).run P w= .ok (flat (vs.take n)).toArray w:=by
 have hs: ∀v ∈ vs.take n,v.cells.size=sz:=fun v hv=>by
  obtain⟨i,hi⟩:=List.getElem?_of_mem (List.mem_of_mem_take hv)
  exact(h i v hi).1
 have hl: (flat (vs.take n)).length=n*sz:=by rw[fI hs,List.length_take,Nat.min_eq_left hn]
 rw[←hl]
 refine run_loadCells_list w ⟨b,q,none⟩ _ fun p x hx=> ?_
 rw[fZ]
 have hp:p<n*sz:=by rw[←hl];exact(List.getElem?_eq_some_iff.1 hx).1
 have cJ:0 <sz:=by
  rcases Nat.eq_zero_or_pos sz with e| e
  · subst e;simp at hp
  · exact e
 have hi:p / sz<n:=Nat.div_lt_of_lt_mul (by rw[Nat.mul_comm];exact hp)
 have vR:p / sz*sz+p % sz=p:=by rw[Nat.mul_comm];exact Nat.div_add_mod p sz
 have afO:p / sz<vs.length:=by omega
 have hv:vs[p / sz]? =some vs[p / sz]:=List.getElem?_eq_getElem afO
 have hvt: (vs.take n)[p / sz]? =some vs[p / sz]:=by rw[List.getElem?_take];simp[hi,hv]
 obtain⟨h1,h2⟩:=h _ _ hv
 have hm:p % sz< (vs[p / sz]).cells.size:=by rw[h1];exact Nat.mod_lt _ cJ
 have hc: (vs[p / sz]).cells[p % sz]? =some (vs[p / sz]).cells[p % sz]:=Array.getElem?_eq_getElem hm
 have g1:=uA hs hvt hc
 rw[vR,hx] at g1
 injection g1 with g1
 have g2:=h2 _ _ hc
 rw[Nat.add_assoc,vR,←g1] at g2
 exact g2
end Go.AM
namespace Go.AM
open Go Go.RowKit
theorem cE {v:V} {sz:Nat} (h:aZ v sz=true):v.dX=true∧v.cells.length=sz:=by
 simp[aZ] at h;exact⟨h.2,h.1⟩
theorem gG {X:Ctx} {t:TypeId} {z:V} (h:fq X t=some z) (w:World): ∃zv,(zeroValue t).run X.P w= .ok zv w∧yW zv=some z:=by
 simp only[fq,info,Option.bind_eq_some_iff] at h
 obtain⟨i,h1,zv,h2,h3⟩:=h
 exact⟨zv,by simp[zeroValue,Sem.run_bind,run_typeInfo w h1,h2],h3⟩
theorem ak.nm {X:Ctx} {μ:Mu} {ys:List V} {us:List Value} {sz:Nat} (h:ak X μ ys us) (hb:ys.all (aZ · sz)=true):
   (∀u ∈ us,u.cells.size=sz)∧ ∀c ∈ flat us,c.oneCell'=true:=by
 have hh: ∀u ∈ us,∃y,y ∈ ys∧au X μ y u:=fun u hu=>by
   obtain⟨i,hi⟩:=List.getElem?_of_mem hu
   have bY:i<ys.length:=by rw[h.length];exact(List.getElem?_eq_some_iff.1 hi).1
   obtain⟨u',h1,h2⟩:=h.get (List.getElem?_eq_getElem bY)
   rw[hi] at h1;injection h1 with h1;subst h1
   exact⟨_,List.getElem_mem bY,h2⟩
 simp only[List.all_eq_true] at hb
 refine⟨fun u hu=> ?_,fun c hc=> ?_⟩
 · obtain⟨y,hy,hr⟩:=hh u hu
   obtain⟨h1,h2⟩:=cE (hb y hy)
   rw[hr.ej h1,h2]
 · simp only[flat,List.mem_flatMap] at hc
   obtain⟨u,hu,Xj⟩:=hc
   obtain⟨y,hy,hr⟩:=hh u hu
   obtain⟨h1,h2⟩:=cE (hb y hy)
   obtain⟨j,hj⟩:=List.getElem?_of_mem Xj
   have nT:=hr.cells h1
   have bY:j<y.cells.length:=by rw[nT.length];exact(List.getElem?_eq_some_iff.1 hj).1
   obtain⟨u',g1,g2⟩:=nT.get (List.getElem?_eq_getElem bY)
   rw[hj] at g1;injection g1 with g1;subst g1
   have RM:=hr.uu h1
   simp only[List.all_eq_true] at RM
   exact(g2.nZ (RM _ (List.getElem_mem bY))).1
theorem ib {P:Program} {w:World} {g q:Nat} {cur:Array Value} {T:TypeId} (hg:w.heap[g]? =some (.cells cur T (0,0))) (m:List Value) (hl:q+m.length≤cur.size)
  (h1: ∀v ∈ m,v.oneCell'=true): (storeCells ⟨g,q,none⟩ m).run P w= .ok () (w.setRow g (dk cur.toList q m).toArray):=by
 have:=run_storeCells_at (P:=P) g q T m 0 cur w hg (by simpa using hl) h1
 simpa [dk] using this
section
variable {X:Ctx} {E:Env} {C:bO} {o:Oper} {a:Go.Act} {T:Nat→V} {μ:Mu} {v:V} {σ':St}
theorem zg (hr:Rel X T a μ) {r sz:Nat} {arr:Bool} {es:List V} {vs:List Value} {c:Array Value} {t:TypeId} {val:Value} (cJ:0 <sz) (cap:Nat)
  (eb:es.length≤cap) (oL:es.all (aZ · sz)=true) (cK:ak X μ es vs) (hc:cap*sz≤c.size) (iY:ek c.toList 0 sz vs)
  (ag: (execOp a.eval o).run X.P μ.w= .ok (.value val) (μ.w.alloc (.cells c t (0,0))))
  (hv:let μ':Mu:=⟨μ.w.alloc (.cells c t (0,0)),eI μ.φ r ⟨μ.w.heap.size,0,cap⟩,eI μ.O r {gen:=(μ.O r).gen+1,sz:=sz,arr:=arr,fz:=false,es:=some es}⟩;au X μ' v val):
  de X o a μ (eI μ.O r {gen:=(μ.O r).gen+1,sz:=sz,arr:=arr,fz:=false,es:=some es}) v:=by
 obtain⟨h1,h2⟩:=Cv (X:=X) hr.bB r sz cap arr (es:=es) (vs:=vs) (c:=c) t cJ eb oL cK hc (fun i u hu=>by
  obtain⟨k1,k2⟩:=iY i u hu
  exact⟨k1,fun j x hx=>by simpa using k2 j x hx⟩)
 exact⟨val,_,_,.inl ag,hv,h1,h2⟩
theorem zh {x:Value}:ek x.cells.toList 0 x.cells.size [x]:=by
 intro i v hv
 cases i with
 | zero=>simp at hv;subst hv;exact⟨rfl,fun j y hy=>by simpa using hy⟩
 | succ i=>simp at hv
theorem LR {t:TypeId} {x':bg} {r sz:Nat} {xv:Value} (hr:Rel X T a μ) (hx:au X μ (bM ⟨T,μ.O⟩ x') xv)
   (HR: (execOp a.eval o).run X.P μ.w= .ok (.value (.pointer (some ⟨μ.w.heap.size,0,none⟩))) (μ.w.alloc (.cells xv.cells t (0,0))))
   (ag: (aF E (.new r sz x')).run C ⟨T,μ.O⟩=some (v,σ')):σ'.T=T∧de X o a μ σ'.O v:=by
 simp only[aF,bP] at ag
 split at ag
 · rename_i hb
   simp only[Bool.and_eq_true,decide_eq_true_eq] at hb
   simp only[Act.run,Option.some.injEq,Prod.mk.injEq] at ag
   obtain⟨rfl,rfl⟩:=ag
   obtain⟨hl,rj⟩:=cE hb.1
   have cJ:xv.cells.size=sz:=by rw[hx.ej hl,rj]
   refine⟨rfl,zg hr (cap:=1) (es:=[bM ⟨T,μ.O⟩ x']) (vs:=[xv]) (c:=xv.cells) hb.2 (by simp) (by simp[hb.1]) (by simp[ak,hx]) (by omega) (cJ ▸ zh) HR ?_⟩
   simp only[au,aL]
   exact⟨_,rfl,Nat.le_refl _,fun _=> ⟨hb.2,by simp⟩⟩
 · exact absurd ag aC
theorem LS {t:TypeId} {r sz:Nat} {z:V} (ks:List Nat) (hr:Rel X T a μ) (ho:o.op= .alloc t) (hz:fq X t=some z)
  (ag: (aF E (.new r sz (.const (Fi ks z)))).run C ⟨T,μ.O⟩=some (v,σ')):σ'.T=T∧de X o a μ σ'.O v:=by
 obtain⟨zv,h1,h2⟩:=gG hz μ.w
 refine LR (t:=t) (xv:=zv) hr (au.Fi ks (fm h2).1) ?_ ag
 simp only[execOp,ho]
 refine cO ?_
 simp[Instr.alloc,Sem.run_bind,h1,newVar,newRow]
theorem Xk {t:TypeId} {r sz:Nat} {x:Operand} {x':bg} (ks:List Nat) (hr:Rel X T a μ) (ho:o.op= .box t x) (h1:du X x=some x')
  (ag: (aF E (.new r sz (LB ks x'))).run C ⟨T,μ.O⟩=some (v,σ')):σ'.T=T∧de X o a μ σ'.O v:=by
 refine LR (t:=t) (xv:=a.eval x) hr (au.LB ks (aX hr h1 μ.O)) ?_ ag
 simp only[execOp,ho]
 refine cO ?_
 simp[Instr.box,Sem.run_bind,newVar,newRow]
theorem wQ {zv:Value} {sz n:Nat} (hz:zv.cells.size=sz):
  ((Array.range (n*sz)).map (fun i=>zv.cells[i % zv.cells.size]!)).size=n*sz∧
    ek ((Array.range (n*sz)).map (fun i=>zv.cells[i % zv.cells.size]!)).toList 0 sz (List.replicate n zv):=by
 refine⟨by simp,fun i v hv=> ?_⟩
 rw[List.getElem?_replicate] at hv
 split at hv<;>simp at hv
 rename_i hi
 subst hv
 refine⟨hz,fun j x hx=> ?_⟩
 have hj:j<sz:=hz ▸ (Array.getElem?_eq_some_iff.1 hx).1
 have bY:=xR hj hi
 have hm: (i*sz+j) % sz=j:=by rw[Nat.mul_comm,Nat.mul_add_mod];exact Nat.mod_eq_of_lt hj
 have hr: (Array.range (n*sz))[i*sz+j]? =some (i*sz+j):=by simp[bY]
 simp only[Nat.zero_add,Array.toList_map,List.getElem?_map]
 rw[Array.getElem?_toList,hr]
 simp only[Option.map_some,hz,hm]
 rw[getElem!_def,hx]
theorem ak.replicate {z:V} {zv:Value} (h:au X μ z zv): ∀n,ak X μ (List.replicate n z) (List.replicate n zv)
 | 0=>by simp[ak]
 | n+1=>by simp only[List.replicate_succ,ak];exact⟨h,ak.replicate h n⟩
theorem CB {t e:TypeId} {x y:Operand} {x' y':bg} {r sz:Nat} {i:TypeInfo} {z:V} (hr:Rel X T a μ) (ho:o.op= .makeSlice t x y) (hd:bG X t=some (.slice e)) (hn:bT X e=some sz)
   (hi:info X e=some i) (hz:fq X e=some z) (h1:du X x=some x') (h2:du X y=some y')
   (ag: (aF E (.makeSlice r sz i.bytes z x' y')).run C ⟨T,μ.O⟩=some (v,σ')):σ'.T=T∧de X o a μ σ'.O v:=by
 simp only[aF,bP] at ag
 have hx:=aX hr h1 μ.O
 have hy:=aX hr h2 μ.O
 split at ag
 · rename_i k n k' m e1 e2
   split at ag
   · rename_i hc
     obtain⟨oZ,vJ,YI,Ki,hc5,hc6⟩:=hc
     simp only[Act.run,Option.some.injEq,Prod.mk.injEq] at ag
     obtain⟨rfl,rfl⟩:=ag
     rw[e1] at hx;rw[e2] at hy
     simp only[au] at hx hy
     obtain⟨zv,vS,Ae⟩:=gG hz μ.w
     obtain⟨xz,NA⟩:=fm (X:=X) (μ:=μ) Ae
     have LU:zv.cells.size=sz:=by rw[xz.ej NA,(cE Ki).2]
     obtain⟨afP,se⟩:=wQ (n:=m.toNat) LU
     have hw1:IntKind.i64.wrap n=n:=IntWalk.i64_in _ (by omega)
     have IS:IntKind.i64.wrap m=m:=IntWalk.i64_in _ (by omega)
     have Kg:X.P.underlying t=some (.slice e):=hd
     have hii:X.P.info? e=some i:=hi
     have htl: ¬ (((decide (m< 0) || decide ((i.bytes:Int)*m >2 ^ 48)) || decide (n< 0) || decide (n >m))=true):=by
       simp only[Bool.or_eq_true,decide_eq_true_eq,not_or]
       have: (i.bytes:Int)*m=m*i.bytes:=Int.mul_comm _ _
       have h48: (2:Int) ^ 48=281474976710656:=by decide
       refine⟨⟨⟨by omega,by omega⟩,by omega⟩,by omega⟩
     refine⟨rfl,zg hr (cap:=m.toNat) (es:=List.replicate m.toNat z) (vs:=List.replicate m.toNat zv) (val:= .slice (some ⟨μ.w.heap.size,0,none⟩) n.toNat m.toNat) hc5 (by simp) ?_ (ak.replicate xz _) (by rw[afP];exact Nat.le_refl _) se (t:=e) ?_ ?_⟩
     · simp only[List.all_eq_true,List.mem_replicate]
       rintro q ⟨_,rfl⟩;exact Ki
     · simp only[execOp,ho]
       refine cO ?_
       simp only[Instr.makeSlice,Sem.run_bind,run_underlying Kg,Result.andThen_ok,hx,hy,asInt,asIntOf,Sem.run_pure,run_typeInfo μ.w hii,hw1,IS]
       rw[if_neg htl]
       simp only[Sem.run_bind,run_askRoom,Result.andThen_ok,dU hn]
       by_cases NB:m.toNat*sz=0
       · rw[if_pos NB]
         simp only[Sem.run_pure,Result.andThen_ok,newRow,Sem.run_bind,run_newObj]
         have PJ:Array.range 0= #[]:=rfl
         rw[NB,PJ]
         simp
       · rw[if_neg NB]
         simp only[Sem.run_bind,vS,Result.andThen_ok,Sem.run_pure,newRow,run_newObj]
         simp
     · simp only[au,aL]
       exact⟨_,_,rfl,by omega,Nat.le_refl _,fun _=> ⟨by omega,by simp,by simp⟩⟩
   · exact absurd ag aC
 · exact absurd ag aC
theorem rN {      c:V} {k:V→Act} {val:Value} {O:Nat→Obj} {p:V×St} (ho:bQ X ⟨μ.w,μ.φ,O⟩) (hv:au X ⟨μ.w,μ.φ,O⟩ c val) (ag: (cZ c k).run C ⟨T,O⟩=some p):
   ∃c' O',(k c').run C ⟨T,O'⟩=some p∧au X ⟨μ.w,μ.φ,O'⟩ c' val∧Le ⟨μ.w,μ.φ,O⟩ ⟨μ.w,μ.φ,O'⟩∧bQ X ⟨μ.w,μ.φ,O'⟩∧(c.aV=true→c'.aV=true):=by
 have same: (cZ c k).run C ⟨T,O⟩=(k c).run C ⟨T,O⟩→_:=fun e=> (⟨c,O,e ▸ ag,hv,Le.refl _,ho,id⟩: ∃c' O',(k c').run C ⟨T,O'⟩=some p∧au X ⟨μ.w,μ.φ,O'⟩ c' val∧Le ⟨μ.w,μ.φ,O⟩ ⟨μ.w,μ.φ,O'⟩∧bQ X ⟨μ.w,μ.φ,O'⟩∧(c.aV=true→c'.aV=true))
 cases c with
 | mp r g=>
   simp only[cZ,Act.run] at ag
   split at ag
   · rename_i es bX
     split at ag
     · rename_i hc
       obtain⟨oZ,vJ,YI,Ki⟩:=hc
       simp only[Act.run] at ag
       obtain⟨le,vB⟩:=sC (μ:=⟨μ.w,μ.φ,O⟩) ho r
       refine⟨_,_,ag,?_,le,vB,fun _=>rfl⟩
       simp only[au] at hv
       obtain⟨a,rfl,h1,h2⟩:=hv
       obtain⟨k0,rfl⟩:=h2 oZ
       have zi:=vB.ents r es (by simp[aL,bX]) (by simp[aL,vJ])
       rcases zi with⟨eb,ents,clock,hm,cK,nn⟩ | ⟨_,s,pos,_,rfl⟩ | ⟨sW,rfl⟩
       rotate_left
       · simp[V.isTuple] at Ki
       · simp[V.isTuple] at Ki
       simp only[au]
       refine⟨YI,.inr ⟨_,ents,clock,rfl,?_,(Array.getElem?_eq_some_iff.1 hm).1,⟨hm,nn⟩,cK⟩⟩
       rintro(⟨r',h1,h2,h3,h4⟩ | Xl)
       · by_cases e:r'=r
         · subst e;simp[aL] at h2
         · exact vB.inj r' r e h1 (by simp[aL,bX]) h3 eb h4
       · exact vB.wL r (by simp[aL,bX]) eb Xl
     · exact absurd ag aC
   · exact absurd ag aC
 | sl r g off len=>
   simp only[cZ,Act.run] at ag
   split at ag
   · rename_i es bX
     split at ag
     · rename_i hc
       obtain⟨oZ,vJ,YI,Ki⟩:=hc
       simp only[Act.run] at ag
       obtain⟨le,vB⟩:=sC (μ:=⟨μ.w,μ.φ,O⟩) ho r
       refine⟨_,_,ag,?_,le,vB,fun _=>rfl⟩
       have sF: (bb es off len).length=len:=by simp[bb];omega
       have Fk:=au.mono le hv
       simp only[au,aL] at Fk
       obtain⟨a0,cap,rfl,hle,_,dm⟩:=Fk
       obtain⟨k0,k1,k2⟩:=dm oZ
       obtain⟨q1,q2,q3,q4⟩:=vB.row r es (by simp[aL,bX]) (by simpa [aL] using k0)
       simp only[aL] at q1 q2 q3 q4
       simp only[au]
       refine⟨Ki,?_,a0,cap,?_⟩
       · simp only[List.all_eq_true] at q3 ⊢
         exact fun x hx=> (cE (q3 x (List.mem_of_mem_drop (List.mem_of_mem_take hx)))).1
       · by_cases eb:cap=0
         · have:len=0:=by omega
           subst this
           refine⟨[],by rw[sF],by rw[sF];omega,?_,.inl ?_⟩
           · simp[bb,ak]
           · simp[bb]
         · have kQ: (μ.φ r).cap≠0:=by omega
           rcases q4 with q4| ⟨cc,TT,vs,p1,p2,p3,p4⟩
           · exact absurd q4 kQ
           · refine⟨(vs.drop off).take len,by rw[sF],by rw[sF];omega,ak.take _ (ak.drop _ p3),.inr ⟨_,_,k2.resolve_left eb,?_,(Array.getElem?_eq_some_iff.1 p1).1,(p4.drop off).take len⟩⟩
             rintro(⟨r',h1,h2,h3,h4⟩ | Xl)
             · by_cases e:r'=r
               · subst e;simp[aL] at h2
               · have:=vB.inj r' r e h1 (by simp[aL,bX]) h3 kQ
                 exact this h4
             · exact vB.wL r (by simp[aL,bX]) kQ Xl
     · exact absurd ag aC
   · exact absurd ag aC
 | own _ _=>exact absurd ag aC
 | msl _ _ _ _=>exact absurd ag aC
 | mptr _ _ _ _=>exact absurd ag aC
 | any=>exact absurd ag aC
 | it _ _=>exact absurd ag aC
 | _=>exact same rfl
theorem pV: ∀ {cs:List V} {k:List V→Act} {vals:List Value} {O:Nat→Obj} {p:V×St},bQ X ⟨μ.w,μ.φ,O⟩→ak X ⟨μ.w,μ.φ,O⟩ cs vals→(fw cs k).run C ⟨T,O⟩=some p→
   ∃dC O',(k dC).run C ⟨T,O'⟩=some p∧ak X ⟨μ.w,μ.φ,O'⟩ dC vals∧Le ⟨μ.w,μ.φ,O⟩ ⟨μ.w,μ.φ,O'⟩∧bQ X ⟨μ.w,μ.φ,O'⟩∧(cs.all V.aV=true→dC.all V.aV=true)
 | [],k,[],O,p,ho,_,ag=> ⟨[],O,ag,by simp[ak],Le.refl _,ho,id⟩
 | [],_,_::_,_,_,_,h,_=>by simp[ak] at h
 | _::_,_,[],_,_,_,h,_=>by simp[ak] at h
 | c::cs,k,v::vals,O,p,ho,h,ag=>by
   simp only[ak] at h
   obtain⟨c',O1,h1,h2,h3,h4,h5⟩:=rN ho h.1 ag
   obtain⟨dC,O2,k1,k2,k3,k4,k5⟩:=pV h4 (ak.mono h3 h.2) h1
   refine⟨c'::dC,O2,k1,?_,h3.trans k3,k4,?_⟩
   · simp only[ak];exact⟨au.mono k3 h2,k2⟩
   · intro hh
     simp only[List.all_cons,Bool.and_eq_true] at hh ⊢
     exact⟨h5 hh.1,k5 hh.2⟩
theorem kX {c:V} {k:V→Act} {val:Value} {O:Nat→Obj} {p:V×St} (ho:bQ X ⟨μ.w,μ.φ,O⟩) (hv:au X ⟨μ.w,μ.φ,O⟩ c val) (ag: (xn c k).run C ⟨T,O⟩=some p):
   ∃c' O',(k c').run C ⟨T,O'⟩=some p∧au X ⟨μ.w,μ.φ,O'⟩ c' val∧Le ⟨μ.w,μ.φ,O⟩ ⟨μ.w,μ.φ,O'⟩∧bQ X ⟨μ.w,μ.φ,O'⟩:=by
 unfold xn at ag
 split at ag
 · exact⟨c,O,ag,hv,Le.refl _,ho⟩
 · split at ag
   · simp only[au] at hv
     obtain⟨h0,vs,rfl,xQ⟩:=hv
     obtain⟨dC,O',h1,h2,h3,h4,h5⟩:=pV ho xQ ag
     exact⟨_,O',h1,by simp only[au];exact⟨h5 h0,vs,rfl,h2⟩,h3,h4⟩
   · obtain⟨c',O',h1,h2,h3,h4,_⟩:=rN ho hv ag
     exact⟨c',O',h1,h2,h3,h4⟩
theorem rO: ∀ {cs:List V} {k:List V→Act} {vals:List Value} {O:Nat→Obj} {p:V×St},bQ X ⟨μ.w,μ.φ,O⟩→ak X ⟨μ.w,μ.φ,O⟩ cs vals→(kJ.go cs k).run C ⟨T,O⟩=some p→
   ∃dC O',(k dC).run C ⟨T,O'⟩=some p∧ak X ⟨μ.w,μ.φ,O'⟩ dC vals∧Le ⟨μ.w,μ.φ,O⟩ ⟨μ.w,μ.φ,O'⟩∧bQ X ⟨μ.w,μ.φ,O'⟩
 | [],k,[],O,p,ho,_,ag=> ⟨[],O,ag,by simp[ak],Le.refl _,ho⟩
 | [],_,_::_,_,_,_,h,_=>by simp[ak] at h
 | _::_,_,[],_,_,_,h,_=>by simp[ak] at h
 | c::cs,k,v::vals,O,p,ho,h,ag=>by
   simp only[ak] at h
   obtain⟨c',O1,h1,h2,h3,h4⟩:=kX ho h.1 ag
   obtain⟨dC,O2,k1,k2,k3,k4⟩:=rO h4 (ak.mono h3 h.2) h1
   refine⟨c'::dC,O2,k1,?_,h3.trans k3,k4⟩
   simp only[ak];exact⟨au.mono k3 h2,k2⟩
theorem zj {cs:List V} {k:List V→Act} {vals:List Value} {O:Nat→Obj} {p:V×St} (ho:bQ X ⟨μ.w,μ.φ,O⟩) (hv:ak X ⟨μ.w,μ.φ,O⟩ cs vals) (ag: (kJ cs k).run C ⟨T,O⟩=some p):
  ∃dC O',(k dC).run C ⟨T,O'⟩=some p∧ak X ⟨μ.w,μ.φ,O'⟩ dC vals∧Le ⟨μ.w,μ.φ,O⟩ ⟨μ.w,μ.φ,O'⟩∧bQ X ⟨μ.w,μ.φ,O'⟩:=by
 unfold kJ at ag
 split at ag
 · exact⟨cs,O,ag,hv,Le.refl _,ho⟩
 · exact rO ho hv ag
theorem PK {t:TypeId} {r sz:Nat} {x:Operand} {x':bg} (ks:List Nat) (hr:Rel X T a μ) (ho:o.op= .box t x) (h1:du X x=some x')
   (ag: (aF E (.yw r sz (LB ks x'))).run C ⟨T,μ.O⟩=some (v,σ')):σ'.T=T∧de X o a μ σ'.O v:=by
 have hx:=au.LB ks (aX hr h1 μ.O)
 have HR: (execOp a.eval o).run X.P μ.w= .ok (.value (.pointer (some ⟨μ.w.heap.size,0,none⟩))) (μ.w.alloc (.cells (a.eval x).cells t (0,0))):=by
   simp only[execOp,ho]
   refine cO ?_
   simp[Instr.box,Sem.run_bind,newVar,newRow]
 generalize a.eval x=xv at hx HR
 simp only[aF,bP] at ag
 obtain⟨c',O',h2,h3,h4,h5⟩:=kX (μ:=μ) hr.bB hx ag
 have vf:Rel X T a ⟨μ.w,μ.φ,O'⟩:=⟨fun t=>au.mono h4 (hr.tmps t),h5⟩
 split at h2
 · rename_i hb
   simp only[Bool.and_eq_true,decide_eq_true_eq] at hb
   simp only[Act.run,Option.some.injEq,Prod.mk.injEq] at h2
   obtain⟨rfl,rfl⟩:=h2
   obtain⟨hl,rj⟩:=cE hb.1
   have cJ:xv.cells.size=sz:=by rw[h3.ej hl,rj]
   obtain⟨val,w',φ',k1,k2,k3,k4⟩:=zg (o:=o) (a:=a) vf (cap:=1) (es:=[c']) (vs:=[xv]) (c:=xv.cells) (arr:=false) (r:=r) (v:= .ptr r ((O' r).gen+1) 0 0) hb.2 (by simp) (by simp[hb.1]) (by simp[ak,h3]) (by omega) (cJ ▸ zh) HR (by
    simp only[au,aL]
    exact⟨_,rfl,Nat.le_refl _,fun _=> ⟨hb.2,by simp⟩⟩)
   exact⟨rfl,val,w',φ',k1,k2,Le.trans h4 k3,k4⟩
 · exact absurd h2 aC
end
end Go.AM
namespace Go.AM
open Go Go.RowKit
theorem rP {α:Type} (L:List α) (p:Nat) (x:α) (h:p<L.length):L.set p x=dk L p [x]:=by
 apply List.ext_getElem?
 intro q
 rw[fM (by simp;omega),List.getElem?_set]
 by_cases hq:q<p
 · simp[hq];omega
 · by_cases hq2:p=q
   · subst hq2;simp[h]
   · have: ¬q<p+1:=by omega
     simp[hq,hq2,this]
theorem cB {α:Type} (xs:Array α):xs.toList.length=xs.size:=Array.length_toList
section
variable {X:Ctx} {E:Env} {C:bO} {o:Oper} {a:Go.Act} {T:Nat→V} {μ:Mu} {v:V} {σ':St}
theorem El {agg:Bool} {off sz:Nat} {e u e':V} {x val:Value} (he:au X μ e x) (hl:e.dX=true) (hu:au X μ u val) (h:dY agg off sz e u=some e'):
   ∃x',au X μ e' x'∧e'.dX=true∧e'.cells.length=e.cells.length∧val.cells.size=sz∧off+sz≤x.cells.size∧x'.cells.toList=dk x.cells.toList off val.cells.toList∧
     ∀c ∈ val.cells.toList,c.oneCell'=true:=by
 unfold dY at h
 split at h
 · split at h
   · rename_i cs vs
     split at h<;>simp at h
     rename_i hc
     subst h
     simp only[au] at he hu
     obtain⟨h0,xs,rfl,hx⟩:=he
     obtain⟨k0,ys,rfl,hy⟩:=hu
     have l1:=hx.length
     have l2:=hy.length
     rw[cB xs] at l1
     rw[cB ys] at l2
     refine⟨.agg (dk xs.toList off ys.toList).toArray,?_,rfl,?_,?_,?_,?_,?_⟩
     · simp only[au]
       refine⟨?_,_,rfl,?_⟩
       · have t1:=kW (p:=V.aV) off h0
         have t2:=nj (p:=V.aV) (off+sz) h0
         simp only[List.all_append,t1,k0,t2,Bool.and_self]
       · have:=((ak.take off hx).append hy).append (ak.drop (off+sz) hx)
         simpa [dk,←l2,hc.1] using this
     · simp[V.cells];omega
     · simp only[Value.cells];omega
     · simp only[Value.cells];omega
     · simp[Value.cells]
     · intro c NC
       simp only[Value.cells] at NC
       obtain⟨j,hj⟩:=List.getElem?_of_mem NC
       have bY:j<vs.length:=by rw[hy.length];exact(List.getElem?_eq_some_iff.1 hj).1
       obtain⟨c',g1,g2⟩:=hy.get (List.getElem?_eq_getElem bY)
       rw[hj] at g1;injection g1 with g1;subst g1
       simp only[List.all_eq_true] at k0
       exact(g2.nZ (k0 _ (List.getElem_mem bY))).1
   · simp at h
 · split at h
   · rename_i rQ
     obtain⟨CC,nT⟩:=hu.nZ rQ.1
     have HS: ∀c ∈ val.cells.toList,c.oneCell'=true:=by rw[nT];simpa using CC
     split at h
     · rename_i cs
       split at h<;>simp at h
       rename_i PG
       subst h
       simp only[au] at he
       obtain⟨h0,xs,rfl,hx⟩:=he
       have l1:=hx.length
       rw[cB xs] at l1
       refine⟨.agg (xs.toList.set off val).toArray,?_,rfl,?_,?_,?_,?_,HS⟩
       · simp only[au]
         refine⟨?_,_,rfl,by simpa using ak.set hx off hu⟩
         simp only[List.all_eq_true] at h0 ⊢
         intro c NC
         rcases List.mem_or_eq_of_mem_set NC with hm| rfl
         · exact h0 c hm
         · exact rQ.1
       · simp[V.cells]
       · rw[nT,rQ.2];rfl
       · simp only[Value.cells];omega
       · rw[nT]
         simp only[Value.cells]
         rw[rP _ _ _ (by rw[Array.length_toList];omega)]
     · split at h<;>simp at h
       rename_i cu kQ
       subst h
       obtain⟨_,hcx⟩:=he.nZ kQ.1
       refine⟨val,hu,by simp[V.dX,rQ.1],?_,?_,?_,?_,HS⟩
       · rw[V.iB rQ.1,V.iB kQ.1];rfl
       · rw[nT,rQ.2];rfl
       · rw[hcx,rQ.2,kQ.2];simp
       · rw[nT,hcx,kQ.2];simp[dk]
   · simp at h
theorem CD {t:TypeId} {w:World} {g q sz:Nat} {cur:Array Value} {T0:TypeId} {val:Value} (hn:bT X t=some sz) (hg:w.heap[g]? =some (.cells cur T0 (0,0)))
  (hs:val.cells.size=sz) (hl:q+sz≤cur.size) (h1: ∀c ∈ val.cells.toList,c.oneCell'=true):
  (storeVar t ⟨g,q,none⟩ val).run X.P w= .ok () (w.setRow g (dk cur.toList q val.cells.toList).toArray):=by
 have:=ib (P:=X.P) hg val.cells.toList (by rw[Array.length_toList,hs];exact hl) h1
 simp[storeVar,Sem.run_bind,dU hn,hs,this]
theorem Em {    t:TypeId} {agg:Bool} {sz r g idx off:Nat} {u:V} {val:Value} {O:Nat→Obj} (ho:bQ X ⟨μ.w,μ.φ,O⟩) (hu:au X ⟨μ.w,μ.φ,O⟩ u val) (hn:bT X t=some sz) (h0:0 < (O r).sz)
   (ag: (aF.mh agg sz r g idx off u).run C ⟨T,O⟩=some (v,σ')):
   σ'.T=T∧v= .tuple []∧ ∃w' φ',(storeVar t ⟨(μ.φ r).dQ,(μ.φ r).base+idx*(O r).sz+off,none⟩ val).run X.P μ.w= .ok () w'∧Le ⟨μ.w,μ.φ,O⟩ ⟨w',φ',σ'.O⟩∧bQ X ⟨w',φ',σ'.O⟩:=by
 simp only[aF.mh,Act.run] at ag
 split at ag
 · rename_i es bX
   split at ag
   · rename_i hc
     split at ag
     · rename_i e he
       split at ag
       · rename_i e' hp
         simp only[Act.run,Option.some.injEq,Prod.mk.injEq] at ag
         obtain⟨rfl,rfl⟩:=ag
         obtain⟨k1,k2,k3,k4⟩:=ho.row r es bX h0
         simp only at k1 k2 k3 k4
         have bY:idx<es.length:=(List.getElem?_eq_some_iff.1 he).1
         have kQ: (μ.φ r).cap≠0:=by omega
         rcases k4 with k4| ⟨c,T0,vs,hb,rL,xQ,iY⟩
         · exact absurd k4 kQ
         · obtain⟨x,hx,cK⟩:=xQ.get he
           have oL:aZ e (O r).sz=true:=by
            simp only[List.all_eq_true] at k3
            exact k3 e (List.mem_of_getElem? he)
           obtain⟨np,rj⟩:=cE oL
           obtain⟨x',p1,p2,p3,p4,p5,p6,p7⟩:=El cK np hu hp
           have GX:x.cells.size=(O r).sz:=by rw[cK.ej np,rj]
           have se:ek c.toList (μ.φ r).base (O r).sz vs:=ia hb iY
           have hmul: (idx+1)*(O r).sz≤(μ.φ r).cap*(O r).sz:=Nat.mul_le_mul_right _ (by omega)
           have Xm: (μ.φ r).base+(idx+1)*(O r).sz≤c.toList.length:=by rw[Array.length_toList];omega
           have fE:=se.put (x':=x') hx Xm (m:=val.cells.toList) (by rw[Array.length_toList,p4];omega) p6
           have ni:=CD (X:=X) (t:=t) (q:=(μ.φ r).base+idx*(O r).sz+off) (val:=val) hn hb p4 (by rw[Nat.add_mul] at hmul;omega) p7
           have hw:=nh (μ:=⟨μ.w,μ.φ,O⟩) ho r bX hc.2 hb kQ (c':=(dk c.toList ((μ.φ r).base+idx*(O r).sz+off) val.cells.toList).toArray)
            (by
              have: (dk c.toList ((μ.φ r).base+idx*(O r).sz+off) val.cells.toList).length=c.toList.length:=fo (by
               rw[Array.length_toList,Array.length_toList,p4];rw[Nat.add_mul] at hmul;omega)
              simpa using this)
            (O r).gen (μ.φ r).base (μ.φ r).cap (es':=es.set idx e') (vs':=vs.set idx x') (.inl ⟨rfl,rfl,rfl⟩) kQ (by simpa using k2)
            (by
              simp only[List.all_eq_true] at k3 ⊢
              intro y hy
              rcases List.mem_or_eq_of_mem_set hy with hm| rfl
              · exact k3 y hm
              · simp[aZ,p2,p3,rj])
            (ak.set xQ idx p1) rL (fun i y hy=>by
              obtain⟨q1,q2⟩:=fE i y hy
              exact⟨q1,fun j z hz=>by simpa using q2 j z hz⟩)
           refine⟨rfl,rfl,_,_,ni,hw.1,hw.2⟩
       · exact absurd ag aC
     · exact absurd ag aC
   · exact absurd ag aC
 · exact absurd ag aC
theorem LV {t:TypeId} {x y:Operand} {x' y':bg} {agg:Bool} {sz:Nat} (hr:Rel X T a μ) (ho:o.op= .store t x y) (h1:du X x=some x') (h2:du X y=some y')
   (hn:bT X t=some sz) (ag: (aF E (.store agg sz x' y')).run C ⟨T,μ.O⟩=some (v,σ')):σ'.T=T∧de X o a μ σ'.O v:=by
 simp only[aF,bP] at ag
 have hx:=aX hr h1 μ.O
 have hy:=aX hr h2 μ.O
 split at ag
 · rename_i r g idx off e
   rw[e] at hx
   simp only[au] at hx
   obtain⟨p,hp,ve,dm⟩:=hx
   have fin: ∀w',(storeVar t p (a.eval y)).run X.P μ.w= .ok () w'→(execOp a.eval o).run X.P μ.w= .ok .skip w':=fun w' hw=>by
     simp only[execOp,ho]
     refine LH ?_
     simp[Instr.storeAt,Instr.sureAddr,Sem.run_bind,hp,hw]
   have main: ∀ {O:Nat→Obj} {u:V},Le μ ⟨μ.w,μ.φ,O⟩→bQ X ⟨μ.w,μ.φ,O⟩→au X ⟨μ.w,μ.φ,O⟩ u (a.eval y)→(aF.mh agg sz r g idx off u).run C ⟨T,O⟩=some (v,σ')→
       σ'.T=T∧de X o a μ σ'.O v:=by
     intro O u le ig hu fE
     have hgO: (O r).gen=g:=by
       simp only[aF.mh,Act.run] at fE
       split at fE
       · split at fE
         · rename_i hc;exact hc.1
         · exact absurd fE aC
       · exact absurd fE aC
     have afQ:=le.gen r
     simp only at afQ
     have hgm: (μ.O r).gen=g:=by omega
     obtain⟨_,PL⟩:=le.row r (by simp only;omega)
     obtain⟨q1,q2,w',φ',q3,q4,q5⟩:=Em (t:=t) ig hu hn (by simp only at PL;rw[PL];exact(dm hgm).1) fE
     refine⟨q1,undef,w',φ',.inr ⟨fin w' ?_,rfl⟩,?_,le.trans q4,q5⟩
     · rw[(dm hgm).2]
       simp only at PL
       rw[←PL];exact q3
     · rw[q2];simp only[au];exact⟨#[],rfl,by simp[ak]⟩
   simp only[Act.run] at ag
   split at ag
   · rw[bP] at ag
     obtain⟨u,O1,k1,k2,k3,k4⟩:=kX (μ:=μ) hr.bB hy ag
     exact main k3 k4 k2 k1
   · rw[bP] at ag
     exact main (Le.refl μ) hr.bB hy ag
 · exact absurd ag aC
theorem Ba {off:Nat}: ∀ (m:List Value) (k:Nat) (cs:Array Value),off+k+m.length≤cs.size→
   ((m.zipIdx k).foldl (fun cs (p:Value×Nat)=>cs.setIfInBounds (off+p.2) p.1) cs).toList=dk cs.toList (off+k) m
 | [],k,cs,_=>by simp[dk]
 | x::m,k,cs,h=>by
   simp only[List.zipIdx_cons,List.foldl_cons]
   simp at h
   rw[Ba m (k+1) _ (by simp;omega)]
   rw[Array.toList_setIfInBounds]
   apply List.ext_getElem?
   intro q
   rw[fM (by simp;omega),fM (by simp;omega),List.getElem?_set]
   by_cases h1:q<off+k
   · have:q<off+(k+1):=by omega
     have h2: ¬off+k=q:=by omega
     simp[h1,this,h2]
   · by_cases h2:q=off+k
     · subst h2
       have h3:off+k<off+(k+1):=by omega
       have h4:off+k<cs.size:=by omega
       simp[h3,h4]
     · by_cases h3:q<off+k+(m.length+1)
       · have h4: ¬q<off+(k+1):=by omega
         have h5:q<off+(k+1)+m.length:=by omega
         have h6:q - (off+k)=(q - (off+(k+1)))+1:=by omega
         simp[h1,h4,h3,h5,h6]
       · have h4: ¬q<off+(k+1):=by omega
         have h5: ¬q<off+(k+1)+m.length:=by omega
         have h6: ¬off+k=q:=by omega
         simp[h1,h4,h3,h5,h6]
theorem Bb {off:Nat} {x:Value} {cs:Array Value} (h:off+x.cells.size≤cs.size):
  (x.cells.zipIdx.foldl (fun cs (p:Value×Nat)=>cs.setIfInBounds (off+p.2) p.1) cs).toList=dk cs.toList off x.cells.toList:=by
 rw[←Array.foldl_toList,Array.toList_zipIdx]
 have:=Ba (off:=off) x.cells.toList 0 cs (by rw[Array.length_toList];omega)
 simpa using this
theorem En {place:Nat→Option (Nat×Nat)}: ∀ {ps:List (Nat×Nat×V)} {qs:List (Nat×Value)} {cs dC:List V} {xs:Array Value},
   (ps.length=qs.length)→(∀ (i:Nat) p q,ps[i]? =some p→qs[i]? =some q→place q.1=some (p.1,p.2.1)∧au X μ p.2.2 q.2)→ak X μ cs xs.toList→cs.all V.aV=true→
   eG cs ps=some dC→ ∃PM,Instr.fill place xs qs=some PM∧ak X μ dC PM.toList∧dC.all V.aV=true
 | [],[],cs,dC,xs,_,_,hv,hc,h=>by
   simp[eG] at h;subst h
   exact⟨xs,rfl,hv,hc⟩
 | [],_::_,_,_,_,h,_,_,_,_=>by simp at h
 | _::_,[],_,_,_,h,_,_,_,_=>by simp at h
 | (off,sz,u)::ps,(i,q)::qs,cs,dC,xs,hl,hp,hv,hc,h=>by
   simp only[eG] at h
   split at h
   · rename_i uB
     obtain⟨h1,h2,h3⟩:=uB
     obtain⟨LW,cK⟩:=hp 0 _ _ rfl rfl
     simp only at LW cK
     have hqs:q.cells.size=sz:=by rw[cK.ej h3,h1]
     have hlen:=hv.length
     rw[cB xs] at hlen
     have jh:off+q.cells.size≤xs.size:=by omega
     have Bc:=Bb (x:=q) (cs:=xs) jh
     have mn:ak X μ (cs.take off++u.cells++cs.drop (off+sz)) (q.cells.zipIdx.foldl (fun cs (p:Value×Nat)=>cs.setIfInBounds (off+p.2) p.1) xs).toList:=by
      rw[Bc]
      have:=((ak.take off hv).append (cK.cells h3)).append (ak.drop (off+sz) hv)
      simpa [dk,hqs] using this
     have vJ: (cs.take off++u.cells++cs.drop (off+sz)).all V.aV=true:=by
      have t1:=kW (p:=V.aV) off hc
      have t2:=nj (p:=V.aV) (off+sz) hc
      simp only[List.all_append,t1,cK.uu h3,t2,Bool.and_self]
     obtain⟨PM,g1,g2,g3⟩:=En (place:=place) (ps:=ps) (qs:=qs) (by simpa using hl) (fun j p q' hj YJ=>hp (j+1) p q' (by simpa using hj) (by simpa using YJ)) mn vJ h
     refine⟨PM,?_,g2,g3⟩
     have Gm: ¬ (q.cells.size≠sz∨xs.size<off+q.cells.size):=by omega
     simp only[Instr.fill,LW]
     rw[if_neg (by simpa using Gm)]
     exact g1
   · simp at h
end
end Go.AM
namespace Go.AM
open Go Go.RowKit
theorem rR {α β:Type} {P:Program} {w:World} {f:α→Sem β} {g:α→β}: ∀ (l:List α),(∀x ∈ l,(f x).run P w= .ok (g x) w)→(l.mapM f).run P w= .ok (l.map g) w
 | [],_=>by simp
 | x::l,h=>by
   have h1:=h x (by simp)
   have h2:=rR (f:=f) (g:=g) l fun y hy=>h y (by simp[hy])
   simp[List.mapM_cons,Sem.run_bind,h1,h2]
theorem zk {α β:Type} {P:Program} {w:World} {f:α→Sem β} {g:α→β} (l:Array α) (h: ∀x ∈ l.toList,(f x).run P w= .ok (g x) w): (l.mapM f).run P w= .ok (l.map g) w:=by
 have:=rR l.toList h
 rw[Array.mapM_eq_mapM_toList]
 simp only[map_eq_pure_bind,Sem.run_bind,this,Result.andThen_ok,Sem.run_pure]
 congr 1
 apply Array.ext';simp
section
variable {X:Ctx} {E:Env} {C:bO} {o:Oper} {a:Go.Act} {T:Nat→V} {μ:Mu} {v:V} {σ':St}
theorem wR: ∀ (ps:List (Nat×Nat×bg)) (k:List (Nat×Nat×V)→Act) (σ:St),(gp ps k).run C σ=(k (ps.map fun p=> (p.1,p.2.1,bM σ p.2.2))).run C σ
 | [],_,_=>rfl
 | (_,_,x)::ps,k,σ=>by simp only[gp,bP,wR ps,List.map_cons]
theorem wS (hr:Rel X T a μ) (O:Nat→Obj) {place:Nat→Option (Nat×Nat)}: ∀ {ps:List (Nat×Operand)} {as:List (Nat×Nat×bg)},kN X place ps=some as→
   as.length=ps.length∧ ∀ (i:Nat) p q,as[i]? =some p→ps[i]? =some q→place q.1=some (p.1,p.2.1)∧au X μ (bM ⟨T,O⟩ p.2.2) (a.eval q.2)
 | [],as,h=>by simp[kN] at h;subst h;simp
 | (i,x)::ps,as,h=>by
   simp only[kN] at h
   split at h
   · rename_i off sz y as' h1 h2 h3
     injection h with h;subst h
     obtain⟨k1,k2⟩:=wS hr O h3
     refine⟨by simp[k1],fun j p q hp hq=> ?_⟩
     cases j with
     | zero=>simp at hp hq;subst hp;subst hq;exact⟨h1,aX hr h2 O⟩
     | succ j=>exact k2 j p q (by simpa using hp) (by simpa using hq)
   · simp at h
theorem zl (ks:List Nat) (hr:Rel X T a μ) {t:TypeId} {z:List V} (hz:fq X t=some (.agg z)) {place:Nat→Option (Nat×Nat)} {parts:Array (Nat×Operand)} {as:List (Nat×Nat×bg)}
   (hp:kN X place parts.toList=some as) (ag: (aF E (.build (B8 ks z) as)).run C ⟨T,μ.O⟩=some (v,σ')):
   σ'=⟨T,μ.O⟩∧ ∃zv cells,(zeroValue t).run X.P μ.w= .ok zv μ.w∧Instr.fill place zv.cells (parts.map fun (i,x)=> (i,a.eval x)).toList=some cells∧au X μ v (.agg cells):=by
 simp only[aF,wR] at ag
 obtain⟨zv,vS,Ae⟩:=gG hz μ.w
 obtain⟨xz,_⟩:=fm (X:=X) (μ:=μ) Ae
 simp only[au] at xz
 obtain⟨h0,xs,rfl,GX⟩:=xz
 obtain⟨l1,l2⟩:=wS hr μ.O hp
 split at ag
 · rename_i cs nT
   obtain⟨rfl,rfl⟩:=bo ag
   have key:=En (X:=X) (μ:=μ) (place:=place) (ps:=as.map fun p=> (p.1,p.2.1,bM ⟨T,μ.O⟩ p.2.2)) (qs:=(parts.map fun (i,x)=> (i,a.eval x)).toList) (xs:=xs)
    (by simp[l1]) (fun j p q hp hq=>by
      simp only[List.getElem?_map,Option.map_eq_some_iff] at hp
      obtain⟨p',Fl,rfl⟩:=hp
      rw[Array.toList_map,List.getElem?_map,Option.map_eq_some_iff] at hq
      obtain⟨q',LX,rfl⟩:=hq
      exact l2 j p' q' Fl LX) (GX.B8 ks) (sE ks h0) nT
   obtain⟨PM,g1,g2,g3⟩:=key
   exact⟨rfl,_,PM,vS,g1,by simp only[au];exact⟨g3,PM,rfl,g2⟩⟩
 · exact absurd ag aC
theorem JC (ks:List Nat) {t:TypeId} {parts:Array (Nat×Operand)} {z:List V} {fs:Array Field} {as:List (Nat×Nat×bg)} (hr:Rel X T a μ) (ho:o.op= .build t parts) (hz:fq X t=some (.agg z))
  (hd:bG X t=some (.struct fs)) (en:fs.toList.all (fun f=> (bT X f.type).isSome)=true)
  (hp:kN X (fun i=>match fs[i]? with| some f=> (bT X f.type).map fun s=> (f.offset,s) | none=>none) parts.toList=some as)
  (ag: (aF E (.build (B8 ks z) as)).run C ⟨T,μ.O⟩=some (v,σ')):σ'.T=T∧de X o a μ σ'.O v:=by
 obtain⟨rfl,zv,cells,h1,h2,h3⟩:=zl ks hr hz hp ag
 refine⟨rfl,aS hr.bB ?_ h3⟩
 simp only[execOp,ho]
 refine cO ?_
 have oV:X.P.underlying t=some (.struct fs):=hd
 have hm:=zk (P:=X.P) (w:=μ.w) (f:=fun f:Field=>do pure (f.offset,←sizeOf f.type)) (g:=fun f:Field=> (f.offset,(bT X f.type).getD 0)) fs (fun f hf=>by
  simp only[List.all_eq_true] at en
  obtain⟨s,hs⟩:=Option.isSome_iff_exists.1 (en f hf)
  simp[Sem.run_bind,dU hs,hs])
 have hpl: (fun (i:Nat)=> (fs.map fun (f:Field)=> (f.offset,(bT X f.type).getD 0))[i]?)=fun (i:Nat)=>match fs[i]? with| some f=> (bT X f.type).map fun s=> (f.offset,s) | none=>none:=by
  funext i
  rw[Array.getElem?_map]
  cases hf:fs[i]? with
  | none=>rfl
  | some f=>
    simp only[List.all_eq_true] at en
    obtain⟨s,hs⟩:=Option.isSome_iff_exists.1 (en f (by simpa using Array.mem_of_getElem? hf))
    simp[hs]
 simp only[Instr.build,Sem.run_bind,h1,Result.andThen_ok,run_underlying oV,hm,hpl,h2,Sem.run_pure]
theorem JD (ks:List Nat) {t e:TypeId} {n s:Nat} {parts:Array (Nat×Operand)} {z:List V} {as:List (Nat×Nat×bg)} (hr:Rel X T a μ) (ho:o.op= .build t parts) (hz:fq X t=some (.agg z))
  (hd:bG X t=some (.array n e)) (hs:bT X e=some s) (hp:kN X (fun i=>some (i*s,s)) parts.toList=some as)
  (ag: (aF E (.build (B8 ks z) as)).run C ⟨T,μ.O⟩=some (v,σ')):σ'.T=T∧de X o a μ σ'.O v:=by
 obtain⟨rfl,zv,cells,h1,h2,h3⟩:=zl ks hr hz hp ag
 refine⟨rfl,aS hr.bB ?_ h3⟩
 simp only[execOp,ho]
 refine cO ?_
 have oV:X.P.underlying t=some (.array n e):=hd
 simp only[Instr.build,Sem.run_bind,h1,Result.andThen_ok,run_underlying oV,dU hs,h2,Sem.run_pure]
theorem rS (hr:Rel X T a μ): ∀ {ps:List (Nat×Operand)} {as:List (Nat×bg)} {k:List (Nat×V)→Act} {O:Nat→Obj} {p:V×St},jf X ps=some as→Le μ ⟨μ.w,μ.φ,O⟩→bQ X ⟨μ.w,μ.φ,O⟩→
   (fu as k).run C ⟨T,O⟩=some p→
   ∃vs O',(k vs).run C ⟨T,O'⟩=some p∧vs.length=ps.length∧Le ⟨μ.w,μ.φ,O⟩ ⟨μ.w,μ.φ,O'⟩∧bQ X ⟨μ.w,μ.φ,O'⟩∧
     ∀ (i:Nat) q q',vs[i]? =some q→ps[i]? =some q'→q.1=q'.1∧au X ⟨μ.w,μ.φ,O'⟩ q.2 (a.eval q'.2)
 | [],as,k,O,p,h,le,ho,ag=>by
   simp[jf] at h;subst h
   exact⟨[],O,ag,rfl,Le.refl _,ho,by simp⟩
 | (i,x)::ps,as,k,O,p,h,le,ho,ag=>by
   simp only[jf] at h
   split at h
   · rename_i y as' h1 h2
     injection h with h;subst h
     simp only[fu,bP] at ag
     have hx:au X ⟨μ.w,μ.φ,O⟩ (bM ⟨T,O⟩ y) (a.eval x):=by
      have:=au.mono le (aX hr h1 O)
      exact this
     obtain⟨u,O1,k1,k2,k3,k4⟩:=kX (μ:=μ) ho hx ag
     obtain⟨vs,O2,g1,g2,g3,g4,g5⟩:=rS hr h2 (le.trans k3) k4 k1
     refine⟨(i,u)::vs,O2,g1,by simp[g2],k3.trans g3,g4,fun j q q' hq LX=> ?_⟩
     cases j with
     | zero=>simp at hq LX;subst hq;subst LX;exact⟨rfl,au.mono g3 k2⟩
     | succ j=>exact g5 j q q' (by simpa using hq) (by simpa using LX)
   · simp at h
theorem vT {α:Type} (L:List α) (i:Nat) (x:α) (h:i<L.length):L.set i x=L.take i++[x]++L.drop (i+1):=by
 rw[rP L i x h];rfl
theorem rT {sz:Nat}: ∀ {vs:List (Nat×V)} {qs:List (Nat×Value)} {es es':List V} {us:List Value} {c:Array Value},vs.length=qs.length→
   (∀ (i:Nat) p q,vs[i]? =some p→qs[i]? =some q→p.1=q.1∧au X μ p.2 q.2)→ak X μ es us→ek c.toList 0 sz us→c.size=us.length*sz→es.all (aZ · sz)=true→
   cX sz es vs=some es'→ ∃c' ND,Instr.fill (fun i=>some (i*sz,sz)) c qs=some c'∧ak X μ es' ND∧ek c'.toList 0 sz ND∧c'.size=ND.length*sz∧
     es'.all (aZ · sz)=true∧es'.length=es.length
 | [],[],es,es',us,c,_,_,hv,hs,hc,hb,h=>by
   simp[cX] at h;subst h
   exact⟨c,us,rfl,hv,hs,hc,hb,rfl⟩
 | [],_::_,_,_,_,_,h,_,_,_,_,_,_=>by simp at h
 | _::_,[],_,_,_,_,h,_,_,_,_,_,_=>by simp at h
 | (i,u)::vs,(i',q)::qs,es,es',us,c,hl,hp,hv,hs,hc,hb,h=>by
   simp only[cX] at h
   split at h
   · rename_i uB
     obtain⟨hi,oL⟩:=uB
     obtain⟨e1,cK⟩:=hp 0 _ _ rfl rfl
     simp only at e1 cK
     subst e1
     obtain⟨np,rj⟩:=cE oL
     have hqs:q.cells.size=sz:=by rw[cK.ej np,rj]
     have ng:i<us.length:=by rw[←hv.length];exact hi
     have hmul: (i+1)*sz≤us.length*sz:=Nat.mul_le_mul_right _ (by omega)
     rw[Nat.add_mul] at hmul
     have jh:i*sz+q.cells.size≤c.size:=by omega
     have Bc:=Bb (x:=q) (cs:=c) jh
     have ace:flat [q]=q.cells.toList:=by simp[flat]
     have hw:=hs.write (k:=i) (us:=[q]) (by omega) (by simpa using hqs) (by rw[cB];simp;omega)
     rw[ace,Nat.zero_add] at hw
     have jd:us.take i++[q]++us.drop (i+[q].length)=us.set i q:=(vT us i q ng).symm
     rw[jd,←Bc] at hw
     have cJ: (q.cells.zipIdx.foldl (fun cs (p:Value×Nat)=>cs.setIfInBounds (i*sz+p.2) p.1) c).size=(us.set i q).length*sz:=by
      rw[←cB,Bc,fo (by rw[cB,cB];exact jh),cB];simpa using hc
     have afR: (es.set i u).all (aZ · sz)=true:=by
      simp only[List.all_eq_true] at hb ⊢
      intro y hy
      rcases List.mem_or_eq_of_mem_set hy with hm| rfl
      · exact hb y hm
      · exact oL
     obtain⟨c',ND,g1,g2,g3,g4,g5,g6⟩:=rT (vs:=vs) (qs:=qs) (by simpa using hl) (fun j p q' hj YJ=>hp (j+1) p q' (by simpa using hj) (by simpa using YJ)) (ak.set hv i cK) hw cJ afR h
     refine⟨c',ND,?_,g2,g3,g4,g5,by simpa using g6⟩
     have Gm: ¬ (q.cells.size≠sz∨c.size<i*sz+q.cells.size):=by omega
     simp only[Instr.fill]
     rw[if_neg (by simpa using Gm)]
     exact g1
   · simp at h
theorem lL {t e:TypeId} {n sz r:Nat} {parts:Array (Nat×Operand)} {z:V} (hr:Rel X T a μ) (ho:o.op= .buildSlice t n parts) (hd:bG X t=some (.slice e))
   (hn:bT X e=some sz) (hz:fq X e=some z) (ei: ∃vs O',(match cX sz (List.replicate n z) vs with
     | some es=>if aZ z sz &&decide (0 <sz∧n*sz≤16777216) then AM.Act.cr r fun o=>AM.Act.bW r {gen:=o.gen+1,sz,arr:=true,fz:=false,es:=some es} (.done (.sl r (o.gen+1) 0 n)) else AM.Act.fail
     | none=>AM.Act.fail).run C ⟨T,O'⟩=some (v,σ')∧vs.length=parts.toList.length∧Le μ ⟨μ.w,μ.φ,O'⟩∧bQ X ⟨μ.w,μ.φ,O'⟩∧
     ∀ (i:Nat) q q',vs[i]? =some q→parts.toList[i]? =some q'→q.1=q'.1∧au X ⟨μ.w,μ.φ,O'⟩ q.2 (a.eval q'.2)):σ'.T=T∧de X o a μ σ'.O v:=by
 obtain⟨vs,O1,k1,k2,k3,k4,k5⟩:=ei
 split at k1
 · rename_i es bX
   split at k1
   · rename_i hc
     simp only[Bool.and_eq_true,decide_eq_true_eq] at hc
     obtain⟨Eo,cJ,Ap⟩:=hc
     simp only[Act.run,Option.some.injEq,Prod.mk.injEq] at k1
     obtain⟨rfl,rfl⟩:=k1
     refine⟨rfl,?_⟩
     obtain⟨zv,vS,Ae⟩:=gG hz μ.w
     obtain⟨xz,NA⟩:=fm (X:=X) (μ:=⟨μ.w,μ.φ,O1⟩) Ae
     have LU:zv.cells.size=sz:=by rw[xz.ej NA,(cE Eo).2]
     obtain⟨q1,q2⟩:=wQ (n:=n) LU
     have hbr: (List.replicate n z).all (aZ · sz)=true:=by
       simp only[List.all_eq_true,List.mem_replicate]
       rintro y ⟨_,rfl⟩;exact Eo
     obtain⟨c',ND,g1,g2,g3,g4,g5,g6⟩:=rT (X:=X) (μ:=⟨μ.w,μ.φ,O1⟩) (sz:=sz) (vs:=vs) (qs:=(parts.map fun (i,x)=> (i,a.eval x)).toList) (by simp[k2]) (fun j p q hj hq=>by
       rw[Array.toList_map,List.getElem?_map,Option.map_eq_some_iff] at hq
       obtain⟨q',LX,rfl⟩:=hq
       exact k5 j p q' hj LX) (ak.replicate xz n) q2 (by rw[q1];simp) hbr bX
     have hlen:es.length=n:=by simpa using g6
     have Be:ND.length=n:=by rw[←g2.length];exact hlen
     obtain⟨NF,RN⟩:=Cv (X:=X) (μ:=⟨μ.w,μ.φ,O1⟩) k4 r sz n true (es:=es) (vs:=ND) (c:=c') e cJ (by omega) g5 g2 (by rw[g4,Be];exact Nat.le_refl _) (fun i u hu=>by
       obtain⟨m1,m2⟩:=g3 i u hu
       exact⟨m1,fun j x hx=>by simpa using m2 j x hx⟩)
     refine⟨.slice (some ⟨μ.w.heap.size,0,none⟩) n n,_,_,.inl ?_,?_,k3.trans NF,RN⟩
     · simp only[execOp,ho]
       refine cO ?_
       have oV:X.P.underlying t=some (.slice e):=hd
       have acf: ¬n*sz >2 ^ 24:=by
         have: (2:Nat) ^ 24=16777216:=by decide
         omega
       simp only[Instr.buildSlice,Sem.run_bind,run_underlying oV,Result.andThen_ok,dU hn]
       rw[if_neg acf]
       have lM: ∀zero:Array Value,(n*sz=0∨zero=zv.cells)→(Array.range (n*sz)).map (fun i=>zero[i % zero.size]!)=(Array.range (n*sz)).map (fun i=>zv.cells[i % zv.cells.size]!):=by
         rintro zero (h0| rfl)
         · have PJ:Array.range 0= #[]:=rfl
           rw[h0,PJ];simp
         · rfl
       by_cases NB:n*sz=0
       · rw[if_pos NB]
         simp only[Sem.run_bind,Sem.run_pure,Result.andThen_ok]
         rw[lM #[] (.inl NB),g1]
         simp only[newRow,Sem.run_bind,run_newObj,Result.andThen_ok,Sem.run_pure]
         rfl
       · rw[if_neg NB]
         simp only[Sem.run_bind,vS,Result.andThen_ok,Sem.run_pure]
         rw[lM zv.cells (.inr rfl),g1]
         simp only[newRow,Sem.run_bind,run_newObj,Result.andThen_ok,Sem.run_pure]
         rfl
     · simp only[au,aL]
       exact⟨_,_,rfl,Nat.le_refl _,Nat.le_refl _,fun _=> ⟨cJ,by simp,by simp⟩⟩
   · exact absurd k1 aC
 · exact absurd k1 aC
theorem rU {t e:TypeId} {n sz r:Nat} {parts:Array (Nat×Operand)} {z:V} {as:List (Nat×bg)} (hr:Rel X T a μ) (ho:o.op= .buildSlice t n parts) (hd:bG X t=some (.slice e))
  (hn:bT X e=some sz) (hz:fq X e=some z) (hp:jf X parts.toList=some as) (ag: (aF E (.buildSlice r sz z n as)).run C ⟨T,μ.O⟩=some (v,σ')):σ'.T=T∧de X o a μ σ'.O v:=by
 simp only[aF] at ag
 exact lL hr ho hd hn hz (rS hr hp (Le.refl μ) hr.bB ag)
theorem pW (hr:Rel X T a μ): ∀ {ps:List (Nat×Operand)} {as:List (Nat×bg)} {k:List (Nat×V)→Act} {p:V×St},jf X ps=some as→
   (j8 as k).run C ⟨T,μ.O⟩=some p→
   ∃vs,(k vs).run C ⟨T,μ.O⟩=some p∧vs.length=ps.length∧
     ∀ (i:Nat) q q',vs[i]? =some q→ps[i]? =some q'→q.1=q'.1∧au X μ q.2 (a.eval q'.2)
 | [],as,k,p,h,ag=>by
   simp[jf] at h;subst h
   exact⟨[],ag,rfl,by simp⟩
 | (i,x)::ps,as,k,p,h,ag=>by
   simp only[jf] at h
   split at h
   · rename_i y as' h1 h2
     injection h with h;subst h
     simp only[j8,bP] at ag
     have hx:=aX hr h1 μ.O
     obtain⟨vs,g1,g2,g5⟩:=pW hr h2 ag
     refine⟨(i,_)::vs,g1,by simp[g2],fun j q q' hq LX=> ?_⟩
     cases j with
     | zero=>simp at hq LX;subst hq;subst LX;exact⟨rfl,hx⟩
     | succ j=>exact g5 j q q' (by simpa using hq) (by simpa using LX)
   · simp at h
theorem zm {t e:TypeId} {n sz r:Nat} {parts:Array (Nat×Operand)} {z:V} {as:List (Nat×bg)} (hr:Rel X T a μ) (ho:o.op= .buildSlice t n parts) (hd:bG X t=some (.slice e))
  (hn:bT X e=some sz) (hz:fq X e=some z) (hp:jf X parts.toList=some as) (ag: (aF E (.ka r sz z n as)).run C ⟨T,μ.O⟩=some (v,σ')):σ'.T=T∧de X o a μ σ'.O v:=by
 simp only[aF] at ag
 obtain⟨vs,g1,g2,g3⟩:=pW hr hp ag
 exact lL hr ho hd hn hz ⟨vs,μ.O,g1,g2,Le.refl μ,hr.bB,g3⟩
theorem zn {t e:TypeId} {n sz r ix:Nat} {parts:Array (Nat×Operand)} {z:V} {as:List (Nat×bg)} (hr:Rel X T a μ) (ho:o.op= .buildSlice t n parts) (hd:bG X t=some (.slice e))
  (hn:bT X e=some sz) (hz:fq X e=some z) (hp:jf X parts.toList=some as) (ag: (aF E (.j9 ix r sz z n as)).run C ⟨T,μ.O⟩=some (v,σ')):σ'.T=T∧de X o a μ σ'.O v:=by
 have h: (match bM ⟨T,μ.O⟩ (.tmp ix) with| .int _ j=>Q5 (r+16*j.toNat) sz z n as| _=> .fail).run C ⟨T,μ.O⟩=some (v,σ'):=ag
 split at h
 · exact rU (E:=E) (r:=_) hr ho hd hn hz hp h
 · exact absurd h aC
theorem JE {x:Operand} {t0 t:TypeId} {ok:Bool} {x':bg} {n:Nat} {z:V} (hr:Rel X T a μ) (ho:o.op= .typeAssert x t0 t ok) (oW: ∀t1 t2 k,X.ku t1=some k→X.ku t2=some k→t1=t2)
   (hn:X.ku t=some n) (h1:du X x=some x') (hz:fq X t=some z) (hd: ∃d,bG X t=some d∧ ∀ms,d≠ .interface ms)
   (ag: (aF E (.assert n ok z x')).run C ⟨T,μ.O⟩=some (v,σ')):σ'.T=T∧de X o a μ σ'.O v:=by
 simp only[aF,bP] at ag
 have hx:=aX hr h1 μ.O
 obtain⟨d,sq,Da⟩:=hd
 have Xn:X.P.underlying t=some d:=sq
 obtain⟨zv,vS,Ae⟩:=gG hz μ.w
 obtain⟨xz,_⟩:=fm (X:=X) (μ:=μ) Ae
 have fin: ∀val,(Instr.typeAssert (a.eval x) t0 t ok).run X.P μ.w= .ok val μ.w→(execOp a.eval o).run X.P μ.w= .ok (.value val) μ.w:=fun val hv=>by
   simp only[execOp,ho]
   exact cO hv
 split at ag
 · rename_i e
   rw[e] at hx;simp only[au] at hx
   split at ag
   · rename_i CE
     obtain⟨rfl,rfl⟩:=bo ag
     refine⟨rfl,aS (val:= .tuple #[zv,.bool false]) hr.bB (fin _ ?_) ?_⟩
     · simp only[Instr.typeAssert,Sem.run_bind,run_underlying Xn,Result.andThen_ok,hx]
       cases d<;>first| exact absurd rfl (Da _) | simp[CE,Sem.run_bind,vS]
     · simp only[au];exact⟨_,rfl,by simp[ak,au,xz]⟩
   · exact absurd ag aC
 · rename_i t' u e
   rw[e] at hx;simp only[au] at hx
   obtain⟨t1,y,hy,Xc,cK⟩:=hx
   split at ag
   · rename_i htt
     obtain⟨rfl,rfl⟩:=bo ag
     have hte:t1=t:=oW t1 t n (by rw[Xc,htt]) hn
     refine⟨rfl,aS (val:=if ok then .tuple #[y,.bool true] else y) hr.bB (fin _ ?_) ?_⟩
     · simp only[Instr.typeAssert,Sem.run_bind,run_underlying Xn,Result.andThen_ok,hy]
       cases d<;>first| exact absurd rfl (Da _) | simp[hte]
     · cases ok
       · simpa using cK
       · simp only[if_true,au];exact⟨_,rfl,by simp[ak,au,cK]⟩
   · rename_i htt
     split at ag
     · rename_i CE
       obtain⟨rfl,rfl⟩:=bo ag
       have hte:t1≠t:=fun e=>htt (by rw[e,hn] at Xc;injection Xc with Xc;exact Xc.symm)
       refine⟨rfl,aS (val:= .tuple #[zv,.bool false]) hr.bB (fin _ ?_) ?_⟩
       · simp only[Instr.typeAssert,Sem.run_bind,run_underlying Xn,Result.andThen_ok,hy]
         cases d<;>first| exact absurd rfl (Da _) | simp[hte,CE,Sem.run_bind,vS]
       · simp only[au];exact⟨_,rfl,by simp[ak,au,xz]⟩
     · exact absurd ag aC
 · exact absurd ag aC
end
end Go.AM
