/-
  Texts of the proof, joined by program: AmTr, AmRel, AmObj, AmOps1, AmEq, AmOps2, AmOps3, AmOps4, AmRow, AmOps5, AmOps6, AmOps7. Own work.
-/
import Derived.Test.YtgkdgapmmkkcaaaGreatDefs
import Derived.Calls
import Derived.Orders
import Derived.Below
import Derived.Laws.Cells
import Derived.Laws.Rows
import Derived.Laws.Tables
import Derived.Laws.CopyRow
import Derived.ChangeKeysEq
import Derived.Laws.StructEq
import Derived.IntWalk
set_option linter.unusedSimpArgs false
set_option linter.unusedVariables false
namespace Go.AM
structure Hints where
 sk:List (Option Nat):=[]
 bF:List Nat:=[]
 name:List (Nat×Nat):=[]
 lits:List (Nat×List Nat):=[]
 VP:List (Nat×Nat×Nat):=[]
 VQ:List (Nat×Nat×Nat):=[]
 dyn:List (Nat×Nat):=[]
 cA:List Nat:=[]
 deep:List Nat:=[]
 VR:List Nat:=[]
 tag:Option (Nat×Nat):=none
 keys:List (Nat×List Nat×List Nat):=[]
 n:Nat:=0
structure TrEnv where
 P:Program
 jg:FuncId→Option Nat
 iv:TypeId→Option Nat
variable (X:TrEnv)
def m8:Value→Option V
 | .bool b=>some (.bool b)
 | .int k n=>some (.int k n)
 | .float .f64 b=>some (.float b)
 | .string s=>some (.str s.data.toList)
 | .pointer none=>some .nilp
 | .slice none 0 0=>some .nils
 | .map none=>some (.mlit [])
 | .nilFunc=>some .nilfn
 | .nilIface=>some .nili
 | _=>none
def jh:List Value→Option (List V)
 | []=>some []
 | v::vs=>match m8 v,jh vs with
   | some c,some cs=>some (c::cs)
   | _,_=>none
def sK:Value→Option V
 | .agg cs=> (jh cs.toList).map .agg
 | v=>m8 v
def info (t:TypeId):Option TypeInfo:=X.P.info? t
def bz (t:TypeId):Option Nat:=(info X t).map (·.size)
def bg (t:TypeId):Option TypeDesc:=X.P.underlying t
def fU (t:TypeId):Option Bool:=(bg X t).map fun| .struct _=>true| .array .. =>true| _=>false
def dX (t:TypeId):Option V:=(info X t).bind fun i=>i.zero.bind sK
def cK:Operand→Option aP
 | .tmp t=>some (.tmp t)
 | .const v=> (sK v).map .const
 | .func f=> (X.jg f).map fun n=> .const (.fn n [])
 | .global _=>none
def pd:List Operand→Option (List aP)
 | []=>some []
 | o::os=>match cK X o,pd os with
   | some a,some as=>some (a::as)
   | _,_=>none
def qo:Option Operand→Option (Option aP)
 | none=>some none
 | some o=> (cK X o).map some
mutual
def jT:Nat→TypeId→Option (List Nat)
 | 0,_=>none
 | d+1,t=>match bg X t with
   | some .bool=>if bz X t=some 1 then some [0] else none
   | some (.int _)=>if bz X t=some 1 then some [1] else none
   | some .string=>if bz X t=some 1 then some [2] else none
   | some (.struct fs)=>if X.P.stoodInHeld t=false then(match qp d fs.toList 0 with
      | some ks=>if bz X t=some ks.length then some ks else none
      | none=>none) else none
   | some (.array n e)=>if fU X e=some false∧bz X t=some n then(match jT d e with
      | some [k]=>some (List.replicate n k)
      | _=>none) else none
   | _=>none
def qp:Nat→List Field→Nat→Option (List Nat)
 | 0,_,_=>none
 | _+1,[],_=>some []
 | d+1,f::fs,off=>if f.name≠ "_" ∧f.offset=off then match jT d f.type with
    | some ks=>match qp d fs (off+ks.length) with
      | some FE=>some (ks++FE)
      | none=>none
    | none=>none
   else none
end
def iJ (place:Nat→Option (Nat×Nat)):List (Nat×Operand)→Option (List (Nat×Nat×aP))
 | []=>some []
 | (i,o)::ps=>match place i,cK X o,iJ place ps with
   | some (off,sz),some a,some as=>some ((off,sz,a)::as)
   | _,_,_=>none
def fV:List (Nat×Operand)→Option (List (Nat×aP))
 | []=>some []
 | (i,o)::ps=>match cK X o,fV ps with
   | some a,some as=>some ((i,a)::as)
   | _,_=>none
def fW (t:Nat):Nat:=16*(t+1)
def nameOf (h:Hints) (dst:Nat):Nat:=((h.name.find? (·.1==dst)).map (·.2)).getD (fW dst)
def GH (ks:List Nat):aP→aP
 | .const v=> .const (ya ks v)
 | x=>x
def Qq (h:Hints) (dst:Nat):Option Nat:=(h.dyn.find? (·.1==dst)).map (·.2)
def oe (h:Hints) (dst:Nat):List Nat:=((h.lits.find? (·.1==dst)).map (·.2)).getD []
def Qr (h:Hints) (dst:Nat):Option (Nat×Nat):=(h.VP.find? (·.1==dst)).map (·.2)
def isNil:Operand→Bool
 | .const (.slice none 0 0)=>true
 | _=>false
def Qs (h:Hints) (dst:Nat) (x:Operand):Option Nat:=match x with
 | .tmp t=> (h.VQ.find? (fun p=>p.1==dst &&p.2.1==t)).map (·.2.2)
 | _=>none
def sL (h:Hints) (dst:Nat) (x:Operand):Option pP:=
 match isNil x,Qr h dst with
 | true,some (r,sz)=>some (.bU r sz)
 | _,_=>match Qs h dst x with
   | some r=> (cK X x).map fun y=> .il r y
   | none=> (cK X x).map fun y=> .move (GH (oe h dst) y)
def nB (bytes:Nat):Nat:=140737488355328 / (bytes+1) - 200
def sM (h:Hints) (dst:Nat) (c:Call):Option pP:=
 match c.callee with
 | .value f=>match cK X f,pd X c.args.toList with
   | some f,some as=>some (.call (fW dst) (h.bF.contains dst) f as)
   | _,_=>none
 | .invoke .. =>none
 | .builtin b=>match b,c.args.toList,c.argTypes.toList with
   | .len,[x],[t]=>match cK X x,bg X t with
     | some x,some (.slice _)=>some (.len x)
     | some x,some .string=>some (.dN x)
     | some _,some (.array n _)=>some (.move (.const (.int .i64 n)))
     | _,_=>none
   | .min,xs,_=> (pd X xs).map .min
   | .max,xs,_=> (pd X xs).map .max
   | .append,[s,x],[t,t']=>match cK X s,cK X x,bg X t,bg X t' with
     | some s,some x,some (.slice e),some d=>match bz X e,info X e,dX X e,d with
       | some sz,some i,some z,.slice _| some sz,some i,some z,.string=>if aN z sz then some (if h.cA.contains dst then .kE (nameOf h dst) sz (nB i.bytes) s x else .append (nameOf h dst) sz (nB i.bytes) s x) else none
       | _,_,_,_=>none
     | _,_,_,_=>none
   | .copy,[d,s],[t,_]=>match cK X d,cK X s,bg X t with
     | some d,some s,some (.slice e)=> (bz X e).map fun sz=> .copy sz d s
     | _,_,_=>none
   | .clear,[x],[t]=>match cK X x,bg X t with
     | some x,some (.slice e)=>match bz X e,dX X e with
       | some sz,some z=>some (.clear sz z x)
       | _,_=>none
     | _,_=>none
   | _,_,_=>none
def CN:BinOp→Bool
 | .eql=>true
 | .neq=>true
 | _=>false
def fF:BinOp→Bool
 | .neq=>true
 | _=>false
def rY:List (Nat×Nat):=(List.range 40).filterMap fun T=>match X.iv T,(X.P.info? T).map (·.comparable),bg X T with
 | some t,some true,some .bool=>some (t,0)
 | some t,some true,some (.int _)=>some (t,1)
 | some t,some true,some .string=>some (t,2)
 | _,_,_=>none
def zT (op:BinOp) (t:TypeId) (x y:aP):Option pP:=
 if CN op then match bg X t with
  | some .bool=>some (.L3 (fF op) x y)
  | some (.int _) | some .string=>some (.bin op x y)
  | some (.interface _)=>some (.L4 (fF op) (rY X) x y)
  | some (.pointer e)=> (match bz X e with
    | some (_+1)=>some (.Hi (fF op) x y)
    | _=>none)
  | some (.struct _)=>if X.P.eqGuardType X.P.depth t=false then(jT X 100 t).map fun ks=> .D6 (fF op) ks x y else none
  | some (.array _ _)=>if X.P.eqGuardType X.P.depth t=false then(jT X 100 t).map fun ks=> .D6 (fF op) ks x y else none
  | _=>none
 else some (.bin op x y)
def pf (kt:TypeId):Option (Option IntKind):=match bg X kt with
 | some (.int k)=>some (some k)
 | some .string=>some none
 | _=>none
def tX (h:Hints) (dst:Nat):Op→Option pP
 | .move x| .assign x=>if h.deep.contains dst then(cK X x).map .deep else if h.VR.contains dst then(cK X x).map .yp else sL X h dst x
 | .pick c a b=>match cK X c,cK X a,cK X b with
   | some c,some a,some b=>some (.pick c a b)
   | _,_,_=>none
 | .alloc t=>match bz X t,dX X t with
   | some sz,some z=>some (.new (fW dst) sz (.const (ya (oe h dst) z)))
   | _,_=>none
 | .box t x=>match bz X t,cK X x with
   | some sz,some x=>some (.new (fW dst) sz (GH (oe h dst) x))
   | _,_=>none
 | .build t ps=>match dX X t,bg X t with
   | some (.agg z),some (.struct fs)=>if !fs.toList.all (fun f=> (bz X f.type).isSome) then none else(iJ X (fun i=>match fs[i]? with| some f=> (bz X f.type).map fun s=> (f.offset,s) | none=>none) ps.toList).map (.build (vx (oe h dst) z))
   | some (.agg z),some (.array _ e)=>match bz X e with
     | some s=> (iJ X (fun i=>some (i*s,s)) ps.toList).map (.build (vx (oe h dst) z))
     | none=>none
   | _,_=>none
 | .buildSlice t n ps=>match bg X t with
   | some (.slice e)=>match bz X e,dX X e,fV X ps.toList with
     | some sz,some z,some as=>some (match Qq h dst with| some ix=> .fC ix (16000000+fW dst) sz z n as| none=>if h.cA.contains dst then .fD (fW dst) sz z n as else .buildSlice (fW dst) sz z n as)
     | _,_,_=>none
   | _=>none
 | .load t x=>match fU X t,bz X t,cK X x with
   | some a,some sz,some x=>some (if (oe h dst).isEmpty then .load a sz x else .qJ (oe h dst) a sz x)
   | _,_,_=>none
 | .store t x v=>match fU X t,bz X t,cK X x,cK X v with
   | some a,some sz,some x,some v=>some (.store a sz x v)
   | _,_,_,_=>none
 | .nilCheck x=> (cK X x).map .nilCheck
 | .binOp op t x y _=>match cK X x,cK X y with
   | some x,some y=>zT X op t x y
   | _,_=>none
 | .unOp op _ x=> (cK X x).map (.un op)
 | .convert s d x=>match bg X s,bg X d,cK X x with
   | some (.int _),some (.int k),some x=>some (.iF k x)
   | some (.int _),some (.float .f64),some x=>some (.qe x)
   | some (.float .f64),some (.int k),some x=>some (.qf k x)
   | some .string,some .string,some x=>some (.oV x)
   | _,_,_=>none
 | .makeInterface t x=>match X.iv t,cK X x,bg X t with
   | some _,some _,some (.interface _)=>none
   | some n,some x,some _=>some (.b6 n x)
   | _,_,_=>none
 | .typeAssert x _ t ok=>match X.iv t,cK X x,dX X t,bg X t with
   | some _,some _,some _,some (.interface _)=>none
   | some n,some x,some z,some _=>some (.assert n ok z x)
   | _,_,_,_=>none
 | .makeFunc (.func f) first caps=>if first.isEmpty then match X.jg f,pd X caps.toList with
     | some n,some cs=>some (.im n cs)
     | _,_=>none
   else none
 | .makeSlice t l c=>match bg X t with
   | some (.slice e)=>match bz X e,info X e,dX X e,cK X l,cK X c with
     | some sz,some i,some z,some l,some c=>some (.makeSlice (fW dst) sz i.bytes z l c)
     | _,_,_,_,_=>none
   | _=>none
 | .slice t x lo hi mx=>match bg X t,cK X x,qo X lo,qo X hi,qo X mx with
   | some (.slice e),some x,some lo,some hi,some mx=> (bz X e).map fun sz=> .slice sz x lo hi mx
   | some .string,some x,some lo,some hi,some none=>some (.dM x lo hi)
   | _,_,_,_,_=>none
 | .fieldAddr s x i=>match bg X s,cK X x with
   | some (.struct fs),some x=>match fs[i]? with
     | some f=>match bz X f.type with
       | some (_+1)=>some (.fieldAddr f.offset x)
       | _=>none
     | none=>none
   | _,_=>none
 | .field s x i=>match bg X s,cK X x with
   | some (.struct fs),some x=>match fs[i]? with
     | some f=>match fU X f.type,bz X f.type with
       | some a,some sz=>some (.field a f.offset sz x)
       | _,_=>none
     | none=>none
   | _,_=>none
 | .indexAddr t x i=>match bg X t,cK X x,cK X i with
   | some (.slice e),some x,some i=> (bz X e).map fun sz=> .indexAddr sz x i
   | some (.array n e),some x,some i=> (bz X e).map fun sz=> .aR n sz x i
   | _,_,_=>none
 | .index t x i=>match bg X t,cK X x,cK X i with
   | some .string,some x,some i=>some (.cf x i)
   | some (.array n e),some x,some i=>match fU X e,bz X e with
     | some a,some sz=>some (.lS a n sz x i)
     | _,_=>none
   | _,_,_=>none
 | .extract x i=> (cK X x).map fun x=> .extract x i
 | .makeMap _ none=>some (.mkMap (fW dst))
 | .range t x=>match bg X t,cK X x with
   | some .string,some x=>some (.mQ (fW dst) x)
   | some (.map _ _),some x=>some (.mapIter (fW dst) x)
   | _,_=>none
 | .next x true=> (cK X x).map .mR
 | .lookup t x i ok=>match bg X t,cK X x,cK X i with
   | some (.map kt et),some x,some i=>match pf X kt,dX X et with
     | some q,some z=>some (.qg q ok z x i)
     | _,_=>none
   | _,_,_=>none
 | .mapUpdate t m k v=>match bg X t,cK X m,cK X k,cK X v with
   | some (.map kt _),some m,some k,some v=> (pf X kt).map fun q=> .lT q m k v
   | _,_,_,_=>none
 | .insert t m k v=>match bg X t,cK X m,cK X k,cK X v with
   | some (.map kt _),some m,some k,some v=> (pf X kt).map fun q=> .lT q m k v
   | _,_,_,_=>none
 | .call c=>sM X h dst c
 | _=>none
def mf (h:Hints) (ops:Array Oper) (o:Oper):Option bq:=
 let g:Option (Option (Nat×Bool)):=match o.guard with
  | none=>some none
  | some (j,want)=>match (ops[j]?).bind (·.dst) with
    | some d=>some (some (d,want))
    | none=>none
 match g,o.dst.all (· <h.n) with
 | some g,true=>some {dst:=o.dst,op:=(tX X h (o.dst.getD 0) o.op).getD .bad,guard:=g,pre:=(o.after.toList.filter (Region.binds .any)).map (·.on)}
 | _,_=>none
def fp (h:Hints) (ops:Array Oper):List Oper→Option (List bq)
 | []=>some []
 | o::os=>match mf X h ops o,fp h ops os with
   | some a,some as=>some (a::as)
   | _,_=>none
def vJ (h:Hints) (a:Code):Option (Nat×Nat×Nat×Nat×List Nat×List Nat):=
 match a with
 | .seq (.region ..) (.block id (.loop (.seq (.region _ ops false) (.seq (.cond ..) (.block _ (.seq (.region _ fX false) _))))))=>match ops[0]?,fX[0]? with
   | some o,some o5=>match o.op,o.dst,o.guard,o5.op,o5.dst,o5.guard with
     | .next (.tmp it) false,some nx,none,.entry (.tmp Yz),some ne,none=> (match h.keys.find? (·.1==nx) with
       | some k=>if nx<h.n∧ne<h.n∧Yz=it then some (it,nx,ne,id,k.2.1,k.2.2) else none
       | none=>none)
     | _,_,_,_,_,_=>none
   | _,_=>none
 | _=>none
def wQ:Code→Bool
 | .seq (.region ..) _=>true
 | _=>false
def wR (h:Hints) (a b:Code) (ta tb:al):al:=
 match vJ h a,wQ b,ta,tb with
 | some (it,nx,ne,id,kT,kO),true,.seq tR (.block _ (.loop (.seq (.region as) (.seq tc (.block b1 (.seq (.region bs) tz)))))),.seq tS sN=> .seq tR (.seq (.keys it nx ne id kT kO (.seq (.region (as.drop 1)) tc) (.block b1 (.seq (.region (bs.drop 1)) tz)) tS) sN)
 | _,_,_,_=> .seq ta tb
def cJ (h:Hints):Code→Option al
 | .skip=>some .skip
 | .region _ ops false=> (fp X h ops ops.toList).map fun l=> .region (l.map fun o=> {o with pre:=[]})
 | .region _ ops true=> (fp X h ops ops.toList).map .drawn
 | .seq a b=>match cJ h a,cJ h b with
   | some ta,some tb=>some (wR h a b ta tb)
   | _,_=>none
 | .cond c a b=>match cK X c,cJ h a,cJ h b with
   | some c,some a,some b=>some (.cond c a b)
   | _,_,_=>none
 | .block id b=> (cJ h b).map (.block id)
 | .loop b=> (cJ h b).map .loop
 | .exit id=>some (.exit id)
 | .ret=>some .ret
 | .scope b=> (cJ h b).map .scope
 | .rangeFunc f ps a b=>match cK X f,cJ h a,cJ h b with
   | some f,some a,some b=>if ps.toList.all (fun p=>Nat.blt p h.n)=true then some (.nU f ps.toList a b) else none
   | _,_,_=>none
 | .label _=>some .skip
 | _=>some .bad
def pg:ResultVar→Option oN
 | .tmp t=>some (.tmp t)
 | .cell a t=>match fU X t,bz X t with
   | some g,some sz=>some (.cell a g sz)
   | _,_=>none
def iN:List ResultVar→Option (List oN)
 | []=>some []
 | r::rs=>match pg X r,iN rs with
   | some a,some as=>some (a::as)
   | _,_=>none
def aw (h:Hints) (f:Func):Option aB:=
 match f.body with
 | none=>none
 | some b=>match cJ X {h with n:=f.ntmps} b,iN X f.results.toList with
   | some c,some rs=>some {nparams:=f.params.size+f.nfree,ntmps:=f.ntmps,sk:=h.sk,results:=rs,body:=c,tag:=h.tag}
   | _,_=>none
end Go.AM
namespace Go.AM
open Go Go.RowKit
structure Ctx extends TrEnv where
 GI:Nat→Prop
 tok:Nat×Nat
instance:CoeOut Ctx TrEnv:=⟨Ctx.toTrEnv⟩
structure Row where
 cD:Nat
 base:Nat
 cap:Nat
structure Mu where
 w:World
 φ:Nat→Row
 O:Nat→Obj
def Mu.own (μ:Mu) (b:Nat):Prop:= ∃r,(μ.O r).es.isSome=true∧(μ.O r).fz=false∧(μ.φ r).cap≠0∧(μ.φ r).cD=b
def Own (X:Ctx) (μ:Mu) (b:Nat):Prop:=μ.own b∨X.GI b
def dz (w:World) (b off sz:Nat) (vs:List Value):Prop:=
 ∀i v,vs[i]? =some v→v.cells.size=sz∧ ∀j c,v.cells[j]? =some c→w.cell? ⟨b,off+i*sz+j,none⟩=some c
def sO (ents:Array MapEntry) (clock:Nat):Prop:=(∀e ∈ ents.toList,e.born<clock)∧(ents.toList.map (·.born)).Nodup
section
variable (X:Ctx) (μ:Mu)
mutual
def ak:V→Value→Prop
 | .bool b,v=>v= .bool b
 | .int k n,v=>v= .int k n
 | .float b,v=>v= .float .f64 b
 | .str s,v=> ∃bs:ByteArray,v= .string bs∧bs.data.toList=s
 | .agg cs,v=>cs.all V.aI=true∧ ∃vs,v= .agg vs∧aj cs vs.toList
 | .tuple cs,v=> ∃vs,v= .tuple vs∧aj cs vs.toList
 | .nilp,v=>v= .pointer none
 | .nilfn,v=>v= .nilFunc
 | .nili,v=>v= .nilIface
 | .fn f caps,v=> ∃F cv,v= .func (.func F) #[] cv∧X.jg F=some f∧aj caps cv.toList
 | .iface t x,v=> ∃T y,v= .iface T y∧X.iv T=some t∧ak x y
 | .nils,v=> ∃a,v= .slice a 0 0
 | .lit sz xs,v=>V.aq xs=true∧xs.all V.cX=true∧ ∃a cap vs,v= .slice a xs.length cap∧xs.length≤cap∧aj xs vs∧
    (xs=[]∨ ∃b o,a=some ⟨b,o,none⟩∧ ¬Own X μ b∧b<μ.w.heap.size∧dz μ.w b o sz vs)
 | .own ..,_=>False
 | .sl r g off len,v=> ∃a cap,v= .slice a len cap∧len≤cap∧g≤(μ.O r).gen∧
    ((μ.O r).gen=g→0 < (μ.O r).sz∧cap+off=(μ.φ r).cap∧(cap=0∨a=some ⟨(μ.φ r).cD,(μ.φ r).base+off*(μ.O r).sz,none⟩))
 | .ptr r g idx off,v=> ∃a,v= .pointer (some a)∧g≤(μ.O r).gen∧
    ((μ.O r).gen=g→0 < (μ.O r).sz∧a=⟨(μ.φ r).cD,(μ.φ r).base+idx*(μ.O r).sz+off,none⟩)
 | .eptr e off,v=>V.aC e=true∧V.cX e=true∧ ∃b o sz x,v= .pointer (some ⟨b,o+off,none⟩)∧ ¬Own X μ b∧b<μ.w.heap.size∧ak e x∧dz μ.w b o sz [x]
 | .mp r g,v=> ∃a,v= .map (some a)∧g≤(μ.O r).gen∧((μ.O r).gen=g→(μ.O r).sz=0∧a=(μ.φ r).cD)
 | .mlit es,v=>V.aq es=true∧(es=[]∧v= .map none∨ ∃a ents clock,v= .map (some a)∧ ¬Own X μ a∧a<μ.w.heap.size∧(μ.w.heap[a]? =some (.map ents clock)∧sO ents clock)∧
    aj es (ents.toList.map fun e=> .tuple #[e.key,e.val]))
 | .it r g,v=> ∃a,v= .pointer (some ⟨a,0,none⟩)∧g≤(μ.O r).gen∧((μ.O r).gen=g→(μ.O r).sz=0∧a=(μ.φ r).cD)
 | .litk sz xs,v=>V.aq xs=true∧xs.all V.cX=true∧ ∃a cap vs,v= .slice a xs.length cap∧xs.length≤cap∧aj xs vs∧
    (xs=[]∨a=some ⟨X.tok.1,X.tok.2,none⟩∧ ¬Own X μ X.tok.1∧X.tok.1 <μ.w.heap.size∧dz μ.w X.tok.1 X.tok.2 sz vs)
 | .epk i sz e off,v=>V.aC e=true∧V.cX e=true∧ ∃x,v= .pointer (some ⟨X.tok.1,X.tok.2+i*sz+off,none⟩)∧ ¬Own X μ X.tok.1∧X.tok.1 <μ.w.heap.size∧ak e x∧dz μ.w X.tok.1 (X.tok.2+i*sz) sz [x]
 | .msl ..,_=>False
 | .mptr ..,_=>False
 | .any,_=>True
def aj:List V→List Value→Prop
 | [],[]=>True
 | x::xs,v::vs=>ak x v∧aj xs vs
 | _,_=>False
end
end
theorem aj.length {X:Ctx} {μ:Mu}: ∀ {xs:List V} {vs:List Value},aj X μ xs vs→xs.length=vs.length
 | [],[],_=>rfl
 | [],_::_,h=>by simp[aj] at h
 | _::_,[],h=>by simp[aj] at h
 | _::_,_::_,h=>by simp only[aj] at h;simp[aj.length h.2]
theorem aj.get {X:Ctx} {μ:Mu}: ∀ {xs:List V} {vs:List Value},aj X μ xs vs→ ∀ {i:Nat} {x:V},xs[i]? =some x→ ∃v,vs[i]? =some v∧ak X μ x v
 | [],_,_,i,x,hx=>by simp at hx
 | _::_,[],h,_,_,_=>by simp[aj] at h
 | y::ys,v::vs,h,i,x,hx=>by
   simp only[aj] at h
   cases i with
   | zero=>simp at hx;subst hx;exact⟨v,by simp,h.1⟩
   | succ i=>simp at hx;simpa using aj.get h.2 hx
theorem aj.sP {X:Ctx} {μ:Mu}: ∀ {xs:List V} {vs:List Value},xs.length=vs.length→(∀ (i:Nat) (x:V) (v:Value),xs[i]? =some x→vs[i]? =some v→ak X μ x v)→aj X μ xs vs
 | [],[],_,_=>by simp[aj]
 | [],_::_,h,_=>by simp at h
 | _::_,[],h,_=>by simp at h
 | x::xs,v::vs,h,hg=>by
   simp only[aj]
   exact⟨hg 0 x v (by simp) (by simp),aj.sP (by simpa using h) fun i y u hy hu=>hg (i+1) y u (by simpa using hy) (by simpa using hu)⟩
theorem aj.append {X:Ctx} {μ:Mu}: ∀ {xs ys:List V} {vs us:List Value},aj X μ xs vs→aj X μ ys us→aj X μ (xs++ys) (vs++us)
 | [],_,[],_,_,h=>by simpa using h
 | [],_,_::_,_,h,_=>by simp[aj] at h
 | _::_,_,[],_,h,_=>by simp[aj] at h
 | x::xs,ys,v::vs,us,h,h'=>by
   simp only[aj] at h
   simp only[List.cons_append,aj]
   exact⟨h.1,aj.append h.2 h'⟩
theorem aj.take {X:Ctx} {μ:Mu}: ∀ {xs:List V} {vs:List Value} (n:Nat),aj X μ xs vs→aj X μ (xs.take n) (vs.take n)
 | _,_,0,_=>by simp[aj]
 | [],[],n+1,_=>by simp[aj]
 | [],_::_,n+1,h=>by simp[aj] at h
 | _::_,[],n+1,h=>by simp[aj] at h
 | x::xs,v::vs,n+1,h=>by
   simp only[aj] at h
   simp only[List.take_succ_cons,aj]
   exact⟨h.1,aj.take n h.2⟩
theorem aj.drop {X:Ctx} {μ:Mu}: ∀ {xs:List V} {vs:List Value} (n:Nat),aj X μ xs vs→aj X μ (xs.drop n) (vs.drop n)
 | _,_,0,h=>by simpa using h
 | [],[],n+1,_=>by simp[aj]
 | [],_::_,n+1,h=>by simp[aj] at h
 | _::_,[],n+1,h=>by simp[aj] at h
 | x::xs,v::vs,n+1,h=>by
   simp only[aj] at h
   simpa using aj.drop n h.2
theorem aj.set {X:Ctx} {μ:Mu} {xs:List V} {vs:List Value} (h:aj X μ xs vs) (i:Nat) {x:V} {v:Value} (hx:ak X μ x v):aj X μ (xs.set i x) (vs.set i v):=by
 refine aj.sP (by simpa using h.length) fun j y u hy hu=> ?_
 rw[List.getElem?_set] at hy hu
 split at hy
 · rename_i e
   subst e
   by_cases hl:i<xs.length
   · have vB:i<vs.length:=by rw[←h.length];exact hl
     simp[hl] at hy;simp[vB] at hu
     subst hy hu;exact hx
   · simp[hl] at hy
 · rename_i e
   simp[e] at hu
   obtain⟨u',yH,hr⟩:=h.get hy
   rw[hu] at yH;injection yH with yH;subst yH;exact hr
structure Le (μ μ':Mu):Prop where
 size:μ.w.heap.size≤μ'.w.heap.size
 cA: ∀b,b<μ.w.heap.size→ ¬μ.own b→μ'.w.heap[b]? =μ.w.heap[b]? ∧ ¬μ'.own b
 gen: ∀r,(μ.O r).gen≤(μ'.O r).gen
 row: ∀r,(μ'.O r).gen=(μ.O r).gen→μ'.φ r=μ.φ r∧(μ'.O r).sz=(μ.O r).sz
 os:μ'.w.os=μ.w.os
 output:μ'.w.output=μ.w.output
 tape:μ'.w.tape=μ.w.tape
 frozen: ∀a:Addr,a.block<μ.w.heap.size→μ'.w.frozen? a=μ.w.frozen? a
theorem Le.refl (μ:Mu):Le μ μ:=
 ⟨Nat.le_refl _,fun _ _ h=> ⟨rfl,h⟩,fun _=>Nat.le_refl _,fun _ _=> ⟨rfl,rfl⟩,rfl,rfl,rfl,fun _ _=>rfl⟩
theorem Le.trans {a b c:Mu} (h:Le a b) (k:Le b c):Le a c where
 size:=Nat.le_trans h.size k.size
 cA:=fun i hi ho=>by
  obtain⟨h1,h2⟩:=h.cA i hi ho
  obtain⟨k1,k2⟩:=k.cA i (Nat.lt_of_lt_of_le hi h.size) h2
  exact⟨k1.trans h1,k2⟩
 gen:=fun r=>Nat.le_trans (h.gen r) (k.gen r)
 row:=fun r e=>by
  have h1:=h.gen r
  have k1:=k.gen r
  obtain⟨a1,a2⟩:=h.row r (by omega)
  obtain⟨b1,b2⟩:=k.row r (by omega)
  exact⟨b1.trans a1,b2.trans a2⟩
 os:=k.os.trans h.os
 output:=k.output.trans h.output
 tape:=k.tape.trans h.tape
 frozen:=fun x hx=> (k.frozen x (Nat.lt_of_lt_of_le hx h.size)).trans (h.frozen x hx)
theorem dz.cA {w w':World} {b off sz:Nat} {vs:List Value} (h:dz w b off sz vs) (e:w'.heap[b]? =w.heap[b]?):dz w' b off sz vs:=by
 intro i v hv
 obtain⟨h1,h2⟩:=h i v hv
 refine⟨h1,fun j c hc=> ?_⟩
 rw[←h2 j c hc]
 simp[World.cell?,e]
mutual
theorem ak.mono {X:Ctx} {μ μ':Mu} (le:Le μ μ'): ∀ {x:V} {v:Value},ak X μ x v→ak X μ' x v
 | .bool _,_,h| .int ..,_,h| .float _,_,h| .str _,_,h| .nilp,_,h| .nilfn,_,h| .nili,_,h| .nils,_,h=>by simpa [ak] using h
 | .any,_,_=>by simp[ak]
 | .own ..,_,h| .msl ..,_,h| .mptr ..,_,h=>by simp[ak] at h
 | .agg cs,_,h=>by
   simp only[ak] at h ⊢
   obtain⟨h1,vs,rfl,h2⟩:=h
   exact⟨h1,vs,rfl,aj.mono le h2⟩
 | .tuple cs,_,h=>by
   simp only[ak] at h ⊢
   obtain⟨vs,rfl,h2⟩:=h
   exact⟨vs,rfl,aj.mono le h2⟩
 | .fn f cs,_,h=>by
   simp only[ak] at h ⊢
   obtain⟨F,cv,rfl,h1,h2⟩:=h
   exact⟨F,cv,rfl,h1,aj.mono le h2⟩
 | .iface t x,_,h=>by
   simp only[ak] at h ⊢
   obtain⟨T,y,rfl,h1,h2⟩:=h
   exact⟨T,y,rfl,h1,ak.mono le h2⟩
 | .lit sz xs,_,h=>by
   simp only[ak] at h ⊢
   obtain⟨h0,jy,a,cap,vs,rfl,h1,h2,h3⟩:=h
   refine⟨h0,jy,a,cap,vs,rfl,h1,aj.mono le h2,h3.imp id ?_⟩
   rintro⟨b,o,rfl,hb,hs,hr⟩
   obtain⟨k1,k2⟩:=le.cA b hs (fun h=>hb (.inl h))
   exact⟨b,o,rfl,(fun h=>h.elim k2 fun h=>hb (.inr h)),Nat.lt_of_lt_of_le hs le.size,hr.cA k1⟩
 | .sl r g off len,_,h=>by
   simp only[ak] at h ⊢
   obtain⟨a,cap,rfl,h1,h2,h3⟩:=h
   have hg:=le.gen r
   refine⟨a,cap,rfl,h1,by omega,fun e=> ?_⟩
   obtain⟨e1,e2⟩:=le.row r (by omega)
   rw[e1,e2];exact h3 (by omega)
 | .ptr r g idx off,_,h=>by
   simp only[ak] at h ⊢
   obtain⟨a,rfl,h2,h3⟩:=h
   have hg:=le.gen r
   refine⟨a,rfl,by omega,fun e=> ?_⟩
   obtain⟨e1,e2⟩:=le.row r (by omega)
   rw[e1,e2];exact h3 (by omega)
 | .eptr e off,_,h=>by
   simp only[ak] at h ⊢
   obtain⟨h0,jy,b,o,sz,x,rfl,hb,hs,h1,hr⟩:=h
   obtain⟨k1,k2⟩:=le.cA b hs (fun h=>hb (.inl h))
   exact⟨h0,jy,b,o,sz,x,rfl,(fun h=>h.elim k2 fun h=>hb (.inr h)),Nat.lt_of_lt_of_le hs le.size,ak.mono le h1,hr.cA k1⟩
 | .litk sz xs,_,h=>by
   simp only[ak] at h ⊢
   obtain⟨h0,jy,a,cap,vs,rfl,h1,h2,h3⟩:=h
   refine⟨h0,jy,a,cap,vs,rfl,h1,aj.mono le h2,h3.imp id ?_⟩
   rintro⟨rfl,hb,hs,hr⟩
   obtain⟨k1,k2⟩:=le.cA _ hs (fun h=>hb (.inl h))
   exact⟨rfl,(fun h=>h.elim k2 fun h=>hb (.inr h)),Nat.lt_of_lt_of_le hs le.size,hr.cA k1⟩
 | .epk i sz e off,_,h=>by
   simp only[ak] at h ⊢
   obtain⟨h0,jy,x,rfl,hb,hs,h1,hr⟩:=h
   obtain⟨k1,k2⟩:=le.cA _ hs (fun h=>hb (.inl h))
   exact⟨h0,jy,x,rfl,(fun h=>h.elim k2 fun h=>hb (.inr h)),Nat.lt_of_lt_of_le hs le.size,ak.mono le h1,hr.cA k1⟩
 | .mp r g,_,h=>by
   simp only[ak] at h ⊢
   obtain⟨a,rfl,h2,h3⟩:=h
   have hg:=le.gen r
   refine⟨a,rfl,by omega,fun e=> ?_⟩
   obtain⟨e1,e2⟩:=le.row r (by omega)
   rw[e1,e2];exact h3 (by omega)
 | .it r g,_,h=>by
   simp only[ak] at h ⊢
   obtain⟨a,rfl,h2,h3⟩:=h
   have hg:=le.gen r
   refine⟨a,rfl,by omega,fun e=> ?_⟩
   obtain⟨e1,e2⟩:=le.row r (by omega)
   rw[e1,e2];exact h3 (by omega)
 | .mlit es,_,h=>by
   simp only[ak] at h ⊢
   obtain⟨h0,h⟩:=h
   refine⟨h0,h.imp id ?_⟩
   rintro⟨a,ents,clock,rfl,hb,hs,h1,h2⟩
   obtain⟨k1,k2⟩:=le.cA a hs (fun h=>hb (.inl h))
   exact⟨a,ents,clock,rfl,(fun h=>h.elim k2 fun h=>hb (.inr h)),Nat.lt_of_lt_of_le hs le.size,by rw[k1];exact h1,aj.mono le h2⟩
theorem aj.mono {X:Ctx} {μ μ':Mu} (le:Le μ μ'): ∀ {xs:List V} {vs:List Value},aj X μ xs vs→aj X μ' xs vs
 | [],[],_=>by simp[aj]
 | [],_::_,h=>by simp[aj] at h
 | _::_,[],h=>by simp[aj] at h
 | x::xs,v::vs,h=>by
   simp only[aj] at h ⊢
   exact⟨ak.mono le h.1,aj.mono le h.2⟩
end
def jI (X:Ctx) (μ:Mu) (r:Nat) (es:List V):Prop:=0 < (μ.O r).sz∧es.length≤(μ.φ r).cap∧es.all (aN · (μ.O r).sz)=true∧
 ((μ.φ r).cap=0∨ ∃c T vs,μ.w.heap[(μ.φ r).cD]? =some (.cells c T (0,0))∧(μ.φ r).base+(μ.φ r).cap*(μ.O r).sz≤c.size∧aj X μ es vs∧
   dz μ.w (μ.φ r).cD (μ.φ r).base (μ.O r).sz vs)
def kL (X:Ctx) (μ:Mu) (ob:Go.Obj) (es:List V):Prop:=
 (∃ents clock,ob= .map ents clock∧aj X μ es (ents.toList.map fun e=> .tuple #[e.key,e.val])∧sO ents clock)∨(∃ (s:ByteArray) (pos:Nat),ob= .stringIter s pos∧es=[.str s.data.toList,.int .i64 (pos:Int)])∨
 ∃mo since mX,ob= .mapIter mo since #[] since∧es=[.mlit mX]∧(mo=none∧mX=[]∨ ∃m ents,mo=some m∧ ¬Own X μ m∧m<μ.w.heap.size∧μ.w.heap[m]? =some (.map ents since)∧sO ents since∧aj X μ mX (ents.toList.map fun e=> .tuple #[e.key,e.val]))
theorem kL.mono {X:Ctx} {μ μ':Mu} (le:Le μ μ') {ob:Go.Obj} {es:List V} (h:kL X μ ob es):kL X μ' ob es:=by
 rcases h with⟨ents,clock,h1,h2,h3⟩ | h| ⟨mo,since,mX,h1,h2,h3⟩
 · exact .inl ⟨ents,clock,h1,aj.mono le h2,h3⟩
 · exact .inr (.inl h)
 · refine .inr (.inr ⟨mo,since,mX,h1,h2,h3.imp id ?_⟩)
   rintro⟨m,ents,k1,k2,k3,k4,k5,k6⟩
   obtain⟨l1,l2⟩:=le.cA m k3 (fun h=>k2 (.inl h))
   exact⟨m,ents,k1,(fun h=>h.elim l2 fun h=>k2 (.inr h)),Nat.lt_of_lt_of_le k3 le.size,by rw[l1];exact k4,k5,aj.mono le k6⟩
theorem kL.live {X:Ctx} {μ:Mu} {ob:Go.Obj} {es:List V} (h:kL X μ ob es) (a:Addr) (w:World) (hw:w.heap[a.block]? =some ob):w.frozen? a=false:=by
 rcases h with⟨_,_,rfl,_⟩ | ⟨_,_,rfl,_⟩ | ⟨_,_,_,rfl,_⟩ <;>simp only[World.frozen?,hw]
def ph (X:Ctx) (μ:Mu) (r:Nat) (es:List V):Prop:=(μ.O r).sz=0∧(μ.φ r).cap≠0∧
 ∃ob,μ.w.heap[(μ.φ r).cD]? =some ob∧kL X μ ob es
def eY (X:Ctx) (μ:Mu) (r:Nat):Prop:= ∀es,(μ.O r).es=some es→jI X μ r es∨ph X μ r es
def Xq (μ:Mu):Prop:= ∀r r',r≠r'→(μ.O r).es.isSome=true→(μ.O r').es.isSome=true→(μ.φ r).cap≠0→(μ.φ r').cap≠0→(μ.φ r).cD≠(μ.φ r').cD
structure bj (X:Ctx) (μ:Mu):Prop where
 ok: ∀r,eY X μ r
 inj:Xq μ
 qU: ∀r,(μ.O r).es.isSome=true→(μ.φ r).cap≠0→ ¬X.GI (μ.φ r).cD
 blt: ∀b,X.GI b→b<μ.w.heap.size
theorem bj.row {X:Ctx} {μ:Mu} (ho:bj X μ) (r:Nat) (es:List V) (bJ: (μ.O r).es=some es) (h0:0 < (μ.O r).sz):jI X μ r es:=by
 rcases ho.ok r es bJ with h| ⟨h,_⟩
 · exact h
 · omega
theorem bj.map {X:Ctx} {μ:Mu} (ho:bj X μ) (r:Nat) (es:List V) (bJ: (μ.O r).es=some es) (h0: (μ.O r).sz=0):ph X μ r es:=by
 rcases ho.ok r es bJ with⟨h,_⟩ | h
 · omega
 · exact h
theorem bj.ents {X:Ctx} {μ:Mu} (ho:bj X μ) (r:Nat) (es:List V) (bJ: (μ.O r).es=some es) (h0: (μ.O r).sz=0): ((μ.φ r).cap≠0∧ ∃ents clock,μ.w.heap[(μ.φ r).cD]? =some (.map ents clock)∧aj X μ es (ents.toList.map fun e=> .tuple #[e.key,e.val])∧sO ents clock)∨
  ((μ.φ r).cap≠0∧ ∃ (s:ByteArray) (pos:Nat),μ.w.heap[(μ.φ r).cD]? =some (.stringIter s pos)∧es=[.str s.data.toList,.int .i64 (pos:Int)])∨ ∃mX,es=[.mlit mX]:=by
 obtain⟨_,h2,ob,h3,h4⟩:=ho.map r es bJ h0
 rcases h4 with⟨ents,clock,rfl,h⟩ | ⟨s,pos,rfl,h⟩ | ⟨_,_,mX,_,h,_⟩
 · exact .inl ⟨h2,ents,clock,h3,h⟩
 · exact .inr (.inl ⟨h2,s,pos,h3,h⟩)
 · exact .inr (.inr ⟨mX,h⟩)
theorem eY.cD {X:Ctx} {μ:Mu} {r:Nat} {es:List V} (h:jI X μ r es∨ph X μ r es) (hc: (μ.φ r).cap≠0): (μ.φ r).cD<μ.w.heap.size:=by
 rcases h with⟨_,_,_,h⟩ | ⟨_,_,ob,h,_⟩
 · rcases h with h| ⟨_,_,_,h,_⟩
   · exact absurd h hc
   · exact(Array.getElem?_eq_some_iff.1 h).1
 · exact(Array.getElem?_eq_some_iff.1 h).1
theorem eY.cA {X:Ctx} {μ μ':Mu} {r r':Nat} {es:List V} (le:Le μ μ') (h:jI X μ r es∨ph X μ r es) (cE: (μ'.O r').sz=(μ.O r).sz) (hφ:μ'.φ r'=μ.φ r)
   (hb: (μ.φ r).cap≠0→μ'.w.heap[(μ.φ r).cD]? =μ.w.heap[(μ.φ r).cD]?):jI X μ' r' es∨ph X μ' r' es:=by
 rcases h with⟨h1,h2,h3,h4⟩ | ⟨h1,h2,ob,h3,h4⟩
 · left
   unfold jI
   rw[cE,hφ]
   by_cases hc: (μ.φ r).cap=0
   · exact⟨h1,h2,h3,.inl hc⟩
   · rcases h4 with h4| ⟨c,T,vs,k1,k2,k3,k4⟩
     · exact absurd h4 hc
     · exact⟨h1,h2,h3,.inr ⟨c,T,vs,by rw[hb hc];exact k1,k2,aj.mono le k3,k4.cA (hb hc)⟩⟩
 · right
   unfold ph
   rw[cE,hφ]
   exact⟨h1,h2,ob,by rw[hb h2];exact h3,h4.mono le⟩
structure yI (w0:World) (FF:Nat→Prop) (μ:Mu):Prop where
 size:w0.heap.size≤μ.w.heap.size
 cA: ∀b,b<w0.heap.size→ ¬FF b→μ.w.heap[b]? =w0.heap[b]? ∧ ¬μ.own b
 os:μ.w.os=w0.os
 output:μ.w.output=w0.output
 tape:μ.w.tape=w0.tape
 frozen: ∀a:Addr,a.block<w0.heap.size→μ.w.frozen? a=w0.frozen? a
theorem yI.step {w0:World} {FF:Nat→Prop} {μ μ':Mu} (h:yI w0 FF μ) (k:Le μ μ'):yI w0 FF μ' where
 size:=Nat.le_trans h.size k.size
 cA:=fun i hi ho=>by
  obtain⟨h1,h2⟩:=h.cA i hi ho
  obtain⟨k1,k2⟩:=k.cA i (Nat.lt_of_lt_of_le hi h.size) h2
  exact⟨k1.trans h1,k2⟩
 os:=k.os.trans h.os
 output:=k.output.trans h.output
 tape:=k.tape.trans h.tape
 frozen:=fun x hx=> (k.frozen x (Nat.lt_of_lt_of_le hx h.size)).trans (h.frozen x hx)
theorem ak.kM {X:Ctx} {μ:Mu} {x:V} {v:Value} (h:ak X μ x v) (hc:x.aI=true):v.oneCell'=true∧v.cells= #[v]:=by
 cases x<;>simp[V.aI] at hc<;>simp only[ak] at h
 case bool=>subst h;exact⟨rfl,rfl⟩
 case int=>subst h;exact⟨rfl,rfl⟩
 case float=>subst h;exact⟨rfl,rfl⟩
 case str=>obtain⟨_,rfl,_⟩:=h;exact⟨rfl,rfl⟩
 case nilp=>subst h;exact⟨rfl,rfl⟩
 case nilfn=>subst h;exact⟨rfl,rfl⟩
 case nili=>subst h;exact⟨rfl,rfl⟩
 case fn=>obtain⟨_,_,rfl,_⟩:=h;exact⟨rfl,rfl⟩
 case iface=>obtain⟨_,_,rfl,_⟩:=h;exact⟨rfl,rfl⟩
 case nils=>obtain⟨_,rfl⟩:=h;exact⟨rfl,rfl⟩
 case lit=>obtain⟨_,_,_,_,_,rfl,_⟩:=h;exact⟨rfl,rfl⟩
 case sl=>obtain⟨_,_,rfl,_⟩:=h;exact⟨rfl,rfl⟩
 case ptr=>obtain⟨_,rfl,_⟩:=h;exact⟨rfl,rfl⟩
 case eptr=>obtain⟨_,_,_,_,_,_,rfl,_⟩:=h;exact⟨rfl,rfl⟩
 case litk=>obtain⟨_,_,_,_,_,rfl,_⟩:=h;exact⟨rfl,rfl⟩
 case epk=>obtain⟨_,_,_,rfl,_⟩:=h;exact⟨rfl,rfl⟩
 case mp=>obtain⟨_,rfl,_⟩:=h;exact⟨rfl,rfl⟩
 case it=>obtain⟨_,rfl,_⟩:=h;exact⟨rfl,rfl⟩
 case mlit=>obtain⟨_,⟨_,rfl⟩ | ⟨_,_,_,rfl,_⟩⟩:=h<;>exact⟨rfl,rfl⟩
theorem V.fq {x:V} (h:x.aI=true):x.cells=[x]:=by
 cases x<;>simp_all[V.aI,V.cells]
theorem ak.cells {X:Ctx} {μ:Mu} {x:V} {v:Value} (h:ak X μ x v) (hl:x.cX=true):aj X μ x.cells v.cells.toList:=by
 simp only[V.cX,Bool.or_eq_true] at hl
 rcases hl with hl| hl
 · cases x<;>simp[V.isAgg] at hl
   simp only[ak] at h
   obtain⟨_,vs,rfl,h2⟩:=h
   exact h2
 · rw[(h.kM hl).2,V.fq hl]
   simp[aj,h]
theorem ak.dE {X:Ctx} {μ:Mu} {x:V} {v:Value} (h:ak X μ x v) (hl:x.cX=true):v.cells.size=x.cells.length:=by
 have:=(h.cells hl).length
 simpa using this.symm
theorem ak.pj {X:Ctx} {μ:Mu} {x:V} {v:Value} (h:ak X μ x v) (hl:x.cX=true):x.cells.all V.aI=true:=by
 simp only[V.cX,Bool.or_eq_true] at hl
 rcases hl with hl| hl
 · cases x<;>simp[V.isAgg] at hl
   simp only[ak] at h
   exact h.1
 · rw[V.fq hl];simp[hl]
end Go.AM
namespace Go.AM
open Go Go.RowKit
theorem aA {α:Type} (f:Nat→α) (t:Nat) (v:α):cW f t v t=v:=by simp[cW]
theorem aU {α:Type} (f:Nat→α) {t n:Nat} (v:α) (h:n≠t):cW f t v n=f n:=by simp[cW,h]
theorem dz.wS {w:World} {b off sz:Nat} {vs:List Value} {c:Array Value} {T:TypeId} {fr:Nat×Nat} (hb:w.heap[b]? =some (.cells c T fr))
  (h: ∀i v,vs[i]? =some v→v.cells.size=sz∧ ∀j x,v.cells[j]? =some x→c[off+i*sz+j]? =some x):dz w b off sz vs:=by
 intro i v hv
 obtain⟨h1,h2⟩:=h i v hv
 refine⟨h1,fun j x hx=> ?_⟩
 simp[World.cell?,hb,h2 j x hx]
theorem dz.CO {w:World} {b off sz:Nat} {vs:List Value} {c:Array Value} {T:TypeId} {fr:Nat×Nat} (hb:w.heap[b]? =some (.cells c T fr))
  (h:dz w b off sz vs): ∀i v,vs[i]? =some v→v.cells.size=sz∧ ∀j x,v.cells[j]? =some x→c[off+i*sz+j]? =some x:=by
 intro i v hv
 obtain⟨h1,h2⟩:=h i v hv
 refine⟨h1,fun j x hx=> ?_⟩
 have:=h2 j x hx
 simpa [World.cell?,hb] using this
theorem wT {μ:Mu} {r:Nat} {o:Obj} {w':World} (h:o.es.isSome=true→o.fz=false→(μ.O r).es.isSome=true∧(μ.O r).fz=false) {b:Nat}
   (hb: (⟨w',μ.φ,cW μ.O r o⟩:Mu).own b):μ.own b:=by
 obtain⟨r',h1,h2,h3,h4⟩:=hb
 by_cases e:r'=r
 · subst e
   simp only[aA] at h1 h2
   obtain⟨k1,k2⟩:=h h1 h2
   exact⟨r',k1,k2,h3,h4⟩
 · simp only[aU _ _ e] at h1 h2
   exact⟨r',h1,h2,h3,h4⟩
theorem bj.sQ {X:Ctx} {μ μ':Mu} (ho:bj X μ) (le:Le μ μ') (hO:μ'.O=μ.O) (hφ:μ'.φ=μ.φ)
  (hb: ∀b,b<μ.w.heap.size→μ'.w.heap[b]? =μ.w.heap[b]?):bj X μ' where
 ok:=fun r es bJ=>by
  rw[hO] at bJ
  exact eY.cA le (ho.ok r es bJ) (by rw[hO]) (by rw[hφ]) fun hc=>hb _ (eY.cD (ho.ok r es bJ) hc)
 inj:=by unfold Xq;rw[hO,hφ];exact ho.inj
 qU:=by rw[hO,hφ];exact ho.qU
 blt:=fun b hb=>Nat.lt_of_lt_of_le (ho.blt b hb) le.size
theorem Le.drew {X:Ctx} {μ:Mu} (ho:bj X μ):Le μ ⟨μ.w.drew,μ.φ,μ.O⟩∧bj X ⟨μ.w.drew,μ.φ,μ.O⟩:=by
 have le:Le μ ⟨μ.w.drew,μ.φ,μ.O⟩:=
  ⟨Nat.le_refl _,fun _ _ h=> ⟨rfl,h⟩,fun _=>Nat.le_refl _,fun _ _=> ⟨rfl,rfl⟩,rfl,rfl,rfl,fun _ _=>rfl⟩
 exact⟨le,ho.sQ le rfl rfl fun _ _=>rfl⟩
theorem vK {X:Ctx} {μ:Mu} (ho:bj X μ) (r sz cap:Nat) (arr:Bool) {es:List V} {vs:List Value} {c:Array Value} (T:TypeId) (cE:0 <sz)
   (dJ:es.length≤cap) (oh:es.all (aN · sz)=true) (bQ:aj X μ es vs) (hc:cap*sz≤c.size)
   (dI: ∀i v,vs[i]? =some v→v.cells.size=sz∧ ∀j x,v.cells[j]? =some x→c[i*sz+j]? =some x):
   let μ':Mu:=⟨μ.w.alloc (.cells c T (0,0)),cW μ.φ r ⟨μ.w.heap.size,0,cap⟩,cW μ.O r {gen:=(μ.O r).gen+1,sz:=sz,arr:=arr,fz:=false,es:=some es}⟩
   Le μ μ'∧bj X μ':=by
 intro μ'
 have ia: ∀b,b<μ.w.heap.size→μ'.w.heap[b]? =μ.w.heap[b]? :=fun b hb=>heap_alloc_old _ _ _ hb
 have pk:μ'.w.heap.size=μ.w.heap.size+1:=Array.size_push _
 have oi:μ'.w.heap[μ.w.heap.size]? =some (.cells c T (0,0)):=heap_alloc_new _ _
 have le:Le μ μ':=by
   refine⟨by omega,fun b hb kN=> ⟨ia b hb,?_⟩,fun r'=> ?_,fun r' e=> ?_,rfl,rfl,rfl,fun a ha=> ?_⟩
   · rintro⟨r',h1,h2,h3,h4⟩
     by_cases e:r'=r
     · subst e
       simp only[μ',aA] at h4
       omega
     · simp only[μ',aU _ _ e] at h1 h2 h3 h4
       exact kN ⟨r',h1,h2,h3,h4⟩
   · by_cases e:r'=r
     · subst e;simp[μ',aA]
     · simp[μ',aU _ _ e]
   · by_cases e':r'=r
     · subst e';simp[μ',aA] at e
     · simp[μ',aU _ _ e']
   · simp only[World.frozen?,ia a.block ha]
 refine⟨le,fun r' es' fe=> ?_,fun r1 r2 c9 h1 h2 h3 h4=> ?_,fun r' h1 h2 hb=> ?_,fun b hb=>Nat.lt_of_lt_of_le (ho.blt b hb) le.size⟩
 rotate_left 2
 · by_cases e:r'=r
   · subst e
     simp only[μ',aA] at hb
     have:=ho.blt _ hb
     omega
   · simp only[μ',aU _ _ e] at h1 h2 hb
     exact ho.qU r' h1 h2 hb
 · by_cases e:r'=r
   · subst e
     simp only[μ',aA] at fe ⊢
     injection fe with fe
     subst fe
     refine .inl ?_
     unfold jI
     simp only[μ',aA]
     refine⟨cE,dJ,oh,.inr ⟨c,T,vs,oi,by simpa using hc,aj.mono le bQ,dz.wS oi ?_⟩⟩
     simpa using dI
   · have hO:μ'.O r'=μ.O r':=by simp[μ',aU _ _ e]
     have hφ:μ'.φ r'=μ.φ r':=by simp[μ',aU _ _ e]
     rw[hO] at fe
     exact eY.cA le (ho.ok r' es' fe) (by rw[hO]) hφ fun hc=>ia _ (eY.cD (ho.ok r' es' fe) hc)
 · have hold: ∀r',r'≠r→(μ.O r').es.isSome=true→(μ.φ r').cap≠0→(μ.φ r').cD<μ.w.heap.size:=fun r' _ hs xY=>by
     obtain⟨es',he⟩:=Option.isSome_iff_exists.1 hs
     exact eY.cD (ho.ok r' es' he) xY
   by_cases e1:r1=r
   · subst e1
     have e2:r2≠r1:=fun e=>c9 e.symm
     simp only[μ',aA,aU _ _ e2] at h1 h2 h3 h4 ⊢
     have:=hold r2 e2 h2 h4
     omega
   · by_cases e2:r2=r
     · subst e2
       simp only[μ',aA,aU _ _ e1] at h1 h2 h3 h4 ⊢
       have:=hold r1 e1 h1 h3
       omega
     · simp only[μ',aU _ _ e1,aU _ _ e2] at h1 h2 h3 h4 ⊢
       exact ho.inj r1 r2 c9 h1 h2 h3 h4
theorem A7 {X:Ctx} {μ:Mu} (ho:bj X μ) (r sz:Nat) (cE:0 <sz):
   let μ':Mu:=⟨μ.w,cW μ.φ r ⟨0,0,0⟩,cW μ.O r {gen:=(μ.O r).gen+1,sz:=sz,arr:=true,fz:=false,es:=some []}⟩
   Le μ μ'∧bj X μ':=by
 intro μ'
 have le:Le μ μ':=by
   refine⟨Nat.le_refl _,fun b hb kN=> ⟨rfl,?_⟩,fun r'=> ?_,fun r' e=> ?_,rfl,rfl,rfl,fun _ _=>rfl⟩
   · rintro⟨r',h1,h2,h3,h4⟩
     by_cases e:r'=r
     · subst e
       simp only[μ',aA] at h3
       exact h3 rfl
     · simp only[μ',aU _ _ e] at h1 h2 h3 h4
       exact kN ⟨r',h1,h2,h3,h4⟩
   · by_cases e:r'=r
     · subst e;simp[μ',aA]
     · simp[μ',aU _ _ e]
   · by_cases e':r'=r
     · subst e';simp[μ',aA] at e
     · simp[μ',aU _ _ e']
 refine⟨le,fun r' es' fe=> ?_,fun r1 r2 c9 h1 h2 h3 h4=> ?_,fun r' h1 h2 hb=> ?_,ho.blt⟩
 · by_cases e:r'=r
   · subst e
     simp only[μ',aA] at fe
     injection fe with fe
     subst fe
     refine .inl ?_
     unfold jI
     simp only[μ',aA]
     exact⟨cE,Nat.le_refl _,rfl,.inl (by simp)⟩
   · have hO:μ'.O r'=μ.O r':=by simp[μ',aU _ _ e]
     have hφ:μ'.φ r'=μ.φ r':=by simp[μ',aU _ _ e]
     rw[hO] at fe
     exact eY.cA le (ho.ok r' es' fe) (by rw[hO]) hφ fun _=>rfl
 · have e1:r1≠r:=by
     intro e;subst e
     simp only[μ',aA] at h3
     exact h3 rfl
   have e2:r2≠r:=by
     intro e;subst e
     simp only[μ',aA] at h4
     exact h4 rfl
   simp only[μ',aU _ _ e1,aU _ _ e2] at h1 h2 h3 h4 ⊢
   exact ho.inj r1 r2 c9 h1 h2 h3 h4
 · have e:r'≠r:=by
     intro e;subst e
     simp only[μ',aA] at h2
     exact h2 rfl
   simp only[μ',aU _ _ e] at h1 h2 hb
   exact ho.qU r' h1 h2 hb
theorem FG {X:Ctx} {μ:Mu} (ho:bj X μ) {r r1:Nat} (c9:r1≠r):
   let μ':Mu:=⟨μ.w,cW μ.φ r (μ.φ r1),cW (cW μ.O r ⟨(μ.O r).gen+1,(μ.O r1).sz,(μ.O r1).arr,(μ.O r1).fz,(μ.O r1).es⟩) r1 ⟨(μ.O r1).gen+1,(μ.O r1).sz,(μ.O r1).arr,(μ.O r1).fz,none⟩⟩
   Le μ μ'∧bj X μ':=by
 intro μ'
 have sR:r≠r1:=Ne.symm c9
 have KQ:μ'.O r1=⟨(μ.O r1).gen+1,(μ.O r1).sz,(μ.O r1).arr,(μ.O r1).fz,none⟩:=by simp[μ',aA]
 have hOr:μ'.O r=⟨(μ.O r).gen+1,(μ.O r1).sz,(μ.O r1).arr,(μ.O r1).fz,(μ.O r1).es⟩:=by simp[μ',aU _ _ sR,aA]
 have Qt:μ'.φ r=μ.φ r1:=by simp[μ',aA]
 have hO: ∀r',r'≠r→r'≠r1→μ'.O r'=μ.O r':=fun r' h1 h2=>by simp[μ',aU _ _ h1,aU _ _ h2]
 have hφ: ∀r',r'≠r→μ'.φ r'=μ.φ r':=fun r' h1=>by simp[μ',aU _ _ h1]
 have gC: ∀b,μ'.own b→μ.own b:=by
   rintro b ⟨r',h1,h2,h3,h4⟩
   by_cases e1:r'=r1
   · subst e1;rw[KQ] at h1;simp at h1
   · by_cases e:r'=r
     · subst e
       rw[hOr] at h1 h2
       rw[Qt] at h3 h4
       exact⟨r1,h1,h2,h3,h4⟩
     · rw[hO _ e e1] at h1 h2
       rw[hφ _ e] at h3 h4
       exact⟨r',h1,h2,h3,h4⟩
 have le:Le μ μ':=by
   refine⟨Nat.le_refl _,fun b hb kN=> ⟨rfl,fun h=>kN (gC b h)⟩,fun r'=> ?_,fun r' e=> ?_,rfl,rfl,rfl,fun _ _=>rfl⟩
   · by_cases e1:r'=r1
     · subst e1;rw[KQ];simp
     · by_cases e:r'=r
       · subst e;rw[hOr];simp
       · rw[hO _ e e1];exact Nat.le_refl _
   · by_cases e1:r'=r1
     · subst e1;rw[KQ] at e;simp at e
     · by_cases e2:r'=r
       · subst e2;rw[hOr] at e;simp at e
       · rw[hO _ e2 e1,hφ _ e2];exact⟨rfl,rfl⟩
 refine⟨le,fun r' es' fe=> ?_,fun r2 r3 Qu h1 h2 h3 h4=> ?_,fun r' h1 h2 hb=> ?_,ho.blt⟩
 · by_cases e1:r'=r1
   · subst e1;rw[KQ] at fe;simp at fe
   · by_cases e:r'=r
     · subst e
       rw[hOr] at fe
       exact eY.cA (r:=r1) le (ho.ok r1 es' fe) (by rw[hOr]) Qt fun _=>rfl
     · rw[hO _ e e1] at fe
       exact eY.cA le (ho.ok r' es' fe) (by rw[hO _ e e1]) (hφ _ e) fun _=>rfl
 · have UE:r2≠r1:=by intro e;subst e;rw[KQ] at h1;simp at h1
   have Qv:r3≠r1:=by intro e;subst e;rw[KQ] at h2;simp at h2
   by_cases e2:r2=r
   · subst e2
     have e3:r3≠r2:=Ne.symm Qu
     rw[hOr] at h1
     rw[hO _ e3 Qv] at h2
     rw[Qt] at h3 ⊢
     rw[hφ _ e3] at h4 ⊢
     exact ho.inj r1 r3 (Ne.symm Qv) h1 h2 h3 h4
   · rw[hO _ e2 UE] at h1
     rw[hφ _ e2] at h3 ⊢
     by_cases e3:r3=r
     · subst e3
       rw[hOr] at h2
       rw[Qt] at h4 ⊢
       exact ho.inj r2 r1 UE h1 h2 h3 h4
     · rw[hO _ e3 Qv] at h2
       rw[hφ _ e3] at h4 ⊢
       exact ho.inj r2 r3 Qu h1 h2 h3 h4
 · have UE:r'≠r1:=by intro e;subst e;rw[KQ] at h1;simp at h1
   by_cases e:r'=r
   · subst e
     rw[hOr] at h1
     rw[Qt] at h2 hb
     exact ho.qU r1 h1 h2 hb
   · rw[hO _ e UE] at h1
     rw[hφ _ e] at h2 hb
     exact ho.qU r' h1 h2 hb
theorem j6 {X:Ctx} {μ:Mu} (ho:bj X μ) (r:Nat) {es:List V} {c:Array Value} {T:TypeId} (bJ: (μ.O r).es=some es) (fY: (μ.O r).fz=false)
   (hb:μ.w.heap[(μ.φ r).cD]? =some (.cells c T (0,0))) (jX: (μ.φ r).cap≠0)
   {c':Array Value} (hc:c'.size=c.size) (KR zU A8:Nat) {es':List V} {vs':List Value}
   (hg: (KR=(μ.O r).gen∧zU=(μ.φ r).base∧A8=(μ.φ r).cap)∨(μ.O r).gen<KR) (Xr:A8≠0)
   (hlen:es'.length≤A8) (oh:es'.all (aN · (μ.O r).sz)=true) (bQ:aj X μ es' vs') (nC:zU+A8*(μ.O r).sz≤c.size)
   (dI: ∀i v,vs'[i]? =some v→v.cells.size=(μ.O r).sz∧ ∀j x,v.cells[j]? =some x→c'[zU+i*(μ.O r).sz+j]? =some x):
   let μ':Mu:=⟨μ.w.setRow (μ.φ r).cD c',cW μ.φ r ⟨(μ.φ r).cD,zU,A8⟩,cW μ.O r {μ.O r with gen:=KR,es:=some es'}⟩
   Le μ μ'∧bj X μ':=by
 intro μ'
 have oi:μ'.w.heap[(μ.φ r).cD]? =some (.cells c' T (0,0)):=setRow_heap _ _ _ _ _ _ hb
 have oj: ∀b,b≠(μ.φ r).cD→μ'.w.heap[b]? =μ.w.heap[b]? :=fun b c9=>setRow_other _ _ _ _ c9
 have pk:μ'.w.heap.size=μ.w.heap.size:=by simp[μ',World.setRow]
 have bA: (μ.φ r).cD<μ.w.heap.size:=(Array.getElem?_eq_some_iff.1 hb).1
 have gC:μ.own (μ.φ r).cD:=⟨r,by simp[bJ],fY,jX,rfl⟩
 have le:Le μ μ':=by
   refine⟨by omega,fun b nD kN=> ⟨oj b (fun e=>kN (e ▸ gC)),?_⟩,fun r'=> ?_,fun r' e=> ?_,rfl,rfl,rfl,fun a ha=> ?_⟩
   · rintro⟨r',h1,h2,h3,h4⟩
     by_cases e:r'=r
     · subst e
       simp only[μ',aA] at h4
       exact kN (h4 ▸ gC)
     · simp only[μ',aU _ _ e] at h1 h2 h3 h4
       exact kN ⟨r',h1,h2,h3,h4⟩
   · by_cases e:r'=r
     · subst e;simp only[μ',aA];omega
     · simp[μ',aU _ _ e]
   · by_cases e':r'=r
     · subst e'
       simp only[μ',aA] at e ⊢
       rcases hg with⟨_,g2,g3⟩ | hg
       · subst g2;subst g3;exact⟨rfl,trivial⟩
       · omega
     · simp[μ',aU _ _ e']
   · by_cases e:a.block=(μ.φ r).cD
     · simp only[World.frozen?,e,oi,hb]
     · simp only[World.frozen?,oj _ e]
 refine⟨le,fun r' Qw om=> ?_,fun r1 r2 c9 h1 h2 h3 h4=> ?_,fun r' h1 h2 hb=> ?_,fun b hb=>Nat.lt_of_lt_of_le (ho.blt b hb) le.size⟩
 rotate_left 2
 · by_cases e:r'=r
   · subst e
     simp only[μ',aA] at hb
     exact ho.qU r' (by simp[bJ]) jX hb
   · simp only[μ',aU _ _ e] at h1 h2 hb
     exact ho.qU r' h1 h2 hb
 · by_cases e:r'=r
   · subst e
     have cE:0 < (μ.O r').sz:=by
       rcases ho.ok r' es bJ with⟨h,_⟩ | ⟨_,_,ob,hm,zV⟩
       · exact h
       · rw[hb] at hm;injection hm with hm;subst hm
         rcases zV with⟨_,_,h,_⟩ | ⟨_,_,h,_⟩ | ⟨_,_,_,h,_⟩ <;>cases h
     simp only[μ',aA] at om
     injection om with om
     subst om
     refine .inl ?_
     unfold jI
     simp only[μ',aA]
     exact⟨cE,hlen,oh,.inr ⟨c',T,vs',oi,by omega,aj.mono le bQ,dz.wS oi dI⟩⟩
   · have hO:μ'.O r'=μ.O r':=by simp[μ',aU _ _ e]
     have hφ:μ'.φ r'=μ.φ r':=by simp[μ',aU _ _ e]
     rw[hO] at om
     exact eY.cA le (ho.ok r' Qw om) (by rw[hO]) hφ fun VS=>oj _ (ho.inj r' r e (by simp[om]) (by simp[bJ]) VS jX)
 · have hs: ∀x,(μ'.O x).es.isSome=true→(μ.O x).es.isSome=true:=fun x hx=>by
     by_cases e:x=r
     · subst e;simp[bJ]
     · simpa [μ',aU _ _ e] using hx
   have wG: ∀x,(μ'.φ x).cap≠0→(μ.φ x).cap≠0:=fun x hx=>by
     by_cases e:x=r
     · subst e;exact jX
     · simpa [μ',aU _ _ e] using hx
   have GJ: ∀x,(μ'.φ x).cD=(μ.φ x).cD:=fun x=>by
     by_cases e:x=r
     · subst e;simp[μ',aA]
     · simp[μ',aU _ _ e]
   rw[GJ,GJ]
   exact ho.inj r1 r2 c9 (hs _ h1) (hs _ h2) (wG _ h3) (wG _ h4)
theorem oo {X:Ctx} {μ:Mu} (ho:bj X μ) (r:Nat):
   let μ':Mu:=⟨μ.w,μ.φ,cW μ.O r {μ.O r with fz:=true}⟩
   Le μ μ'∧bj X μ':=by
 intro μ'
 have cm: ∀x,(μ'.O x).gen=(μ.O x).gen∧(μ'.O x).sz=(μ.O x).sz∧(μ'.O x).es=(μ.O x).es:=fun x=>by
   by_cases e:x=r
   · subst e;simp[μ',aA]
   · simp[μ',aU _ _ e]
 have le:Le μ μ':=
   ⟨Nat.le_refl _,fun b hb h=> ⟨rfl,fun nD=>h (wT (r:=r) (w':=μ.w) (by simp) nD)⟩,fun x=>by rw[(cm x).1];exact Nat.le_refl _,fun x _=> ⟨rfl,(cm x).2.1⟩,rfl,rfl,rfl,fun _ _=>rfl⟩
 refine⟨le,fun x es bJ=> ?_,fun r1 r2 c9 h1 h2 h3 h4=> ?_,fun x h1 h2 hb=>ho.qU x (by rw[(cm x).2.2] at h1;exact h1) h2 hb,ho.blt⟩
 · rw[(cm x).2.2] at bJ
   exact eY.cA le (ho.ok x es bJ) (cm x).2.1 rfl fun _=>rfl
 · rw[(cm r1).2.2] at h1
   rw[(cm r2).2.2] at h2
   exact ho.inj r1 r2 c9 h1 h2 h3 h4
theorem A9 {X:Ctx} {μ:Mu} (ho:bj X μ) (r:Nat) {es':List V} (h0: (μ.O r).es.isSome=true) (cE:0 < (μ.O r).sz) (hl:es'.length≤(μ.φ r).cap) (oh:es'.all (aN · (μ.O r).sz)=true)
   (hc: (μ.φ r).cap=0∨ ∃c T vs,μ.w.heap[(μ.φ r).cD]? =some (.cells c T (0,0))∧(μ.φ r).base+(μ.φ r).cap*(μ.O r).sz≤c.size∧aj X μ es' vs∧
     dz μ.w (μ.φ r).cD (μ.φ r).base (μ.O r).sz vs):
   let μ':Mu:=⟨μ.w,μ.φ,cW μ.O r {μ.O r with es:=some es'}⟩
   Le μ μ'∧bj X μ':=by
 intro μ'
 have cm: ∀x,(μ'.O x).gen=(μ.O x).gen∧(μ'.O x).sz=(μ.O x).sz∧(μ'.O x).es.isSome=(μ.O x).es.isSome∧(μ'.O x).fz=(μ.O x).fz:=fun x=>by
   by_cases e:x=r
   · subst e;simp[μ',aA,h0]
   · simp[μ',aU _ _ e]
 have gC: ∀b,μ'.own b→μ.own b:=by
   rintro b ⟨r',h1,h2,h3,h4⟩
   rw[(cm r').2.2.1] at h1
   rw[(cm r').2.2.2] at h2
   exact⟨r',h1,h2,h3,h4⟩
 have le:Le μ μ':=
   ⟨Nat.le_refl _,fun b hb h=> ⟨rfl,fun nD=>h (gC b nD)⟩,fun x=>by rw[(cm x).1];exact Nat.le_refl _,fun x _=> ⟨rfl,(cm x).2.1⟩,rfl,rfl,rfl,fun _ _=>rfl⟩
 refine⟨le,fun x es bJ=> ?_,fun r1 r2 c9 h1 h2 h3 h4=> ?_,fun x h1 h2 hb=>ho.qU x (by rw[(cm x).2.2.1] at h1;exact h1) h2 hb,ho.blt⟩
 · by_cases e:x=r
   · subst e
     have:es=es':=by simp[μ',aA] at bJ;exact bJ.symm
     subst this
     refine .inl ?_
     unfold jI
     rw[(cm x).2.1]
     refine⟨cE,hl,oh,hc.imp id ?_⟩
     rintro⟨c,T,vs,q1,q2,q3,q4⟩
     exact⟨c,T,vs,q1,q2,aj.mono le q3,q4⟩
   · have hx:μ'.O x=μ.O x:=by simp[μ',aU _ _ e]
     rw[hx] at bJ
     exact eY.cA le (ho.ok x es bJ) (by rw[hx]) rfl fun _=>rfl
 · rw[(cm r1).2.2.1] at h1
   rw[(cm r2).2.2.1] at h2
   exact ho.inj r1 r2 c9 h1 h2 h3 h4
theorem pn {X:Ctx} {μ:Mu} (ho:bj X μ) (r:Nat) (ob:Go.Obj) (es:List V) (zV:kL X μ ob es):
   let μ':Mu:=⟨μ.w.alloc ob,cW μ.φ r ⟨μ.w.heap.size,0,1⟩,cW μ.O r {gen:=(μ.O r).gen+1,sz:=0,arr:=false,fz:=false,es:=some es}⟩
   Le μ μ'∧bj X μ':=by
 intro μ'
 have ia: ∀b,b<μ.w.heap.size→μ'.w.heap[b]? =μ.w.heap[b]? :=fun b hb=>heap_alloc_old _ _ _ hb
 have pk:μ'.w.heap.size=μ.w.heap.size+1:=Array.size_push _
 have oi:μ'.w.heap[μ.w.heap.size]? =some ob:=heap_alloc_new _ _
 have le:Le μ μ':=by
   refine⟨by omega,fun b hb kN=> ⟨ia b hb,?_⟩,fun r'=> ?_,fun r' e=> ?_,rfl,rfl,rfl,fun a ha=> ?_⟩
   · rintro⟨r',h1,h2,h3,h4⟩
     by_cases e:r'=r
     · subst e
       simp only[μ',aA] at h4
       omega
     · simp only[μ',aU _ _ e] at h1 h2 h3 h4
       exact kN ⟨r',h1,h2,h3,h4⟩
   · by_cases e:r'=r
     · subst e;simp[μ',aA]
     · simp[μ',aU _ _ e]
   · by_cases e':r'=r
     · subst e';simp[μ',aA] at e
     · simp[μ',aU _ _ e']
   · simp only[World.frozen?,ia a.block ha]
 refine⟨le,fun r' es' fe=> ?_,fun r1 r2 c9 h1 h2 h3 h4=> ?_,fun r' h1 h2 hb=> ?_,fun b hb=>Nat.lt_of_lt_of_le (ho.blt b hb) le.size⟩
 rotate_left 2
 · by_cases e:r'=r
   · subst e
     simp only[μ',aA] at hb
     have:=ho.blt _ hb
     omega
   · simp only[μ',aU _ _ e] at h1 h2 hb
     exact ho.qU r' h1 h2 hb
 · by_cases e:r'=r
   · subst e
     simp only[μ',aA] at fe
     injection fe with fe
     subst fe
     refine .inr ?_
     unfold ph
     simp only[μ',aA]
     exact⟨trivial,by simp,ob,oi,zV.mono le⟩
   · have hO:μ'.O r'=μ.O r':=by simp[μ',aU _ _ e]
     have hφ:μ'.φ r'=μ.φ r':=by simp[μ',aU _ _ e]
     rw[hO] at fe
     exact eY.cA le (ho.ok r' es' fe) (by rw[hO]) hφ fun hc=>ia _ (eY.cD (ho.ok r' es' fe) hc)
 · have hold: ∀r',r'≠r→(μ.O r').es.isSome=true→(μ.φ r').cap≠0→(μ.φ r').cD<μ.w.heap.size:=fun r' _ hs xY=>by
     obtain⟨es',he⟩:=Option.isSome_iff_exists.1 hs
     exact eY.cD (ho.ok r' es' he) xY
   by_cases e1:r1=r
   · subst e1
     have e2:r2≠r1:=fun e=>c9 e.symm
     simp only[μ',aA,aU _ _ e2] at h1 h2 h3 h4 ⊢
     have:=hold r2 e2 h2 h4
     omega
   · by_cases e2:r2=r
     · subst e2
       simp only[μ',aA,aU _ _ e1] at h1 h2 h3 h4 ⊢
       have:=hold r1 e1 h1 h3
       omega
     · simp only[μ',aU _ _ e1,aU _ _ e2] at h1 h2 h3 h4 ⊢
       exact ho.inj r1 r2 c9 h1 h2 h3 h4
theorem oq {X:Ctx} {μ:Mu} (ho:bj X μ) (r:Nat) {es es':List V} {ob ob':Go.Obj} (bJ: (μ.O r).es=some es) (fY: (μ.O r).fz=false) (cE: (μ.O r).sz=0)
   (hb:μ.w.heap[(μ.φ r).cD]? =some ob) (jX: (μ.φ r).cap≠0) (zV:kL X μ ob es) (Qx:kL X μ ob' es'):
   let μ':Mu:=⟨{μ.w with heap:=μ.w.heap.set! (μ.φ r).cD ob'},μ.φ,cW μ.O r {μ.O r with es:=some es'}⟩
   Le μ μ'∧bj X μ':=by
 intro μ'
 have bA: (μ.φ r).cD<μ.w.heap.size:=(Array.getElem?_eq_some_iff.1 hb).1
 have oi:μ'.w.heap[(μ.φ r).cD]? =some ob':=by simp[μ',Array.getElem?_setIfInBounds,bA]
 have oj: ∀b,b≠(μ.φ r).cD→μ'.w.heap[b]? =μ.w.heap[b]? :=fun b c9=>by simp[μ',Array.getElem?_setIfInBounds,Ne.symm c9]
 have pk:μ'.w.heap.size=μ.w.heap.size:=by simp[μ']
 have gC:μ.own (μ.φ r).cD:=⟨r,by simp[bJ],fY,jX,rfl⟩
 have qV: ∀x,(μ'.O x).gen=(μ.O x).gen∧(μ'.O x).sz=(μ.O x).sz∧(μ'.O x).fz=(μ.O x).fz∧(μ'.O x).es.isSome=(μ.O x).es.isSome:=fun x=>by
   by_cases e:x=r
   · subst e;simp[μ',aA,bJ]
   · simp[μ',aU _ _ e]
 have Cz: ∀b,μ'.own b→μ.own b:=by
   rintro b ⟨r',h1,h2,h3,h4⟩
   rw[(qV r').2.2.2] at h1
   rw[(qV r').2.2.1] at h2
   exact⟨r',h1,h2,h3,h4⟩
 have le:Le μ μ':=by
   refine⟨by omega,fun b nD kN=> ⟨oj b (fun e=>kN (e ▸ gC)),fun h=>kN (Cz b h)⟩,fun r'=>by rw[(qV r').1];exact Nat.le_refl _,fun r' _=> ⟨rfl,(qV r').2.1⟩,rfl,rfl,rfl,fun a ha=> ?_⟩
   by_cases e:a.block=(μ.φ r).cD
   · rw[Qx.live a μ'.w (by rw[e];exact oi),zV.live a μ.w (by rw[e];exact hb)]
   · simp only[World.frozen?,oj _ e]
 refine⟨le,fun r' Qw om=> ?_,fun r1 r2 c9 h1 h2 h3 h4=> ?_,fun r' h1 h2 hb=> ?_,fun b hb=>Nat.lt_of_lt_of_le (ho.blt b hb) le.size⟩
 · by_cases e:r'=r
   · subst e
     simp only[μ',aA] at om
     injection om with om
     subst om
     refine .inr ?_
     unfold ph
     rw[(qV r').2.1]
     exact⟨cE,jX,ob',oi,Qx.mono le⟩
   · have hO:μ'.O r'=μ.O r':=by simp[μ',aU _ _ e]
     rw[hO] at om
     exact eY.cA le (ho.ok r' Qw om) (by rw[hO]) rfl fun VS=>oj _ (ho.inj r' r e (by simp[om]) (by simp[bJ]) VS jX)
 · rw[(qV r1).2.2.2] at h1
   rw[(qV r2).2.2.2] at h2
   exact ho.inj r1 r2 c9 h1 h2 h3 h4
 · rw[(qV r').2.2.2] at h1
   exact ho.qU r' h1 h2 hb
end Go.AM
namespace Go.AM
open Go Go.RowKit
structure Rel (X:Ctx) (T:Nat→V) (a:Go.Act) (μ:Mu):Prop where
 tmps: ∀t,ak X μ (T t) (a.tmps.getD t undef)
 aX:bj X μ
def cF (X:Ctx) (o:Oper) (a:Go.Act) (μ:Mu) (O':Nat→Obj) (v:V):Prop:=
 ∃val w' φ',((execOp a.eval o).run X.P μ.w= .ok (.value val) w'∨((execOp a.eval o).run X.P μ.w= .ok .skip w'∧val=undef))∧
  ak X ⟨w',φ',O'⟩ v val∧Le μ ⟨w',φ',O'⟩∧bj X ⟨w',φ',O'⟩
theorem aG {X:Ctx} {o:Oper} {a:Go.Act} {μ:Mu} {v:V} {val:Value} (ho:bj X μ) (ah: (execOp a.eval o).run X.P μ.w= .ok (.value val) μ.w)
  (hv:ak X μ v val):cF X o a μ μ.O v:=
 ⟨val,μ.w,μ.φ,.inl ah,hv,Le.refl μ,ho⟩
theorem b9 {P:Program} {s:Sem Value} {w w':World} {val:Value} (h:s.run P w= .ok val w'): (do pure (Next.value (←s)):Sem Next).run P w= .ok (.value val) w':=by
 simp[Sem.run_bind,h]
theorem CP {P:Program} {s:Sem Unit} {w w':World} (h:s.run P w= .ok () w'): (do s;pure Next.skip:Sem Next).run P w= .ok .skip w':=by
 simp[Sem.run_bind,h]
theorem bo (C:bb) (x:aP) (k:V→Act) (σ:St): (ev x k).run C σ=(k (bc σ x)).run C σ:=by cases x<;>rfl
theorem po (C:bb): ∀ (xs:List aP) (k:List V→Act) (σ:St),(uq xs k).run C σ=(k (xs.map (bc σ))).run C σ
 | [],_,_=>rfl
 | x::xs,k,σ=>by simp only[uq,bo,po C xs,List.map_cons]
theorem zW (C:bb) (x:Option aP) (k:Option V→Act) (σ:St): (tJ x k).run C σ=(k (x.map (bc σ))).run C σ:=by
 cases x with
 | none=>rfl
 | some x=>exact bo C x _ σ
theorem dq {C:bb} {r:Option V} {σ σ':St} {v:V} (h: (cM r).run C σ=some (v,σ')):r=some v∧σ'=σ:=by
 cases r with
 | none=>simp[cM,Act.run] at h
 | some u=>simp only[cM,Act.run,Option.some.injEq,Prod.mk.injEq] at h;exact⟨by rw[h.1],h.2.symm⟩
theorem aS {C:bb} {u v:V} {σ σ':St} (h: (Act.done u).run C σ=some (v,σ')):u=v∧σ'=σ:=by
 simp only[Act.run,Option.some.injEq,Prod.mk.injEq] at h;exact⟨h.1,h.2.symm⟩
theorem an {C:bb} {p:V×St} {σ:St}: (Act.fail).run C σ≠some p:=by simp[Act.run]
theorem nE {X:Ctx} {μ:Mu} {v:Value} {c:V} (h:m8 v=some c):ak X μ c v∧c.aI=true:=by
 unfold m8 at h
 split at h<;>first
  | (injection h with h;subst h;simp[ak,V.aI,V.aq])
  | simp at h
theorem mg {X:Ctx} {μ:Mu}: ∀ {vs:List Value} {cs:List V},jh vs=some cs→aj X μ cs vs∧cs.all V.aI=true
 | [],cs,h=>by simp[jh] at h;subst h;simp[aj]
 | v::vs,cs,h=>by
   simp only[jh] at h
   split at h
   · rename_i c cI h1 h2
     injection h with h;subst h
     obtain⟨a1,a2⟩:=nE (X:=X) (μ:=μ) h1
     obtain⟨b1,b2⟩:=mg (X:=X) (μ:=μ) h2
     simp[aj,a1,a2,b1,b2]
   · simp at h
theorem eh {X:Ctx} {μ:Mu} {v:Value} {c:V} (h:sK v=some c):ak X μ c v∧c.cX=true:=by
 unfold sK at h
 split at h
 · rename_i cs
   simp only[Option.map_eq_some_iff] at h
   obtain⟨l,h1,rfl⟩:=h
   obtain⟨a1,a2⟩:=mg (X:=X) (μ:=μ) h1
   simp[ak,V.cX,V.isAgg,a1,a2]
 · obtain⟨a1,a2⟩:=nE (X:=X) (μ:=μ) h
   exact⟨a1,by simp[V.cX,a2]⟩
theorem aO {X:Ctx} {μ:Mu} {T:Nat→V} {a:Go.Act} {x:Operand} {y:aP} (hr:Rel X T a μ) (h:cK X x=some y) (O:Nat→Obj):ak X μ (bc ⟨T,O⟩ y) (a.eval x):=by
 cases x with
 | tmp t=>simp[cK] at h;subst h;exact hr.tmps t
 | const v=>
   simp only[cK,Option.map_eq_some_iff] at h
   obtain⟨c,h1,rfl⟩:=h
   exact(eh h1).1
 | global g=>simp[cK] at h
 | func f=>
   simp only[cK,Option.map_eq_some_iff] at h
   obtain⟨n,h1,rfl⟩:=h
   simp only[bc,Go.Act.eval,ak]
   exact⟨f,#[],rfl,h1,by simp[aj]⟩
theorem pq {X:Ctx} {μ:Mu} {T:Nat→V} {a:Go.Act} (hr:Rel X T a μ) (O:Nat→Obj): ∀ {xs:List Operand} {ys:List aP},pd X xs=some ys→
   aj X μ (ys.map (bc ⟨T,O⟩)) (xs.map a.eval)
 | [],ys,h=>by simp[pd] at h;subst h;simp[aj]
 | x::xs,ys,h=>by
   simp only[pd] at h
   split at h
   · rename_i b bs h1 h2
     injection h with h;subst h
     simp only[List.map_cons,aj]
     exact⟨aO hr h1 O,pq hr O h2⟩
   · simp at h
theorem kP {X:Ctx} {μ:Mu} {e u:V} {x:Value} {off sz:Nat} (h:ak X μ e x) (hp:part true off sz e=some u):
   ∃cs,x= .agg cs∧off+sz≤cs.size∧ak X μ u (.agg (cs.extract off (off+sz))):=by
 cases e<;>simp[part] at hp
 rename_i cs
 obtain⟨h1,h2⟩:=hp
 subst h2
 simp only[ak] at h
 obtain⟨h0,vs,rfl,hv⟩:=h
 have hl:=hv.length
 simp at hl
 refine⟨vs,rfl,by omega,?_⟩
 simp only[ak]
 refine⟨?_,_,rfl,?_⟩
 · simp only[List.all_eq_true] at h0 ⊢
   intro c hc
   exact h0 c (List.mem_of_mem_drop (List.mem_of_mem_take hc))
 · have:=aj.take sz (aj.drop off hv)
   simpa [Array.toList_extract,List.extract_eq_take_drop] using this
theorem jU {X:Ctx} {μ:Mu} {e u:V} {x:Value} {off sz:Nat} (h:ak X μ e x) (hp:part false off sz e=some u):
   e.cX=true∧ ∃c,x.cells[off]? =some c∧ak X μ u c:=by
 by_cases ha: ∃cs,e= .agg cs
 · obtain⟨cs,rfl⟩:=ha
   simp only[part] at hp
   simp only[ak] at h
   obtain⟨h0,vs,rfl,hv⟩:=h
   obtain⟨c,h1,h2⟩:=hv.get hp
   exact⟨by simp[V.cX,V.isAgg],c,by simpa [Value.cells] using h1,h2⟩
 · have:part false off sz e=if e.aI∧off=0 then some e else none:=by
     cases e<;>first| rfl| exact absurd ⟨_,rfl⟩ ha
   rw[this] at hp
   split at hp
   · rename_i hc
     injection hp with hp;subst hp
     refine⟨by simp[V.cX,hc.1],x,?_,h⟩
     rw[(h.kM hc.1).2,hc.2];simp
   · simp at hp
section
variable {X:Ctx} {h:Hints} {dst:Nat} {E:Env} {C:bb} {o:Oper} {a:Go.Act} {T:Nat→V} {μ:Mu} {v:V} {σ':St}
theorem aj.vx {X:Ctx} {μ:Mu}: ∀ (ks:List Nat) {cs:List V} {vs:List Value},aj X μ cs vs→aj X μ (AM.vx ks cs) vs
 | [],cs,vs,h=>by simpa [AM.vx] using h
 | k::ks,[],vs,h=>by simpa [AM.vx] using h
 | k::ks,c::cs,[],h=>by simp[aj] at h
 | k::ks,c::cs,v::vs,h=>by
   simp only[aj] at h
   simp only[AM.vx,aj]
   refine⟨?_,aj.vx ks h.2⟩
   split
   · obtain⟨a,rfl⟩:=by simpa [ak] using h.1
     simp only[ak]
     exact⟨rfl,rfl,a,0,[],rfl,Nat.le_refl _,by simp[aj],.inl trivial⟩
   · exact h.1
theorem ot: ∀ (ks:List Nat) {cs:List V},cs.all V.aI=true→(AM.vx ks cs).all V.aI=true
 | [],cs,h=>by simpa [AM.vx] using h
 | k::ks,[],h=>by simp[AM.vx]
 | k::ks,c::cs,h=>by
   simp only[List.all_cons,Bool.and_eq_true] at h
   simp only[AM.vx,List.all_cons,Bool.and_eq_true]
   refine⟨?_,ot ks h.2⟩
   split
   · rfl
   · exact h.1
theorem ak.ya {X:Ctx} {μ:Mu} (ks:List Nat) {v:V} {val:Value} (h:ak X μ v val):ak X μ (AM.ya ks v) val:=by
 unfold AM.ya
 split
 · simp only[ak] at h ⊢
   obtain⟨h1,vs,rfl,h2⟩:=h
   exact⟨ot ks h1,vs,rfl,h2.vx ks⟩
 · split
   · obtain⟨a,rfl⟩:=by simpa [ak] using h
     simp only[ak]
     exact⟨rfl,rfl,a,0,[],rfl,Nat.le_refl _,by simp[aj],.inl trivial⟩
   · exact h
 · exact h
theorem ak.GH {X:Ctx} {μ:Mu} (ks:List Nat) {σ:St} {y:aP} {val:Value} (h:ak X μ (bc σ y) val):ak X μ (bc σ (AM.GH ks y)) val:=by
 cases y with
 | tmp t=>exact h
 | const v=>exact ak.ya ks h
theorem KS {x:Operand} {y:aP} (ks:List Nat) (hr:Rel X T a μ) (ho:o.op= .move x∨o.op= .assign x) (ht:cK X x=some y) (ah: (ar E (.move (GH ks y))).run C ⟨T,μ.O⟩=some (v,σ')):
  σ'.T=T∧cF X o a μ σ'.O v:=by
 simp only[ar,bo] at ah
 obtain⟨rfl,rfl⟩:=aS ah
 refine⟨rfl,aG hr.aX ?_ (ak.GH ks (aO hr ht _))⟩
 rcases ho with ho| ho<;>simp[execOp,ho]
theorem GK {h:Hints} {dst:Nat} {x:Operand} {nq:pP} (hr:Rel X T a μ) (ho:o.op= .move x∨o.op= .assign x) (ht:sL X h dst x=some nq) (ah: (ar E nq).run C ⟨T,μ.O⟩=some (v,σ')):
   σ'.T=T∧cF X o a μ σ'.O v:=by
 unfold sL at ht
 split at ht
 · rename_i r sz hn hb
   injection ht with ht;subst ht
   simp only[ar] at ah
   split at ah
   · rename_i cE
     simp only[Act.run,Option.some.injEq,Prod.mk.injEq] at ah
     obtain⟨rfl,rfl⟩:=ah
     have hx:x= .const (.slice none 0 0):=by
       unfold isNil at hn
       split at hn
       · rfl
       · simp at hn
     subst hx
     obtain⟨le,tV⟩:=A7 hr.aX r sz cE
     refine⟨rfl,.slice none 0 0,μ.w,cW μ.φ r ⟨0,0,0⟩,.inl ?_,?_,le,tV⟩
     · rcases ho with ho| ho<;>simp[execOp,ho,Go.Act.eval]
     · simp only[ak,aA]
       exact⟨_,0,rfl,Nat.le_refl _,Nat.le_refl _,fun _=> ⟨cE,rfl,.inl rfl⟩⟩
   · exact absurd ah an
 · split at ht
   · rename_i r hrn
     simp only[Option.map_eq_some_iff] at ht
     obtain⟨y,h1,rfl⟩:=ht
     simp only[ar,bo] at ah
     have bQ:=aO hr h1 μ.O
     have jJ: (execOp a.eval o).run X.P μ.w= .ok (.value (a.eval x)) μ.w:=by rcases ho with ho| ho<;>simp[execOp,ho]
     split at ah
     · rename_i r1 g off len he
       rw[he] at bQ
       split at ah
       · obtain⟨rfl,rfl⟩:=aS ah
         exact⟨rfl,aG hr.aX jJ bQ⟩
       · rename_i c9
         simp only[Act.run] at ah
         split at ah
         · rename_i hg
           simp only[Act.run,Option.some.injEq,Prod.mk.injEq] at ah
           obtain⟨rfl,rfl⟩:=ah
           obtain⟨le,tV⟩:=FG hr.aX (r:=r) (r1:=r1) c9
           refine⟨rfl,a.eval x,μ.w,cW μ.φ r (μ.φ r1),.inl jJ,?_,le,tV⟩
           simp only[ak] at bQ ⊢
           obtain⟨ad,cap,k1,k2,k3,k4⟩:=bQ
           obtain⟨k5,k6⟩:=k4 hg
           have sR:r≠r1:=fun e=>c9 e.symm
           simp only[aU _ _ sR,aA]
           exact⟨ad,cap,k1,k2,Nat.le_refl _,fun _=> ⟨k5,k6⟩⟩
         · simp[Act.run] at ah
     · obtain⟨rfl,rfl⟩:=aS ah
       exact⟨rfl,aG hr.aX jJ bQ⟩
   · simp only[Option.map_eq_some_iff] at ht
     obtain⟨y,h1,rfl⟩:=ht
     exact KS _ hr ho h1 ah
theorem FH {c p q:Operand} {c' p' q':aP} (hr:Rel X T a μ) (ho:o.op= .pick c p q) (h1:cK X c=some c') (h2:cK X p=some p') (h3:cK X q=some q')
   (ah: (ar E (.pick c' p' q')).run C ⟨T,μ.O⟩=some (v,σ')):σ'.T=T∧cF X o a μ σ'.O v:=by
 simp only[ar,bo] at ah
 have hc:=aO hr h1 μ.O
 split at ah
 · rename_i e
   rw[e] at hc
   simp only[ak] at hc
   rw[bo] at ah
   obtain⟨rfl,rfl⟩:=aS ah
   refine⟨rfl,aG hr.aX ?_ (aO hr h2 _)⟩
   simp[execOp,ho,hc,asBool,Sem.run_bind]
 · rename_i e
   rw[e] at hc
   simp only[ak] at hc
   rw[bo] at ah
   obtain⟨rfl,rfl⟩:=aS ah
   refine⟨rfl,aG hr.aX ?_ (aO hr h3 _)⟩
   simp[execOp,ho,hc,asBool,Sem.run_bind]
 · exact absurd ah an
theorem wU {x:Operand} {y:aP} (hr:Rel X T a μ) (ho:o.op= .nilCheck x) (ht:cK X x=some y) (ah: (ar E (.nilCheck y)).run C ⟨T,μ.O⟩=some (v,σ')):
   σ'.T=T∧cF X o a μ σ'.O v:=by
 simp only[ar,bo] at ah
 have hx:=aO hr ht μ.O
 split at ah
 · rename_i e
   obtain⟨rfl,rfl⟩:=aS ah
   refine⟨rfl,aG hr.aX ?_ (e ▸ hx)⟩
   rw[e] at hx
   simp only[ak] at hx
   obtain⟨p,hp,_⟩:=hx
   simp[execOp,ho,hp]
 · rename_i e
   obtain⟨rfl,rfl⟩:=aS ah
   refine⟨rfl,aG hr.aX ?_ (e ▸ hx)⟩
   rw[e] at hx
   simp only[ak] at hx
   obtain⟨_,_,b,o',sz,q,hp,_⟩:=hx
   simp[execOp,ho,hp]
 · rename_i e
   obtain⟨rfl,rfl⟩:=aS ah
   refine⟨rfl,aG hr.aX ?_ (e ▸ hx)⟩
   rw[e] at hx
   simp only[ak] at hx
   obtain⟨_,_,q,hp,_⟩:=hx
   simp[execOp,ho,hp]
 · rename_i e
   obtain⟨rfl,rfl⟩:=aS ah
   refine⟨rfl,aG hr.aX ?_ (e ▸ hx)⟩
   rw[e] at hx
   simp only[ak] at hx
   obtain⟨F,cv,hp,_⟩:=hx
   simp[execOp,ho,hp]
 · exact absurd ah an
theorem vL {s:TypeId} {x:Operand} {i:Nat} {y:aP} {fs:Array Field} {f:Field} {n:Nat} (hr:Rel X T a μ) (ho:o.op= .fieldAddr s x i) (ht:cK X x=some y)
   (hd:bg X s=some (.struct fs)) (hf:fs[i]? =some f) (hn:bz X f.type=some (n+1)) (ah: (ar E (.fieldAddr f.offset y)).run C ⟨T,μ.O⟩=some (v,σ')):
   σ'.T=T∧cF X o a μ σ'.O v:=by
 simp only[ar,bo] at ah
 have hx:=aO hr ht μ.O
 have hi: ∃inf,X.P.info? f.type=some inf∧inf.size=n+1:=by
   simpa [bz,info] using hn
 obtain⟨inf,rF,yJ⟩:=hi
 have cE:X.P.cellsOf f.type=n+1:=by simp[Program.cellsOf,rF,yJ]
 have key: ∀p:Addr,a.eval x= .pointer (some p)→(execOp a.eval o).run X.P μ.w= .ok (.value (.pointer (some (p.add f.offset)))) μ.w:=fun p hp=>by
   simp only[execOp,ho]
   refine b9 ?_
   simp[Instr.fieldAt,Sem.run_bind,run_underlying hd,hf,Instr.sureAddr,hp,fieldPlace,run_sizeOf (w:=μ.w) rF,cE]
 have o7: ∀ (b q:Nat),(⟨b,q,none⟩:Addr).add f.offset=⟨b,q+f.offset,none⟩:=fun b q=>by unfold Addr.add;split<;>simp_all
 split at ah
 · rename_i e
   obtain⟨rfl,rfl⟩:=aS ah
   rw[e] at hx
   simp only[ak] at hx
   obtain⟨p,hp,h1,h2⟩:=hx
   refine⟨rfl,aG hr.aX (key p hp) ?_⟩
   simp only[ak]
   refine⟨_,rfl,h1,fun eg=> ⟨(h2 eg).1,?_⟩⟩
   rw[(h2 eg).2,o7];simp[Nat.add_assoc]
 · rename_i e
   obtain⟨rfl,rfl⟩:=aS ah
   rw[e] at hx
   simp only[ak] at hx
   obtain⟨h0,jy,b,o',sz,q,hp,h1,h2,h3,h4⟩:=hx
   refine⟨rfl,aG hr.aX (key _ hp) ?_⟩
   simp only[ak]
   exact⟨h0,jy,b,o',sz,q,by rw[o7];simp[Nat.add_assoc],h1,h2,h3,h4⟩
 · rename_i e
   obtain⟨rfl,rfl⟩:=aS ah
   rw[e] at hx
   simp only[ak] at hx
   obtain⟨h0,jy,q,hp,h1,h2,h3,h4⟩:=hx
   refine⟨rfl,aG hr.aX (key _ hp) ?_⟩
   simp only[ak]
   exact⟨h0,jy,q,by rw[o7];simp[Nat.add_assoc],h1,h2,h3,h4⟩
 · exact absurd ah an
theorem yK {x:Operand} {i:Nat} {y:aP} (hr:Rel X T a μ) (ho:o.op= .extract x i) (ht:cK X x=some y) (ah: (ar E (.extract y i)).run C ⟨T,μ.O⟩=some (v,σ')):
   σ'.T=T∧cF X o a μ σ'.O v:=by
 simp only[ar,bo] at ah
 have hx:=aO hr ht μ.O
 split at ah
 · rename_i vs e
   obtain⟨h1,rfl⟩:=dq ah
   rw[e] at hx
   simp only[ak] at hx
   obtain⟨us,hu,hv⟩:=hx
   obtain⟨c,h2,h3⟩:=hv.get h1
   refine⟨rfl,aG hr.aX ?_ h3⟩
   simp only[execOp,ho]
   refine b9 ?_
   have yL:us[i]? =some c:=by simpa using h2
   simp[Instr.extract,hu,yL]
 · exact absurd ah an
theorem wV {f:FuncId} {first caps:Array Operand} {n:Nat} {cs:List aP} (hr:Rel X T a μ) (ho:o.op= .makeFunc (.func f) first caps) (YA:first.isEmpty=true)
   (hn:X.jg f=some n) (ht:pd X caps.toList=some cs) (ah: (ar E (.im n cs)).run C ⟨T,μ.O⟩=some (v,σ')):σ'.T=T∧cF X o a μ σ'.O v:=by
 simp only[ar,po] at ah
 obtain⟨rfl,rfl⟩:=aS ah
 have hx:=pq hr μ.O ht
 obtain rfl:first= #[]:=by simpa using YA
 refine⟨rfl,aG (val:= .func (.func f) #[] (caps.map a.eval)) hr.aX ?_ ?_⟩
 · simp[execOp,ho,Instr.makeFunc,Sem.run_bind]
 · simp only[ak]
   exact⟨f,_,rfl,hn,by simpa using hx⟩
theorem qq {t:TypeId} {x:Operand} {n:Nat} {y:aP} (hr:Rel X T a μ) (ho:o.op= .makeInterface t x) (hn:X.iv t=some n) (ht:cK X x=some y)
   (hd: ∃d,bg X t=some d∧ ∀ms,d≠ .interface ms) (ah: (ar E (.b6 n y)).run C ⟨T,μ.O⟩=some (v,σ')):σ'.T=T∧cF X o a μ σ'.O v:=by
 simp only[ar,bo] at ah
 obtain⟨rfl,rfl⟩:=aS ah
 have hx:=aO hr ht μ.O
 obtain⟨d,Ba,BV⟩:=hd
 refine⟨rfl,aG (val:= .iface t (a.eval x)) hr.aX ?_ ?_⟩
 · simp only[execOp,ho]
   refine b9 ?_
   simp only[Instr.makeInterface,Sem.run_bind,run_underlying Ba,Result.andThen_ok]
   cases d<;>first| rfl| exact absurd rfl (BV _)
 · simp only[ak]
   exact⟨t,_,rfl,hn,hx⟩
theorem CQ {t:TypeId} {x:Operand} {i:Nat} {y:aP} {fs:Array Field} {f:Field} {g:Bool} {sz:Nat} (hr:Rel X T a μ) (ho:o.op= .field t x i) (ht:cK X x=some y)
   (hd:bg X t=some (.struct fs)) (hf:fs[i]? =some f) (hg:fU X f.type=some g) (hn:bz X f.type=some sz)
   (ah: (ar E (.field g f.offset sz y)).run C ⟨T,μ.O⟩=some (v,σ')):σ'.T=T∧cF X o a μ σ'.O v:=by
 simp only[ar,bo] at ah
 split at ah
 case isFalse=>exact absurd ah an
 rename_i Bb
 obtain⟨hp,rfl⟩:=dq ah
 have hx:=aO hr ht μ.O
 obtain⟨inf,rF,yJ⟩: ∃inf,X.P.info? f.type=some inf∧inf.size=sz:=by simpa [bz,info] using hn
 have cE:X.P.cellsOf f.type=sz:=by simp[Program.cellsOf,rF,yJ]
 obtain⟨d,BW⟩: ∃d,X.P.underlying f.type=some d:=by
   simp only[fU,bg,Option.map_eq_some_iff] at hg
   obtain⟨d,h1,_⟩:=hg;exact⟨d,h1⟩
 have CR: (isAgg f.type).run X.P μ.w= .ok g μ.w:=by
   simp only[fU,bg,BW,Option.map_some,Option.some.injEq] at hg
   simp only[isAgg,Sem.run_bind,run_underlying BW,Result.andThen_ok]
   subst hg
   cases d<;>rfl
 cases g with
 | true=>
   obtain⟨cs,hc,hle,hv⟩:=kP hx hp
   refine⟨rfl,aG hr.aX ?_ hv⟩
   simp only[execOp,ho]
   refine b9 ?_
   simp[Instr.field,Sem.run_bind,run_underlying hd,hf,part,CR,hc,asAgg,run_sizeOf (w:=μ.w) rF,cE,Go.part]
 | false=>
   obtain⟨_,c,hc,hv⟩:=jU hx hp
   cases hy:bc ⟨T,μ.O⟩ y<;>rw[hy] at Bb<;>simp[V.isAgg] at Bb
   rw[hy] at hx
   simp only[ak] at hx
   obtain⟨_,cs,c7,_⟩:=hx
   rw[c7] at hc
   refine⟨rfl,aG hr.aX ?_ hv⟩
   simp only[execOp,ho]
   refine b9 ?_
   have xY:cs[f.offset]? =some c:=by simpa [Value.cells] using hc
   simp[Instr.field,Sem.run_bind,run_underlying hd,hf,CR,c7,asAgg,Go.part,xY]
end
end Go.AM
namespace Go.AM
open Go Go.RowKit
theorem m9 {X:Ctx} {t:TypeId} {g:Bool} (hg:fU X t=some g) (w:World): (isAgg t).run X.P w= .ok g w:=by
 simp only[fU,bg,Option.map_eq_some_iff] at hg
 obtain⟨d,BW,hg⟩:=hg
 simp only[isAgg,Sem.run_bind,run_underlying BW,Result.andThen_ok]
 subst hg
 cases d<;>rfl
theorem cU {X:Ctx} {t:TypeId} {sz:Nat} (hn:bz X t=some sz) (w:World): (sizeOf t).run X.P w= .ok sz w:=by
 obtain⟨inf,rF,yJ⟩: ∃inf,X.P.info? t=some inf∧inf.size=sz:=by simpa [bz,info] using hn
 have cE:X.P.cellsOf t=sz:=by simp[Program.cellsOf,rF,yJ]
 rw[run_sizeOf (w:=w) rF,cE]
theorem pr {X:Ctx} {t:TypeId} {sz:Nat} (hg:fU X t=some true) (hn:bz X t=some sz) (cs:Array Value) (off:Nat) (w:World):
  (Go.part t cs off).run X.P w= .ok (.agg (cs.extract off (off+sz))) w:=by
 simp[Go.part,Sem.run_bind,m9 hg,cU hn]
theorem fj {X:Ctx} {t:TypeId} (hg:fU X t=some false) (cs:Array Value) (off:Nat) (c:Value) (hc:cs[off]? =some c) (w:World):
  (Go.part t cs off).run X.P w= .ok c w:=by
 simp[Go.part,Sem.run_bind,m9 hg,hc]
theorem sS: ∀ (ks:List Nat) {FE:List Nat} {cs ds:List V} {b:Bool},eA (ks++FE) cs ds=some b→
   ∃b1 b2,eA ks (cs.take ks.length) (ds.take ks.length)=some b1∧eA FE (cs.drop ks.length) (ds.drop ks.length)=some b2∧b=(b1 &&b2)
 | [],FE,cs,ds,b,h=> ⟨true,b,by simp[eA],by simpa using h,by simp⟩
 | k::ks,FE,[],_,b,h=>by simp[eA] at h
 | k::ks,FE,_::_,[],b,h=>by simp[eA] at h
 | k::ks,FE,c::cs,d::ds,b,h=>by
   simp only[List.cons_append,eA] at h
   split at h
   · rename_i x y hx hy
     injection h with h;subst h
     obtain⟨b1,b2,h1,h2,h3⟩:=sS ks hy
     refine⟨x &&b1,b2,?_,by simpa using h2,by rw[h3,Bool.and_assoc]⟩
     simp[eA,hx,h1]
   · simp at h
theorem qW: ∀ {ks:List Nat} {cs ds:List V} {b:Bool},eA ks cs ds=some b→cs.length=ks.length∧ds.length=ks.length
 | [],[],[],_,_=> ⟨rfl,rfl⟩
 | [],[],_::_,_,h=>by simp[eA] at h
 | [],_::_,_,_,h=>by simp[eA] at h
 | _::_,[],_,_,h=>by simp[eA] at h
 | _::_,_::_,[],_,h=>by simp[eA] at h
 | k::ks,c::cs,d::ds,b,h=>by
   simp only[eA] at h
   split at h
   · rename_i x y hx hy
     obtain⟨h1,h2⟩:=qW hy
     simp[h1,h2]
   · simp at h
theorem zX {X:Ctx} {μ:Mu} {t:TypeId} {m k:Nat} {c e:V} {x y:Value} {b:Bool} {D:TypeDesc} (hd:bg X t=some D)
   (hk: (k=0∧D= .bool)∨(k=1∧ ∃q,D= .int q)∨(k=2∧D= .string))
   (hc:ak X μ c x) (he:ak X μ e y) (hb:tT k c e=some b) (w:World): (Op.equalIn (m+1) t x y).run X.P w= .ok b w:=by
 unfold tT at hb
 split at hb
 · injection hb with hb;subst hb
   simp only[ak] at hc he
   subst hc;subst he
   rcases hk with⟨_,rfl⟩ | ⟨h,_⟩ | ⟨h,_⟩
   · exact run_equalIn_bool' w m t _ _ hd
   · cases h
   · cases h
 · split at hb
   · injection hb with hb;subst hb
     simp only[ak] at hc he
     subst hc;subst he
     rename_i sA
     subst sA
     rcases hk with⟨h,_⟩ | ⟨_,q,rfl⟩ | ⟨h,_⟩
     · cases h
     · exact run_equalIn_int w m t _ _ _ _ hd
     · cases h
   · simp at hb
 · injection hb with hb;subst hb
   simp only[ak] at hc he
   obtain⟨p,rfl,hp⟩:=hc
   obtain⟨q,rfl,hq⟩:=he
   rcases hk with⟨h,_⟩ | ⟨h,_⟩ | ⟨_,rfl⟩
   · cases h
   · cases h
   · rw[run_equalIn_string w m t _ _ hd]
     congr 1
     rw[ByteArray.toList_eq,ByteArray.toList_eq,hp,hq]
     rw[Bool.eq_iff_iff];simp
 · simp at hb
theorem qX {X:Ctx} {μ:Mu} (w:World) {e:TypeId} {k m:Nat} (hg:fU X e=some false) (h1:X.P.cellsOf e=1)
   (ih: ∀c f x y b,ak X μ c x→ak X μ f y→tT k c f=some b→(Op.equalIn m e x y).run X.P w= .ok b w):
   ∀ (n off:Nat) (cs ds:List V) (xs ys:List Value) (b:Bool),aj X μ cs xs→aj X μ ds ys→eA (List.replicate n k) (cs.drop off) (ds.drop off)=some b→
     (Op.eqItems m e (X.P.cellsOf e) xs.toArray ys.toArray (List.range' off n)).run X.P w= .ok b w
 | 0,off,cs,ds,xs,ys,b,hx,hy,hb=>by
   cases hc:cs.drop off<;>cases he:ds.drop off<;>rw[hc,he] at hb<;>simp[eA] at hb
   subst hb
   simp[Op.eqItems]
 | n+1,off,cs,ds,xs,ys,b,hx,hy,hb=>by
   rw[List.replicate_succ] at hb
   cases hc:cs.drop off with
   | nil=>rw[hc] at hb;simp[eA] at hb
   | cons c cI=>
     cases he:ds.drop off with
     | nil=>rw[hc,he] at hb;simp[eA] at hb
     | cons f YB=>
       rw[hc,he] at hb
       simp only[eA] at hb
       split at hb
       · rename_i p q hp hq
         injection hb with hb;subst hb
         have gc:cs[off]? =some c:=by
          have:=congrArg (fun l=>l[0]?) hc
          simpa using this
         have gf:ds[off]? =some f:=by
          have:=congrArg (fun l=>l[0]?) he
          simpa using this
         obtain⟨x,gx,rx⟩:=hx.get gc
         obtain⟨y,gy,ry⟩:=hy.get gf
         have yb:cs.drop (off+1)=cI:=by
          have:=congrArg (List.drop 1) hc
          simpa [List.drop_drop] using this
         have VT:ds.drop (off+1)=YB:=by
          have:=congrArg (List.drop 1) he
          simpa [List.drop_drop] using this
         have rest:=qX w hg h1 ih n (off+1) cs ds xs ys q hx hy (by rw[yb,VT];exact hq)
         have px:xs.toArray[off*X.P.cellsOf e]? =some x:=by rw[h1];simpa using gx
         have py:ys.toArray[off*X.P.cellsOf e]? =some y:=by rw[h1];simpa using gy
         rw[List.range'_succ]
         simp only[Op.eqItems,Sem.run_bind,fj hg _ _ _ px,fj hg _ _ _ py,Result.andThen_ok,ih c f x y p rx ry hp]
         cases p
         · simp
         · simpa using rest
       · simp at hb
theorem KT {   X:Ctx} {μ:Mu} (w:World): ∀d:Nat,
   (∀t ks cs ds xs ys b m,jT X d t=some ks→d≤m→aj X μ cs xs→aj X μ ds ys→eA ks cs ds=some b→
     bz X t=some ks.length∧((fU X t=some true∧(Op.equalIn m t (.agg xs.toArray) (.agg ys.toArray)).run X.P w= .ok b w)∨
       (fU X t=some false∧ks.length=1∧ ∃x y,xs=[x]∧ys=[y]∧(Op.equalIn m t x y).run X.P w= .ok b w)))∧
   (∀fs off ks cs ds xs ys b m,qp X d fs off=some ks→d≤m→aj X μ cs xs→aj X μ ds ys→eA ks (cs.drop off) (ds.drop off)=some b→
     (Op.eqFields m xs.toArray ys.toArray fs).run X.P w= .ok b w):=by
 intro d
 induction d with
 | zero=>exact⟨fun _ _ _ _ _ _ _ _ h=>by simp[jT] at h,fun _ _ _ _ _ _ _ _ _ h=>by simp[qp] at h⟩
 | succ d ih=>
   refine⟨fun t ks cs ds xs ys b m hk hm hx hy hb=> ?_,fun fs off ks cs ds xs ys b m hk hm hx hy hb=> ?_⟩
   · obtain⟨ m,rfl⟩: ∃m',m=m'+1:=⟨m - 1,by omega⟩
     have scalar: ∀ (D:TypeDesc) (k:Nat),bg X t=some D→((k=0∧D= .bool)∨(k=1∧ ∃q,D= .int q)∨(k=2∧D= .string))→bz X t=some 1→ks=[k]→
         bz X t=some ks.length∧((fU X t=some true∧(Op.equalIn (m+1) t (.agg xs.toArray) (.agg ys.toArray)).run X.P w= .ok b w)∨
       (fU X t=some false∧ks.length=1∧ ∃x y,xs=[x]∧ys=[y]∧(Op.equalIn (m+1) t x y).run X.P w= .ok b w)):=by
       intro D k hd hD hs e
       subst e
       obtain⟨l1,l2⟩:=qW hb
       have lx:=hx.length
       have ly:=hy.length
       match cs,ds,xs,ys,l1,l2,lx,ly with
       | [c],[e],[x],[y],_,_,_,_=>
         simp only[aj,and_true] at hx hy
         simp only[eA,Bool.and_true] at hb
         have nD:tT k c e=some b:=by
           cases hq:tT k c e<;>rw[hq] at hb<;>simp at hb;rw[hb]
         refine⟨by simpa using hs,.inr ⟨?_,rfl,x,y,rfl,rfl,zX hd hD hx hy nD w⟩⟩
         simp only[fU,hd,Option.map_some]
         rcases hD with⟨_,rfl⟩ | ⟨_,q,rfl⟩ | ⟨_,rfl⟩ <;>rfl
     simp only[jT] at hk
     split at hk
     · split at hk<;>simp at hk
       rename_i hd hs
       exact scalar _ 0 hd (by simp) hs hk.symm
     · split at hk<;>simp at hk
       rename_i hd hs
       exact scalar _ 1 hd (by simp) hs hk.symm
     · split at hk<;>simp at hk
       rename_i hd hs
       exact scalar _ 2 hd (by simp) hs hk.symm
     · rename_i fs hd
       split at hk
       · rename_i mh
         split at hk
         · rename_i FE YC
           split at hk
           · rename_i hs
             injection hk with hk;subst hk
             refine⟨hs,.inl ⟨by simp[fU,hd],?_⟩⟩
             have BX:X.P.fieldsOf t=fs:=by
               have lr:X.P.underlying t=some (.struct fs):=hd
               simp[Program.fieldsOf,lr]
             rw[run_equalIn_struct w m t _ _ (by rw[BX];exact hd) mh,BX]
             exact ih.2 _ 0 _ cs ds xs ys b m YC (by omega) hx hy (by simpa using hb)
           · simp at hk
         · simp at hk
       · simp at hk
     · rename_i n e hd
       split at hk
       · rename_i pR
         obtain⟨pR,cE⟩:=pR
         split at hk
         · rename_i k KU
           injection hk with hk;subst hk
           refine⟨by rw[List.length_replicate];exact cE,.inl ⟨by simp[fU,hd],?_⟩⟩
           have qY:bz X e=some 1:=by
             cases d with
             | zero=>simp[jT] at KU
             | succ d=>
               simp only[jT] at KU
               split at KU<;> (try (split at KU<;>simp at KU<;>assumption)) <;> (try (rename_i YD;simp[fU,YD] at pR)) <;>simp at KU
           obtain⟨inf,rF,yJ⟩: ∃inf,X.P.info? e=some inf∧inf.size=1:=by simpa [bz,info] using qY
           have wG:X.P.cellsOf e=1:=by simp[Program.cellsOf,rF,yJ]
           rw[run_equalIn_array w m _ _ hd rF,List.range_eq_range']
           refine qX w pR wG (fun c f x y b' rx ry nD=> ?_) n 0 cs ds xs ys b hx hy (by simpa using hb)
           obtain⟨_,hq⟩:=ih.1 e [k] [c] [f] [x] [y] b' m KU (by omega) (by simp only[aj,and_true];exact rx) (by simp only[aj,and_true];exact ry) (by simp[eA,nD])
           rcases hq with⟨hq,_⟩ | ⟨_,_,x',y',zY,BY,hq⟩
           · rw[pR] at hq;cases hq
           · obtain rfl:x=x':=by simpa using zY
             obtain rfl:y=y':=by simpa using BY
             exact hq
         · simp at hk
       · simp at hk
     · simp at hk
   · obtain⟨ m,rfl⟩: ∃m',m=m'+1:=⟨m - 1,by omega⟩
     cases fs with
     | nil=>
       simp only[qp,Option.some.injEq] at hk
       subst hk
       cases hc:cs.drop off<;>cases he:ds.drop off<;>rw[hc,he] at hb<;>simp[eA] at hb
       subst hb
       simp[Op.eqFields]
     | cons f fs=>
       simp only[qp] at hk
       split at hk
       · rename_i hn
         split at hk
         · rename_i k1 vC
           split at hk
           · rename_i k2 Vy
             injection hk with hk;subst hk
             obtain⟨b1,b2,e1,e2,e3⟩:=sS k1 hb
             obtain⟨hs,ha⟩:=ih.1 f.type k1 _ _ _ _ b1 (m+1) vC (by omega) (aj.take k1.length (aj.drop off hx)) (aj.take k1.length (aj.drop off hy)) e1
             have wW:=ih.2 fs (off+k1.length) k2 cs ds xs ys b2 (m+1) Vy (by omega) hx hy (by simpa [List.drop_drop] using e2)
             have FI:=hn.2
             have head: (do let a ←Go.part f.type xs.toArray f.offset;let c ←Go.part f.type ys.toArray f.offset;Op.equalIn (m+1) f.type a c:Sem Bool).run X.P w= .ok b1 w:=by
               rcases ha with⟨hg,hq⟩ | ⟨hg,h1,x,y,UF,YE,hq⟩
               · simp only[Sem.run_bind,pr hg hs,Result.andThen_ok,FI]
                 rw[←hq]
                 congr 3 <;> (apply Array.ext';simp[Array.toList_extract,List.extract_eq_take_drop])
               · have gx:xs.toArray[f.offset]? =some x:=by
                  have:=congrArg (fun l=>l[0]?) UF
                  simpa [List.getElem?_take,h1,FI] using this
                 have gy:ys.toArray[f.offset]? =some y:=by
                  have:=congrArg (fun l=>l[0]?) YE
                  simpa [List.getElem?_take,h1,FI] using this
                 simp only[Sem.run_bind,fj hg _ _ _ gx,fj hg _ _ _ gy,Result.andThen_ok]
                 exact hq
             simp only[Op.eqFields,Sem.run_ite,if_pos hn.1]
             simp only[Sem.run_bind] at head ⊢
             generalize (Go.part f.type xs.toArray f.offset).run X.P w=r1 at head ⊢
             cases r1 with
             | halt _ _=>simp[Result.andThen] at head
             | ok a1 w1=>
               simp only[Result.andThen_ok] at head ⊢
               generalize (Go.part f.type ys.toArray f.offset).run X.P w1=r2 at head ⊢
               cases r2 with
               | halt _ _=>simp[Result.andThen] at head
               | ok a2 w2=>
                 simp only[Result.andThen_ok] at head ⊢
                 rw[head]
                 simp only[Result.andThen_ok,Sem.run_ite]
                 subst e3
                 cases b1
                 · simp
                 · simpa using wW
           · simp at hk
         · simp at hk
       · simp at hk
end Go.AM
namespace Go.AM
open Go Go.RowKit
theorem CS {X:Ctx} {μ:Mu} {T:Nat→V} {a:Go.Act} {x:Option Operand} {y:Option aP} (hr:Rel X T a μ) (h:qo X x=some y) (O:Nat→Obj):
   (x=none∧y=none)∨ ∃x' y',x=some x'∧y=some y'∧ak X μ (bc ⟨T,O⟩ y') (a.eval x'):=by
 cases x with
 | none=>simp[qo] at h;exact .inl ⟨rfl,h.symm⟩
 | some x=>
   simp only[qo,Option.map_eq_some_iff] at h
   obtain⟨c,h1,rfl⟩:=h
   exact .inr ⟨x,c,rfl,rfl,aO hr h1 O⟩
section
variable {X:Ctx} {E:Env} {C:bb} {o:Oper} {a:Go.Act} {T:Nat→V} {μ:Mu} {v:V} {σ':St}
theorem CT {op:BinOp} {t:TypeId} {x y:V} {xv yv:Value} {u:V} (hx:ak X μ x xv) (hy:ak X μ y yv) (h:bY op x y=some u) (p q:Operand):
   ∃val,(do eqGuard op t p q xv yv;Go.binOp op t xv yv:Sem Value).run X.P μ.w= .ok val μ.w∧ak X μ u val:=by
 unfold bY at h
 split at h
 · rename_i k n k' n'
   simp only[ak] at hx hy
   subst hx;subst hy
   have hg: (eqGuard op t p q (.int k n) (.int k' n')).run X.P μ.w= .ok () μ.w:=by
     cases op<;>simp[eqGuard]
   simp only[Sem.run_bind,hg,Result.andThen_ok]
   cases op with
   | shl=>
     simp only at h
     split at h<;>simp at h
     subst h
     rename_i hb
     exact⟨.int k (k.wrap (n*2 ^ min n'.toNat k.bits)),by simp[Go.binOp,Op.shift,hb],by simp[ak]⟩
   | shr=>
     simp only at h
     split at h<;>simp at h
     subst h
     rename_i hb
     exact⟨.int k (n.fdiv (2 ^ min n'.toNat k.bits)),by simp[Go.binOp,Op.shift,hb],by simp[ak]⟩
   | quo=>
     simp only at h
     split at h
     · rename_i hk;subst hk
       split at h<;>simp at h
       subst h
       rename_i hb
       exact⟨.int k (k.wrap (n.tdiv n')),by simp[Go.binOp,Op.intDiv,hb],by simp[ak]⟩
     · simp at h
   | rem=>
     simp only at h
     split at h
     · rename_i hk;subst hk
       split at h<;>simp at h
       subst h
       rename_i hb
       exact⟨.int k (n.tmod n'),by simp[Go.binOp,Op.intDiv,hb],by simp[ak]⟩
     · simp at h
   | _=>
     simp only at h
     split at h
     · rename_i hk;subst hk
       simp only[jE,de,Option.some.injEq] at h
       subst h
       exact⟨_,by simp[Go.binOp,Op.intArith,Op.intBits,Op.intCmp];rfl,by simp[ak]⟩
     · simp at h
 · rename_i s s'
   simp only[ak] at hx hy
   obtain⟨bs,rfl,rfl⟩:=hx
   obtain⟨cs,rfl,rfl⟩:=hy
   have hg: (eqGuard op t p q (.string bs) (.string cs)).run X.P μ.w= .ok () μ.w:=by
     cases op<;>simp[eqGuard]
   simp only[Sem.run_bind,hg,Result.andThen_ok]
   have he: (bs.toList==cs.toList)=decide (bs.data.toList=cs.data.toList):=by
     rw[ByteArray.toList_eq,ByteArray.toList_eq,Bool.eq_iff_iff];simp
   cases op with
   | add=>
     simp only at h
     split at h<;>simp at h
     subst h
     rename_i hl
     have vB: ¬ ((bs.size+cs.size:Nat):Int) >IntKind.i64.max:=by
       have hm:IntKind.i64.max=9223372036854775807:=by decide
       have h1:bs.data.toList.length=bs.size:=by rw[Array.length_toList];rfl
       have h2:cs.data.toList.length=cs.size:=by rw[Array.length_toList];rfl
       rw[hm];rw[h1,h2] at hl;omega
     refine⟨.string (bs++cs),by simp only[Go.binOp,Op.stringOp];rw[if_neg vB];rfl,?_⟩
     simp[ak,ByteArray.data_append]
   | _=>
     simp only[Option.some.injEq,reduceCtorEq] at h
     try (subst h;refine⟨_,by simp only[Go.binOp,Op.stringOp];rfl,?_⟩;simp only[ak,he] <;>simp only[ByteArray.toList_eq])
 · simp at h
theorem yM {op:BinOp} {t t2:TypeId} {x y:Operand} {x' y':aP} (hr:Rel X T a μ) (ho:o.op= .binOp op t x y t2) (h1:cK X x=some x') (h2:cK X y=some y')
  (ah: (ar E (.bin op x' y')).run C ⟨T,μ.O⟩=some (v,σ')):σ'.T=T∧cF X o a μ σ'.O v:=by
 simp only[ar,bo] at ah
 obtain⟨hb,rfl⟩:=dq ah
 obtain⟨val,hv,bQ⟩:=CT (t:=t) (aO hr h1 μ.O) (aO hr h2 μ.O) hb x y
 refine⟨rfl,aG hr.aX ?_ bQ⟩
 simp only[execOp,ho]
 exact b9 hv
theorem KV {op:BinOp} {t t2:TypeId} {x y:Operand} {x' y':aP} (hr:Rel X T a μ) (ho:o.op= .binOp op t x y t2) (du:op= .eql∨op= .neq) (hd:bg X t=some .bool)
   (h1:cK X x=some x') (h2:cK X y=some y') {neg:Bool} (hn:neg=fF op)
   (ah: (ar E (.L3 neg x' y')).run C ⟨T,μ.O⟩=some (v,σ')):σ'.T=T∧cF X o a μ σ'.O v:=by
 simp only[ar,bo] at ah
 have hx:=aO hr h1 μ.O
 have hy:=aO hr h2 μ.O
 split at ah
 · rename_i p q e1 e2
   obtain⟨rfl,rfl⟩:=aS ah
   rw[e1] at hx;rw[e2] at hy
   simp only[ak] at hx hy
   refine⟨rfl,aG (val:= .bool ((p==q) !=neg)) hr.aX ?_ (by simp[ak])⟩
   simp only[execOp,ho]
   refine b9 ?_
   have heq: (Op.equal t (.bool p) (.bool q)).run X.P μ.w= .ok (p==q) μ.w:=run_equalIn_bool' μ.w 9999 t p q hd
   rcases du with rfl| rfl
   · subst hn
     simp[eqGuard,hx,hy,Go.binOp,Sem.run_bind,heq,fF]
   · subst hn
     simp[eqGuard,hx,hy,Go.binOp,Sem.run_bind,heq,fF]
 · exact absurd ah an
theorem CU {op:BinOp} {t t2:TypeId} {x y:Operand} {x' y':aP} {ks:List Nat} (hr:Rel X T a μ) (ho:o.op= .binOp op t x y t2) (du:op= .eql∨op= .neq)
   (hg:X.P.eqGuardType X.P.depth t=false) (hk:jT X 100 t=some ks) (Bb:fU X t=some true)
   (h1:cK X x=some x') (h2:cK X y=some y') {neg:Bool} (hn:neg=fF op)
   (ah: (ar E (.D6 neg ks x' y')).run C ⟨T,μ.O⟩=some (v,σ')):σ'.T=T∧cF X o a μ σ'.O v:=by
 simp only[ar,bo] at ah
 have hx:=aO hr h1 μ.O
 have hy:=aO hr h2 μ.O
 split at ah
 · rename_i p q e1 e2
   split at ah
   · rename_i b hb
     obtain⟨rfl,rfl⟩:=aS ah
     rw[e1] at hx;rw[e2] at hy
     simp only[ak] at hx hy
     obtain⟨_,xs,zx,YF⟩:=hx
     obtain⟨_,ys,KW,YG⟩:=hy
     refine⟨rfl,aG (val:= .bool (b !=neg)) hr.aX ?_ (by simp[ak])⟩
     simp only[execOp,ho]
     refine b9 ?_
     obtain⟨_,hh⟩:=(KT (X:=X) (μ:=μ) μ.w 100).1 t ks p q _ _ b 10000 hk (by omega) YF YG hb
     rcases hh with⟨_,hh⟩ | ⟨hh,_⟩
     · have heq: (Op.equal t (.agg xs) (.agg ys)).run X.P μ.w= .ok b μ.w:=by simpa [Op.equal,Op.maxDepth] using hh
       have yN: (eqGuard op t x y (.agg xs) (.agg ys)).run X.P μ.w= .ok () μ.w:=run_eqGuard_agg μ.w op t x y xs ys hg
       rw[zx,KW]
       rcases du with rfl| rfl
       · subst hn
         simp only[Sem.run_bind,yN,Result.andThen_ok,Go.binOp,heq,fF];simp
       · subst hn
         simp only[Sem.run_bind,yN,Result.andThen_ok,Go.binOp,heq,fF];simp
     · rw[Bb] at hh;cases hh
   · exact absurd ah an
 · exact absurd ah an
theorem sU {t k:Nat}: ∀ {ks:List (Nat×Nat)},nZ t ks=some k→(t,k) ∈ ks
 | [],h=>by simp[nZ] at h
 | (t',k')::ks,h=>by
   simp only[nZ] at h
   cases hb:Nat.beq t' t with
   | true=>
     have:=Nat.eq_of_beq_eq_true hb
     rw[hb] at h
     simp at h;subst h;subst this;simp
   | false=>
     rw[hb] at h
     exact List.mem_cons_of_mem _ (sU h)
theorem wX {X:TrEnv} {t k:Nat} (h: (t,k) ∈ rY X): ∃T i D,X.iv T=some t∧X.P.info? T=some i∧i.comparable=true∧bg X T=some D∧
   ((k=0∧D= .bool)∨(k=1∧ ∃q,D= .int q)∨(k=2∧D= .string)):=by
 simp only[rY,List.mem_filterMap] at h
 obtain⟨T,_,h⟩:=h
 split at h
 · rename_i h1 h2 h3
   simp only[Option.map_eq_some_iff] at h2
   obtain⟨i,hi,hc⟩:=h2
   simp at h;obtain⟨rfl,rfl⟩:=h
   exact⟨T,i,_,h1,hi,hc,h3,.inl ⟨rfl,rfl⟩⟩
 · rename_i h1 h2 h3
   simp only[Option.map_eq_some_iff] at h2
   obtain⟨i,hi,hc⟩:=h2
   simp at h;obtain⟨rfl,rfl⟩:=h
   exact⟨T,i,_,h1,hi,hc,h3,.inr (.inl ⟨rfl,_,rfl⟩)⟩
 · rename_i h1 h2 h3
   simp only[Option.map_eq_some_iff] at h2
   obtain⟨i,hi,hc⟩:=h2
   simp at h;obtain⟨rfl,rfl⟩:=h
   exact⟨T,i,_,h1,hi,hc,h3,.inr (.inr ⟨rfl,rfl⟩)⟩
 · simp at h
theorem pt {P:Program} {w:World} (d:Nat) {ti tp:TypeId} {ms:Array (String×TypeId)} {i:TypeInfo} {u v:Value} {b:Bool} (hi:P.underlying ti=some (.interface ms)) (Qy:P.info? tp=some i) (Qz:i.comparable=true)
  (h: (Op.equalIn d tp u v).run P w= .ok b w): (Op.equalIn (d+1) ti (.iface tp u) (.iface tp v)).run P w= .ok b w:=by
 simp[Op.equalIn,run_underlying hi,typeInfo,Qy,Qz,h]
theorem sV {P:Program} {w:World} (d:Nat) {ti tp:TypeId} {ms:Array (String×TypeId)} {u:Value} (hi:P.underlying ti=some (.interface ms)):
  (Op.equalIn (d+1) ti .nilIface (.iface tp u)).run P w= .ok false w:=by
 simp[Op.equalIn,run_underlying hi]
theorem sW {P:Program} {w:World} (d:Nat) {ti tp:TypeId} {ms:Array (String×TypeId)} {u:Value} (hi:P.underlying ti=some (.interface ms)):
  (Op.equalIn (d+1) ti (.iface tp u) .nilIface).run P w= .ok false w:=by
 simp[Op.equalIn,run_underlying hi]
theorem KX {op:BinOp} {t t2:TypeId} {x y:Operand} {x' y':aP} (hr:Rel X T a μ) (ho:o.op= .binOp op t x y t2) (du:op= .eql∨op= .neq) (hd: ∃ms,bg X t=some (.interface ms))
   (lI: ∀t1 t2 k,X.iv t1=some k→X.iv t2=some k→t1=t2)
   (h1:cK X x=some x') (h2:cK X y=some y') {neg:Bool} (hn:neg=fF op)
   (ah: (ar E (.L4 neg (rY X) x' y')).run C ⟨T,μ.O⟩=some (v,σ')):σ'.T=T∧cF X o a μ σ'.O v:=by
 simp only[ar,bo] at ah
 have hx:=aO hr h1 μ.O
 have hy:=aO hr h2 μ.O
 obtain⟨ms,hd⟩:=hd
 have fin: ∀b,(Op.equal t (a.eval x) (a.eval y)).run X.P μ.w= .ok b μ.w→(eqGuard op t x y (a.eval x) (a.eval y)).run X.P μ.w= .ok () μ.w→
     (∀k1 k2 m1 m2,¬ (a.eval x= .int k1 m1∧a.eval y= .int k2 m2))→
     (Go.binOp op t (a.eval x) (a.eval y)).run X.P μ.w= .ok (.bool (b !=neg)) μ.w→cF X o a μ μ.O (.bool (b !=neg)):=fun b heq yN _ hb=>by
   refine aG (val:= .bool (b !=neg)) hr.aX ?_ (by simp[ak])
   simp only[execOp,ho]
   refine b9 ?_
   simp only[Sem.run_bind,yN,Result.andThen_ok,hb]
 split at ah
 · rename_i s p s' q e1 e2
   rw[e1] at hx;rw[e2] at hy
   simp only[ak] at hx hy
   obtain⟨T1,u1,hx,Fm,hp⟩:=hx
   obtain⟨T2,u2,hy,Qd,hq⟩:=hy
   split at ah
   · rename_i VU
     subst VU
     split at ah
     · rename_i k hk
       split at ah
       · rename_i b hb
         obtain⟨rfl,rfl⟩:=aS ah
         obtain⟨T0,i,D,k1,k2,k3,k4,k5⟩:=wX (sU hk)
         obtain rfl:=lI T1 T0 _ Fm k1
         obtain rfl:=lI T2 T1 _ Qd k1
         have heq: (Op.equal t (.iface T2 u1) (.iface T2 u2)).run X.P μ.w= .ok b μ.w:=
           pt 9999 hd k2 k3 (zX (m:=9998) k4 k5 hp hq hb μ.w)
         refine⟨rfl,fin b (by rw[hx,hy];exact heq) (by rw[hx,hy];rcases du with rfl| rfl<;>simp[eqGuard]) (by simp[hx]) ?_⟩
         rw[hx,hy]
         rcases du with rfl| rfl
         · subst hn
           simp[Go.binOp,Sem.run_bind,heq,fF]
         · subst hn
           simp[Go.binOp,Sem.run_bind,heq,fF]
       · exact absurd ah an
     · exact absurd ah an
   · exact absurd ah an
 · rename_i s p e1 e2
   rw[e1] at hx;rw[e2] at hy
   simp only[ak] at hx hy
   obtain⟨T2,u2,hy,Qd,hq⟩:=hy
   obtain⟨rfl,rfl⟩:=aS ah
   have heq: (Op.equal t .nilIface (.iface T2 u2)).run X.P μ.w= .ok false μ.w:=sV 9999 hd
   refine⟨rfl,?_⟩
   have:=fin false (by rw[hx,hy];exact heq) (by rw[hx,hy];rcases du with rfl| rfl<;>simp[eqGuard]) (by simp[hx]) (by
     rw[hx,hy]
     rcases du with rfl| rfl
     · subst hn
       simp[Go.binOp,Sem.run_bind,heq,fF]
     · subst hn
       simp[Go.binOp,Sem.run_bind,heq,fF])
   simpa using this
 · rename_i s p e1 e2
   rw[e1] at hx;rw[e2] at hy
   simp only[ak] at hx hy
   obtain⟨T2,u2,hx,Qd,hq⟩:=hx
   obtain⟨rfl,rfl⟩:=aS ah
   have heq: (Op.equal t (.iface T2 u2) .nilIface).run X.P μ.w= .ok false μ.w:=sW 9999 hd
   refine⟨rfl,?_⟩
   have:=fin false (by rw[hx,hy];exact heq) (by rw[hx,hy];rcases du with rfl| rfl<;>simp[eqGuard]) (by simp[hx]) (by
     rw[hx,hy]
     rcases du with rfl| rfl
     · subst hn
       simp[Go.binOp,Sem.run_bind,heq,fF]
     · subst hn
       simp[Go.binOp,Sem.run_bind,heq,fF])
   simpa using this
 · exact absurd ah an
theorem ji {P:Program} {w:World} (d:Nat) {t e:TypeId} (q:Option Addr) (hi:P.underlying t=some (.pointer e)):
  (Op.equalIn (d+1) t (.pointer none) (.pointer q)).run P w= .ok q.isNone w:=by
 simp[Op.equalIn,run_underlying hi]
theorem mi {P:Program} {w:World} (d:Nat) {t e:TypeId} (p:Addr) (hi:P.underlying t=some (.pointer e)):
  (Op.equalIn (d+1) t (.pointer (some p)) (.pointer none)).run P w= .ok false w:=by
 simp[Op.equalIn,run_underlying hi]
theorem sX {P:Program} {w:World} (d:Nat) {t e:TypeId} {inf:TypeInfo} {n:Nat} {b o o':Nat} (hi:P.underlying t=some (.pointer e)) (rF:P.info? e=some inf) (VV:P.cellsOf e=n+1):
  (Op.equalIn (d+1) t (.pointer (some ⟨b,o,none⟩)) (.pointer (some ⟨b,o',none⟩))).run P w= .ok (o==o') w:=by
 have hq: ((⟨b,o,none⟩:Addr)==⟨b,o',none⟩)=(o==o'):=by
  rw[Bool.eq_iff_iff]
  simp only[beq_iff_eq,Addr.mk.injEq,true_and,and_true]
 simp[Op.equalIn,run_underlying hi,Sem.run_bind,run_sizeOf (w:=w) rF,VV,sameAddr,hq]
theorem KY {op:BinOp} {t e t2:TypeId} {n:Nat} {x y:Operand} {x' y':aP} (hr:Rel X T a μ) (ho:o.op= .binOp op t x y t2) (du:op= .eql∨op= .neq) (hd:bg X t=some (.pointer e)) (cE:bz X e=some (n+1))
  (h1:cK X x=some x') (h2:cK X y=some y') {neg:Bool} (hn:neg=fF op)
  (ah: (ar E (.Hi neg x' y')).run C ⟨T,μ.O⟩=some (v,σ')):σ'.T=T∧cF X o a μ σ'.O v:=by
 simp only[ar,bo] at ah
 have hx:=aO hr h1 μ.O
 have hy:=aO hr h2 μ.O
 obtain⟨hb,rfl⟩:=dq ah
 rw[Option.map_eq_some_iff] at hb
 obtain⟨b,hb,rfl⟩:=hb
 have lr:X.P.underlying t=some (.pointer e):=hd
 obtain⟨inf,rF,yJ⟩: ∃inf,X.P.info? e=some inf∧inf.size=n+1:=by simpa [bz,info] using cE
 have VV:X.P.cellsOf e=n+1:=by simp[Program.cellsOf,rF,yJ]
 have key: ∃p q,a.eval x= .pointer p∧a.eval y= .pointer q∧(Op.equal t (.pointer p) (.pointer q)).run X.P μ.w= .ok b μ.w:=by
  unfold zz at hb
  split at hb
  · rename_i e1 e2
    rw[e1] at hx;rw[e2] at hy
    simp only[ak] at hx hy
    simp only[Option.some.injEq] at hb;subst hb
    exact⟨_,_,hx,hy,ji 9999 none lr⟩
  · rename_i e1 e2
    rw[e1] at hx;rw[e2] at hy
    simp only[ak] at hx hy
    simp only[Option.some.injEq] at hb;subst hb
    obtain⟨_,_,_,_,_,_,hy,_⟩:=hy
    exact⟨_,_,hx,hy,ji 9999 _ lr⟩
  · rename_i e1 e2
    rw[e1] at hx;rw[e2] at hy
    simp only[ak] at hx hy
    simp only[Option.some.injEq] at hb;subst hb
    obtain⟨_,_,_,hy,_⟩:=hy
    exact⟨_,_,hx,hy,ji 9999 _ lr⟩
  · rename_i e1 e2
    rw[e1] at hx;rw[e2] at hy
    simp only[ak] at hx hy
    simp only[Option.some.injEq] at hb;subst hb
    obtain⟨_,_,_,_,_,_,hx,_⟩:=hx
    exact⟨_,_,hx,hy,mi 9999 _ lr⟩
  · rename_i e1 e2
    rw[e1] at hx;rw[e2] at hy
    simp only[ak] at hx hy
    simp only[Option.some.injEq] at hb;subst hb
    obtain⟨_,_,_,hx,_⟩:=hx
    exact⟨_,_,hx,hy,mi 9999 _ lr⟩
  · rename_i i z e0 i' z' e0' e1 e2
    rw[e1] at hx;rw[e2] at hy
    simp only[ak] at hx hy
    split at hb<;>simp only[Option.some.injEq,reduceCtorEq] at hb
    rename_i hz
    obtain⟨rfl,GL⟩:=hz
    subst hb
    obtain⟨_,_,_,hx,_⟩:=hx
    obtain⟨_,_,_,hy,_⟩:=hy
    refine⟨_,_,hx,hy,?_⟩
    have hq: (X.tok.2+i*z+0==X.tok.2+i'*z+0)=(i==i'):=by
     rw[Bool.eq_iff_iff]
     simp only[beq_iff_eq]
     constructor
     · intro h
       have:i*z=i'*z:=by omega
       exact Nat.eq_of_mul_eq_mul_right GL this
     · rintro rfl;rfl
    exact(sX 9999 lr rF VV).trans (by rw[hq])
  · simp at hb
 obtain⟨p,q,hp,hq,heq⟩:=key
 refine⟨rfl,aG (val:= .bool (b !=neg)) hr.aX ?_ (by simp[ak])⟩
 simp only[execOp,ho,hp,hq]
 refine b9 ?_
 subst hn
 rcases du with rfl| rfl<;>simp[eqGuard,Go.binOp,Sem.run_bind,heq,fF]
theorem QA {op:UnOp} {t:TypeId} {x:Operand} {x':aP} (hr:Rel X T a μ) (ho:o.op= .unOp op t x) (h1:cK X x=some x')
  (ah: (ar E (.un op x')).run C ⟨T,μ.O⟩=some (v,σ')):σ'.T=T∧cF X o a μ σ'.O v:=by
 simp only[ar,bo] at ah
 obtain⟨hb,rfl⟩:=dq ah
 have hx:=aO hr h1 μ.O
 have: ∃val,(Op.unary op (a.eval x)).run X.P μ.w= .ok val μ.w∧ak X μ v val:=by
  unfold yk at hb
  split at hb
  · rename_i k n e
    simp at hb;subst hb
    rw[e] at hx;simp only[ak] at hx
    exact⟨.int k (k.wrap (0 - n)),by simp[hx,Op.unary,Op.intArith],by simp[ak]⟩
  · rename_i b e
    simp at hb;subst hb
    rw[e] at hx;simp only[ak] at hx
    exact⟨.bool (!b),by simp[hx,Op.unary],by simp[ak]⟩
  · rename_i k n e
    simp only[jE,Option.some.injEq] at hb;subst hb
    rw[e] at hx;simp only[ak] at hx
    exact⟨_,by simp[hx,Op.unary,Op.intBits];rfl,by simp[ak]⟩
  · simp at hb
 obtain⟨val,h2,h3⟩:=this
 refine⟨rfl,aG hr.aX ?_ h3⟩
 simp only[execOp,ho]
 exact b9 h2
theorem yO {s d:TypeId} {x:Operand} {x':aP} {k k0:IntKind} (hr:Rel X T a μ) (ho:o.op= .convert s d x) (hs:bg X s=some (.int k0)) (hd:bg X d=some (.int k))
   (h1:cK X x=some x') (ah: (ar E (.iF k x')).run C ⟨T,μ.O⟩=some (v,σ')):σ'.T=T∧cF X o a μ σ'.O v:=by
 simp only[ar,bo] at ah
 have hx:=aO hr h1 μ.O
 split at ah
 · rename_i k1 n1 e
   obtain⟨rfl,rfl⟩:=aS ah
   rw[e] at hx;simp only[ak] at hx
   refine⟨rfl,aG (val:= .int k (k.wrap n1)) hr.aX ?_ (by simp[ak])⟩
   simp only[execOp,ho]
   refine b9 ?_
   simp[convert,Sem.run_bind,run_underlying hs,run_underlying hd,hx,Conv.intToInt]
 · exact absurd ah an
theorem Bc {s d:TypeId} {x:Operand} {x':aP} {k0:IntKind} (hr:Rel X T a μ) (ho:o.op= .convert s d x) (hs:bg X s=some (.int k0)) (hd:bg X d=some (.float .f64))
   (h1:cK X x=some x') (ah: (ar E (.qe x')).run C ⟨T,μ.O⟩=some (v,σ')):σ'.T=T∧cF X o a μ σ'.O v:=by
 simp only[ar,bo] at ah
 have hx:=aO hr h1 μ.O
 split at ah
 · rename_i k1 n1 e
   obtain⟨rfl,rfl⟩:=aS ah
   rw[e] at hx;simp only[ak] at hx
   refine⟨rfl,aG (val:= .float .f64 (FloatKind.f64.nearest n1)) hr.aX ?_ (by simp[ak])⟩
   simp only[execOp,ho]
   refine b9 ?_
   simp[convert,Sem.run_bind,run_underlying hs,run_underlying hd,hx,Conv.intToFloat]
 · exact absurd ah an
theorem Bd {s d:TypeId} {x:Operand} {x':aP} {k:IntKind} (hr:Rel X T a μ) (ho:o.op= .convert s d x) (hs:bg X s=some (.float .f64)) (hd:bg X d=some (.int k))
   (h1:cK X x=some x') (ah: (ar E (.qf k x')).run C ⟨T,μ.O⟩=some (v,σ')):σ'.T=T∧cF X o a μ σ'.O v:=by
 simp only[ar,bo] at ah
 have hx:=aO hr h1 μ.O
 split at ah
 · rename_i b e
   split at ah
   · rename_i n hn
     split at ah
     · rename_i hle
       obtain⟨rfl,rfl⟩:=aS ah
       rw[e] at hx;simp only[ak] at hx
       refine⟨rfl,aG (val:= .int k n) hr.aX ?_ (by simp[ak])⟩
       simp only[execOp,ho]
       refine b9 ?_
       simp[convert,Sem.run_bind,run_underlying hs,run_underlying hd,hx,Conv.floatToInt,hn,hle]
     · exact absurd ah an
   · exact absurd ah an
 · exact absurd ah an
theorem yP {s d:TypeId} {x:Operand} {x':aP} (hr:Rel X T a μ) (ho:o.op= .convert s d x) (hs:bg X s=some .string) (hd:bg X d=some .string)
   (h1:cK X x=some x') (ah: (ar E (.oV x')).run C ⟨T,μ.O⟩=some (v,σ')):σ'.T=T∧cF X o a μ σ'.O v:=by
 simp only[ar,bo] at ah
 have hx:=aO hr h1 μ.O
 split at ah
 · rename_i b e
   obtain⟨rfl,rfl⟩:=aS ah
   rw[e] at hx;simp only[ak] at hx
   obtain⟨bs,yQ,rfl⟩:=hx
   refine⟨rfl,aG (val:= .string bs) hr.aX ?_ (by simp[ak])⟩
   simp only[execOp,ho]
   refine b9 ?_
   simp[convert,Sem.run_bind,run_underlying hs,run_underlying hd,yQ]
 · exact absurd ah an
theorem dY {c:Call} {b:Builtin} {val:Value} {w w':World} (ho:o.op= .call c) (hc:c.callee= .builtin b)
  (h: (builtin b c.argTypes o.type (c.args.map fun| .const _=>true| _=>false) (c.args.map a.eval)).run X.P w= .ok (.value val) w'):
  (execOp a.eval o).run X.P w= .ok (.value val) w':=by
 simp only[execOp,ho,resolve,hc,Sem.run_bind,Sem.run_pure,Result.andThen_ok,invoke]
 exact h
theorem KZ {c:Call} {x:Operand} {t e:TypeId} {x':aP} (hr:Rel X T a μ) (ho:o.op= .call c) (hc:c.callee= .builtin .len) (ha:c.args= #[x]) (ht:c.argTypes= #[t])
  (hd:bg X t=some (.slice e)) (h1:cK X x=some x') (ah: (ar E (.len x')).run C ⟨T,μ.O⟩=some (v,σ')):
  σ'.T=T∧cF X o a μ σ'.O v:=by
 simp only[ar,bo] at ah
 obtain⟨hb,rfl⟩:=dq ah
 have hx:=aO hr h1 μ.O
 have key: ∃n:Nat,(Builtin.len_ #[t] o.type #[a.eval x]).run X.P μ.w= .ok (goInt n) μ.w∧v= .int .i64 n:=by
  cases hy:bc ⟨T,μ.O⟩ x'<;>rw[hy] at hb hx<;>simp[nj] at hb
  · simp only[ak] at hx
    obtain⟨p,hp⟩:=hx
    exact⟨0,by simp[Builtin.len_,Sem.run_bind,run_underlying hd,hp],hb.symm⟩
  · simp only[ak] at hx
    obtain⟨_,_,p,cap,vs,hp,_⟩:=hx
    exact⟨_,by simp[Builtin.len_,Sem.run_bind,run_underlying hd,hp],hb.symm⟩
  · simp only[ak] at hx
    obtain⟨p,cap,hp,_⟩:=hx
    exact⟨_,by simp[Builtin.len_,Sem.run_bind,run_underlying hd,hp],hb.symm⟩
  · simp only[ak] at hx
    obtain⟨_,_,p,cap,vs,hp,_⟩:=hx
    exact⟨_,by simp[Builtin.len_,Sem.run_bind,run_underlying hd,hp],hb.symm⟩
 obtain⟨n,h2,rfl⟩:=key
 refine⟨rfl,aG (val:=goInt n) hr.aX ?_ (by simp[ak,goInt])⟩
 refine dY ho hc ?_
 simp only[builtin,ha,ht]
 refine b9 ?_
 simpa using h2
theorem Be {c:Call} {x:Operand} {t:TypeId} {x':aP} (hr:Rel X T a μ) (ho:o.op= .call c) (hc:c.callee= .builtin .len) (ha:c.args= #[x]) (ht:c.argTypes= #[t])
   (hd:bg X t=some .string) (h1:cK X x=some x') (ah: (ar E (.dN x')).run C ⟨T,μ.O⟩=some (v,σ')):
   σ'.T=T∧cF X o a μ σ'.O v:=by
 simp only[ar,bo] at ah
 have hx:=aO hr h1 μ.O
 split at ah
 · rename_i s e
   obtain⟨rfl,rfl⟩:=aS ah
   rw[e] at hx;simp only[ak] at hx
   obtain⟨bs,yQ,rfl⟩:=hx
   refine⟨rfl,aG (val:=goInt bs.size) hr.aX ?_ (by simp only[ak,goInt];rw[Array.length_toList];rfl)⟩
   refine dY ho hc ?_
   simp only[builtin,ha,ht]
   refine b9 ?_
   simp[Builtin.len_,Sem.run_bind,run_underlying hd,yQ]
 · exact absurd ah an
theorem Bf {c:Call} {x:Operand} {t e:TypeId} {n:Nat} (hr:Rel X T a μ) (ho:o.op= .call c) (hc:c.callee= .builtin .len) (ha:c.args= #[x]) (ht:c.argTypes= #[t])
  (hd:bg X t=some (.array n e)) (ah: (ar E (.move (.const (.int .i64 n)))).run C ⟨T,μ.O⟩=some (v,σ')):
  σ'.T=T∧cF X o a μ σ'.O v:=by
 simp only[ar,bo,bc] at ah
 obtain⟨rfl,rfl⟩:=aS ah
 refine⟨rfl,aG (val:=goInt n) hr.aX ?_ (by simp[ak,goInt])⟩
 refine dY ho hc ?_
 simp only[builtin,ha,ht]
 refine b9 ?_
 simp[Builtin.len_,Sem.run_bind,run_underlying hd]
theorem uJ {w:World}: ∀ {xs:List V} {x:V} {u:V} {xv:Value} {vs:List Value},ak X μ x xv→aj X μ xs vs→gm min2 (x::xs)=some u→
   ∃val,(vs.foldlM Builtin.min2 xv).run X.P w= .ok val w∧ak X μ u val
 | [],x,u,xv,[],hx,_,h=>by simp[gm,fL] at h;subst h;exact⟨xv,by simp,hx⟩
 | [],_,_,_,_::_,_,hv,_=>by simp[aj] at hv
 | _::_,_,_,_,[],_,hv,_=>by simp[aj] at hv
 | y::ys,x,u,xv,yv::vs,hx,hv,h=>by
   simp only[aj] at hv
   simp only[gm,fL] at h
   split at h
   · rename_i z hz
     have: ∃zv,(Builtin.min2 xv yv).run X.P w= .ok zv w∧ak X μ z zv:=by
      unfold min2 at hz
      split at hz
      · split at hz<;>simp at hz
        rename_i hk;subst hk;subst hz
        have h1:=hv.1
        simp only[ak] at hx h1
        subst hx;subst h1
        exact⟨_,by simp[Builtin.min2];rfl,by simp[ak]⟩
      · simp at hz
     obtain⟨zv,h1,h2⟩:=this
     obtain⟨val,h3,h4⟩:=uJ (w:=w) h2 hv.2 h
     exact⟨val,by simp[List.foldlM_cons,Sem.run_bind,h1,h3],h4⟩
   · simp at h
theorem uK {w:World}: ∀ {xs:List V} {x:V} {u:V} {xv:Value} {vs:List Value},ak X μ x xv→aj X μ xs vs→gm max2 (x::xs)=some u→
   ∃val,(vs.foldlM Builtin.max2 xv).run X.P w= .ok val w∧ak X μ u val
 | [],x,u,xv,[],hx,_,h=>by simp[gm,fL] at h;subst h;exact⟨xv,by simp,hx⟩
 | [],_,_,_,_::_,_,hv,_=>by simp[aj] at hv
 | _::_,_,_,_,[],_,hv,_=>by simp[aj] at hv
 | y::ys,x,u,xv,yv::vs,hx,hv,h=>by
   simp only[aj] at hv
   simp only[gm,fL] at h
   split at h
   · rename_i z hz
     have: ∃zv,(Builtin.max2 xv yv).run X.P w= .ok zv w∧ak X μ z zv:=by
      unfold max2 at hz
      split at hz
      · split at hz<;>simp at hz
        rename_i hk;subst hk;subst hz
        have h1:=hv.1
        simp only[ak] at hx h1
        subst hx;subst h1
        exact⟨_,by simp[Builtin.max2];rfl,by simp[ak]⟩
      · simp at hz
     obtain⟨zv,h1,h2⟩:=this
     obtain⟨val,h3,h4⟩:=uK (w:=w) h2 hv.2 h
     exact⟨val,by simp[List.foldlM_cons,Sem.run_bind,h1,h3],h4⟩
   · simp at h
theorem K0 {c:Call} {xs:List aP} (hr:Rel X T a μ) (ho:o.op= .call c) (hc:c.callee= .builtin .min) (h1:pd X c.args.toList=some xs)
   (ah: (ar E (.min xs)).run C ⟨T,μ.O⟩=some (v,σ')):σ'.T=T∧cF X o a μ σ'.O v:=by
 simp only[ar,po] at ah
 obtain⟨hb,rfl⟩:=dq ah
 have hx:=pq hr μ.O h1
 generalize hq:xs.map (bc ⟨T,μ.O⟩)=us at hb hx
 generalize hp:c.args.toList.map a.eval=vs at hx
 match us,vs,hx,hb with
 | [],_,_,hb=>simp[gm,fL] at hb
 | u::us,[],hx,_=>simp[aj] at hx
 | u::us,y::vs,hx,hb=>
   simp only[aj] at hx
   obtain⟨val,h2,h3⟩:=uJ (w:=μ.w) hx.1 hx.2 hb
   refine⟨rfl,aG (val:=val) hr.aX (dY ho hc ?_) h3⟩
   simp only[builtin]
   refine b9 ?_
   simp only[Builtin.min_,Array.toList_map,hp]
   exact h2
theorem K1 {c:Call} {xs:List aP} (hr:Rel X T a μ) (ho:o.op= .call c) (hc:c.callee= .builtin .max) (h1:pd X c.args.toList=some xs)
   (ah: (ar E (.max xs)).run C ⟨T,μ.O⟩=some (v,σ')):σ'.T=T∧cF X o a μ σ'.O v:=by
 simp only[ar,po] at ah
 obtain⟨hb,rfl⟩:=dq ah
 have hx:=pq hr μ.O h1
 generalize hq:xs.map (bc ⟨T,μ.O⟩)=us at hb hx
 generalize hp:c.args.toList.map a.eval=vs at hx
 match us,vs,hx,hb with
 | [],_,_,hb=>simp[gm,fL] at hb
 | u::us,[],hx,_=>simp[aj] at hx
 | u::us,y::vs,hx,hb=>
   simp only[aj] at hx
   obtain⟨val,h2,h3⟩:=uK (w:=μ.w) hx.1 hx.2 hb
   refine⟨rfl,aG (val:=val) hr.aX (dY ho hc ?_) h3⟩
   simp only[builtin]
   refine b9 ?_
   simp only[Builtin.max_,Array.toList_map,hp]
   exact h2
end
end Go.AM
namespace Go.AM
open Go Go.RowKit
theorem eK (b q n:Nat): (⟨b,q,none⟩:Addr).add n=⟨b,q+n,none⟩:=by unfold Addr.add;split<;>simp_all
theorem mj: ∀ {xs:List V} {i:Nat} {x:V},V.aq xs=true→xs[i]? =some x→V.aC x=true
 | [],_,_,_,h=>by simp at h
 | y::ys,0,x,hp,h=>by simp[V.aq] at hp;simp at h;rw[←h];exact hp.1
 | y::ys,i+1,x,hp,h=>by simp[V.aq] at hp;simp at h;exact mj hp.2 h
theorem pw: ∀ {xs:List V} (n:Nat),V.aq xs=true→V.aq (xs.take n)=true
 | _,0,_=>by simp[V.aq]
 | [],n+1,_=>by simp[V.aq]
 | y::ys,n+1,h=>by simp[V.aq] at h ⊢;exact⟨h.1,pw n h.2⟩
theorem pz: ∀ {xs:List V} (n:Nat),V.aq xs=true→V.aq (xs.drop n)=true
 | _,0,h=>by simpa using h
 | [],n+1,_=>by simp[V.aq]
 | y::ys,n+1,h=>by simp[V.aq] at h;simpa using pz n h.2
theorem iO {p:V→Bool} {xs:List V} (n:Nat) (h:xs.all p=true): (xs.take n).all p=true:=by
 simp only[List.all_eq_true] at h ⊢
 exact fun x hx=>h x (List.mem_of_mem_take hx)
theorem j7 {p:V→Bool} {xs:List V} (n:Nat) (h:xs.all p=true): (xs.drop n).all p=true:=by
 simp only[List.all_eq_true] at h ⊢
 exact fun x hx=>h x (List.mem_of_mem_drop hx)
theorem dz.drop {w:World} {b off sz:Nat} {vs:List Value} (h:dz w b off sz vs) (n:Nat):dz w b (off+n*sz) sz (vs.drop n):=by
 intro i v hv
 simp only[List.getElem?_drop] at hv
 obtain⟨h1,h2⟩:=h (n+i) v hv
 refine⟨h1,fun j c hc=> ?_⟩
 rw[←h2 j c hc]
 congr 2
 rw[Nat.add_mul];omega
theorem dz.take {w:World} {b off sz:Nat} {vs:List Value} (h:dz w b off sz vs) (n:Nat):dz w b off sz (vs.take n):=by
 intro i v hv
 rw[List.getElem?_take] at hv
 split at hv
 · exact h i v hv
 · simp at hv
section
variable {X:Ctx} {E:Env} {C:bb} {o:Oper} {a:Go.Act} {T:Nat→V} {μ:Mu} {v:V} {σ':St}
theorem na {t:TypeId} {e u:V} {x:Value} {off sz:Nat} {agg:Bool} {w:World} {b q:Nat} (hx:ak X μ e x) (hp:part agg off sz e=some u)
   (hg:fU X t=some agg) (hn:bz X t=some sz) (hm: ∀j c,x.cells[j]? =some c→w.cell? ⟨b,q+j,none⟩=some c):
   ∃val,(loadVar t ⟨b,q+off,none⟩).run X.P w= .ok val w∧ak X μ u val:=by
 cases agg with
 | true=>
   obtain⟨cs,rfl,hle,hv⟩:=kP hx hp
   refine⟨_,?_,hv⟩
   have hl: (cs.extract off (off+sz)).toList.length=sz:=by simp;omega
   have:=run_loadCells_list (P:=X.P) w ⟨b,q+off,none⟩ (cs.extract off (off+sz)).toList (fun j c hc=>by
    rw[eK]
    have xY:cs[off+j]? =some c:=by
     rw[Array.toList_extract,List.extract_eq_take_drop,List.getElem?_take] at hc
     split at hc
     · simpa using hc
     · simp at hc
    have:=hm (off+j) c (by simpa [Value.cells] using xY)
    rwa [←Nat.add_assoc] at this)
   rw[hl,Array.toArray_toList] at this
   simp[loadVar,Sem.run_bind,m9 hg,cU hn,this]
 | false=>
   obtain⟨_,c,hc,hv⟩:=jU hx hp
   refine⟨c,?_,hv⟩
   have:=hm off c hc
   simp[loadVar,Sem.run_bind,m9 hg,this]
theorem wY (ho:bj X μ) {r idx:Nat} {es:List V} {e:V} (bJ: (μ.O r).es=some es) (he:es[idx]? =some e) (h0:0 < (μ.O r).sz):
   ∃x,ak X μ e x∧(μ.φ r).cap≠0∧ ∀j c,x.cells[j]? =some c→μ.w.cell? ⟨(μ.φ r).cD,(μ.φ r).base+idx*(μ.O r).sz+j,none⟩=some c:=by
 obtain⟨_,h2,_,h4⟩:=ho.row r es bJ h0
 have bA:idx<es.length:=(List.getElem?_eq_some_iff.1 he).1
 have hc: (μ.φ r).cap≠0:=by omega
 rcases h4 with h4| ⟨c,T',vs,_,_,hv,dI⟩
 · exact absurd h4 hc
 · obtain⟨x,hx,hr⟩:=hv.get he
   exact⟨x,hr,hc,(dI idx x hx).2⟩
theorem zZ {t:TypeId} {x:Operand} {x':aP} {agg:Bool} {sz:Nat} (hr:Rel X T a μ) (ho:o.op= .load t x) (h1:cK X x=some x') (hg:fU X t=some agg) (hn:bz X t=some sz)
   (ah: (ar E (.load agg sz x')).run C ⟨T,μ.O⟩=some (v,σ')):σ'.T=T∧cF X o a μ σ'.O v:=by
 simp only[ar,bo] at ah
 have hx:=aO hr h1 μ.O
 have fin: ∀ (p:Addr),a.eval x= .pointer (some p)→ ∀val,(loadVar t p).run X.P μ.w= .ok val μ.w→(execOp a.eval o).run X.P μ.w= .ok (.value val) μ.w:=fun p hp val hv=>by
   simp only[execOp,ho]
   refine b9 ?_
   simp[Instr.loadAt,Instr.sureAddr,Sem.run_bind,hp,hv]
 split at ah
 · rename_i r g idx off e
   simp only[Act.run] at ah
   split at ah
   · rename_i es bJ
     split at ah
     · rename_i cm
       split at ah
       · rename_i el qO
         obtain⟨hp,rfl⟩:=dq ah
         rw[e] at hx
         simp only[ak] at hx
         obtain⟨p,GM,_,cB⟩:=hx
         obtain⟨xv,qZ,_,jk⟩:=wY hr.aX bJ qO (cB cm).1
         obtain⟨val,hl,bQ⟩:=na qZ hp hg hn jk
         refine⟨rfl,aG hr.aX (fin p GM val ?_) bQ⟩
         rw[(cB cm).2];exact hl
       · exact absurd ah an
     · exact absurd ah an
   · exact absurd ah an
 · rename_i el off e
   obtain⟨hp,rfl⟩:=dq ah
   rw[e] at hx
   simp only[ak] at hx
   obtain⟨_,_,b,q,sz',xv,GM,_,_,qZ,dI⟩:=hx
   obtain⟨val,hl,bQ⟩:=na (w:=μ.w) (b:=b) (q:=q) qZ hp hg hn (fun j c hc=>by simpa using (dI 0 xv (by simp)).2 j c hc)
   exact⟨rfl,aG hr.aX (fin _ GM val hl) bQ⟩
 · rename_i i z el off e
   obtain⟨hp,rfl⟩:=dq ah
   rw[e] at hx
   simp only[ak] at hx
   obtain⟨_,_,xv,GM,_,_,qZ,dI⟩:=hx
   obtain⟨val,hl,bQ⟩:=na (w:=μ.w) (b:=X.tok.1) (q:=X.tok.2+i*z) qZ hp hg hn (fun j c hc=>by simpa using (dI 0 xv (by simp)).2 j c hc)
   exact⟨rfl,aG hr.aX (fin _ GM val hl) bQ⟩
 · exact absurd ah an
theorem Bg {ks:List Nat} {agg:Bool} {sz:Nat} {x:aP} {σ:St} (h: (ar E (.qJ ks agg sz x)).run C σ=some (v,σ')): ∃v0,(ar E (.load agg sz x)).run C σ=some (v0,σ')∧v=AM.ya ks v0:=by
 simp only[ar,bo] at h ⊢
 have fin: ∀ (p:Option V),(cM (p.map (AM.ya ks))).run C σ=some (v,σ')→ ∃v0,(cM p).run C σ=some (v0,σ')∧v=AM.ya ks v0:=by
   intro p hp
   cases p with
   | none=>exact absurd hp an
   | some v0=>
     obtain⟨h1,h2⟩:=dq hp
     simp only[Option.map_some,Option.some.injEq] at h1
     exact⟨v0,by simp only[cM,Act.run,h2],h1.symm⟩
 split at h
 · rename_i r g idx off e
   simp only[Act.run] at h ⊢
   split at h
   · rename_i es bJ
     split at h
     · rename_i hg
       split at h
       · rename_i el qO
         rw[if_pos hg]
         exact fin _ h
       · exact absurd h an
     · exact absurd h an
   · exact absurd h an
 · exact fin _ h
 · exact fin _ h
 · exact absurd h an
theorem CV {t:TypeId} {x:Operand} {x':aP} {agg:Bool} {sz:Nat} (ks:List Nat) (hr:Rel X T a μ) (ho:o.op= .load t x) (h1:cK X x=some x') (hg:fU X t=some agg) (hn:bz X t=some sz)
  (ah: (ar E (.qJ ks agg sz x')).run C ⟨T,μ.O⟩=some (v,σ')):σ'.T=T∧cF X o a μ σ'.O v:=by
 obtain⟨v0,h2,rfl⟩:=Bg ah
 obtain⟨h3,val,w',φ',h4,h5,h6,h7⟩:=zZ hr ho h1 hg hn h2
 exact⟨h3,val,w',φ',h4,ak.ya ks h5,h6,h7⟩
theorem vM { t e:TypeId} {x i:Operand} {x' i':aP} {sz:Nat} (hr:Rel X T a μ) (ho:o.op= .indexAddr t x i) (hd:bg X t=some (.slice e)) (hn:bz X e=some sz)
   (h1:cK X x=some x') (h2:cK X i=some i') (ah: (ar E (.indexAddr sz x' i')).run C ⟨T,μ.O⟩=some (v,σ')):σ'.T=T∧cF X o a μ σ'.O v:=by
 simp only[ar,bo] at ah
 have hx:=aO hr h1 μ.O
 have hi:=aO hr h2 μ.O
 have fin: ∀ (p:Addr) (len cap:Nat) (k:IntKind) (n:Int),a.eval x= .slice (some p) len cap→a.eval i= .int k n→0≤n→n<len→
     (execOp a.eval o).run X.P μ.w= .ok (.value (.pointer (some (p.add (n.toNat*sz))))) μ.w:=fun p len cap k n hp hq L6 QB=>by
   simp only[execOp,ho]
   refine b9 ?_
   simp[Instr.indexAt,Sem.run_bind,hp,hq,asIntOf,run_underlying hd,L6,QB,cU hn]
 split at ah
 · rename_i r g off len k n e1 e2
   simp only[Act.run] at ah
   split at ah
   · rename_i hc
     obtain⟨rfl,rfl⟩:=aS ah
     rw[e1] at hx;rw[e2] at hi
     simp only[ak] at hx hi
     obtain⟨p,cap,hp,L7,pR,cB⟩:=hx
     obtain⟨q0,q1,q2⟩:=cB hc.2.2.2
     have dJ:cap≠0:=by omega
     have uL:=q2.resolve_left dJ
     rw[uL] at hp
     refine⟨rfl,aG hr.aX (fin _ len cap k n hp hi hc.1 hc.2.1) ?_⟩
     simp only[ak]
     refine⟨_,rfl,pR,fun _=> ⟨q0,?_⟩⟩
     rw[eK,hc.2.2.1]
     simp only[Addr.mk.injEq,true_and,and_true]
     rw[Nat.add_mul];omega
   · exact absurd ah an
 · rename_i sz' xs k n e1 e2
   split at ah
   · rename_i hc
     split at ah
     · rename_i el qO
       obtain⟨rfl,rfl⟩:=aS ah
       rw[e1] at hx;rw[e2] at hi
       simp only[ak] at hx hi
       obtain⟨lJ,gS,p,cap,vs,hp,L7,rZ,jk⟩:=hx
       have bA:n.toNat<xs.length:=(List.getElem?_eq_some_iff.1 qO).1
       rcases jk with jk| ⟨b,q,QC,kN,yQ,dI⟩
       · subst jk;simp at bA
       · rw[QC] at hp
         obtain⟨xv,qZ,bQ⟩:=rZ.get qO
         refine⟨rfl,aG hr.aX (fin _ xs.length cap k n hp hi hc.1 (by omega)) ?_⟩
         simp only[ak]
         refine⟨mj lJ qO,?_,b,q+n.toNat*sz,sz,xv,by rw[eK];simp,kN,yQ,bQ,?_⟩
         · simp only[List.all_eq_true] at gS
           exact gS el (List.mem_of_getElem? qO)
         · have:=(dI.drop n.toNat).take 1
           rw[hc.2] at this
           have Ba: (vs.drop n.toNat).take 1=[xv]:=by
            have zJ:n.toNat<vs.length:=(List.getElem?_eq_some_iff.1 qZ).1
            rw[List.drop_eq_getElem_cons zJ,List.take_succ_cons,List.take_zero]
            rw[List.getElem?_eq_getElem zJ] at qZ
            injection qZ with qZ;rw[qZ]
           rwa [Ba] at this
     · exact absurd ah an
   · exact absurd ah an
 · rename_i sz' xs k n e1 e2
   split at ah
   · rename_i hc
     split at ah
     · rename_i el qO
       obtain⟨rfl,rfl⟩:=aS ah
       rw[e1] at hx;rw[e2] at hi
       simp only[ak] at hx hi
       obtain⟨lJ,gS,p,cap,vs,hp,L7,rZ,jk⟩:=hx
       have bA:n.toNat<xs.length:=(List.getElem?_eq_some_iff.1 qO).1
       rcases jk with jk| ⟨QC,kN,yQ,dI⟩
       · subst jk;simp at bA
       · rw[QC] at hp
         obtain⟨xv,qZ,bQ⟩:=rZ.get qO
         refine⟨rfl,aG hr.aX (fin _ xs.length cap k n hp hi hc.1 (by omega)) ?_⟩
         simp only[ak]
         refine⟨mj lJ qO,?_,xv,by rw[eK];simp,kN,yQ,bQ,?_⟩
         · simp only[List.all_eq_true] at gS
           exact gS el (List.mem_of_getElem? qO)
         · have:=(dI.drop n.toNat).take 1
           rw[hc.2.1] at this
           have Ba: (vs.drop n.toNat).take 1=[xv]:=by
            have zJ:n.toNat<vs.length:=(List.getElem?_eq_some_iff.1 qZ).1
            rw[List.drop_eq_getElem_cons zJ,List.take_succ_cons,List.take_zero]
            rw[List.getElem?_eq_getElem zJ] at qZ
            injection qZ with qZ;rw[qZ]
           rwa [Ba] at this
     · exact absurd ah an
   · exact absurd ah an
 · exact absurd ah an
theorem wZ {t e:TypeId} {x i:Operand} {x' i':aP} {n sz:Nat} (hr:Rel X T a μ) (ho:o.op= .indexAddr t x i) (hd:bg X t=some (.array n e)) (hn:bz X e=some sz)
   (h1:cK X x=some x') (h2:cK X i=some i') (ah: (ar E (.aR n sz x' i')).run C ⟨T,μ.O⟩=some (v,σ')):σ'.T=T∧cF X o a μ σ'.O v:=by
 simp only[ar,bo] at ah
 have hx:=aO hr h1 μ.O
 have hi:=aO hr h2 μ.O
 have fin: ∀ (p:Addr) (k:IntKind) (j:Int),a.eval x= .pointer (some p)→a.eval i= .int k j→0≤j→j<n→
     (execOp a.eval o).run X.P μ.w= .ok (.value (.pointer (some (p.add (j.toNat*sz))))) μ.w:=fun p k j hp hq L6 QB=>by
   simp only[execOp,ho]
   refine b9 ?_
   simp[Instr.indexAt,Sem.run_bind,hp,hq,asIntOf,run_underlying hd,L6,QB,cU hn,Instr.sureAddr]
 split at ah
 · rename_i r g idx off k j e1 e2
   split at ah
   · rename_i hc
     obtain⟨rfl,rfl⟩:=aS ah
     rw[e1] at hx;rw[e2] at hi
     simp only[ak] at hx hi
     obtain⟨p,hp,pR,cB⟩:=hx
     refine⟨rfl,aG hr.aX (fin p k j hp hi hc.1 hc.2) ?_⟩
     simp only[ak]
     refine⟨_,rfl,pR,fun hg=> ⟨(cB hg).1,?_⟩⟩
     rw[(cB hg).2,eK];simp[Nat.add_assoc]
   · exact absurd ah an
 · rename_i el off k j e1 e2
   split at ah
   · rename_i hc
     obtain⟨rfl,rfl⟩:=aS ah
     rw[e1] at hx;rw[e2] at hi
     simp only[ak] at hx hi
     obtain⟨QD,yd,b,q,sz',xv,hp,wW⟩:=hx
     refine⟨rfl,aG hr.aX (fin _ k j hp hi hc.1 hc.2) ?_⟩
     simp only[ak]
     exact⟨QD,yd,b,q,sz',xv,by rw[eK];simp[Nat.add_assoc],wW⟩
   · exact absurd ah an
 · exact absurd ah an
theorem w4 {t:TypeId} {x i:Operand} {x' i':aP} (hr:Rel X T a μ) (ho:o.op= .index t x i) (hd:bg X t=some .string)
   (h1:cK X x=some x') (h2:cK X i=some i') (ah: (ar E (.cf x' i')).run C ⟨T,μ.O⟩=some (v,σ')):σ'.T=T∧cF X o a μ σ'.O v:=by
 simp only[ar,bo] at ah
 have hx:=aO hr h1 μ.O
 have hi:=aO hr h2 μ.O
 split at ah
 · rename_i s k n e1 e2
   split at ah
   · rename_i hc
     split at ah
     · rename_i b hb
       obtain⟨rfl,rfl⟩:=aS ah
       rw[e1] at hx;rw[e2] at hi
       simp only[ak] at hx hi
       obtain⟨bs,yQ,rfl⟩:=hx
       refine⟨rfl,aG (val:= .int .u8 b.toNat) hr.aX ?_ (by simp[ak])⟩
       simp only[execOp,ho]
       refine b9 ?_
       have nD:bs[n.toNat]? =some b:=by
        have bA:=(List.getElem?_eq_some_iff.1 hb).1
        have hv:=(List.getElem?_eq_some_iff.1 hb).2
        have cE:n.toNat<bs.size:=by rw[Array.length_toList] at bA;exact bA
        rw[getElem?_pos bs n.toNat cE]
        congr 1
       simp[Instr.index,Sem.run_bind,yQ,hi,asIntOf,run_underlying hd,hc,nD]
     · exact absurd ah an
   · exact absurd ah an
 · exact absurd ah an
theorem w5 {t e:TypeId} {x i:Operand} {x' i':aP} {agg:Bool} {n sz:Nat} (hr:Rel X T a μ) (ho:o.op= .index t x i) (hd:bg X t=some (.array n e)) (hg:fU X e=some agg)
   (hn:bz X e=some sz) (h1:cK X x=some x') (h2:cK X i=some i') (ah: (ar E (.lS agg n sz x' i')).run C ⟨T,μ.O⟩=some (v,σ')):σ'.T=T∧cF X o a μ σ'.O v:=by
 simp only[ar,bo] at ah
 have hx:=aO hr h1 μ.O
 have hi:=aO hr h2 μ.O
 split at ah
 · rename_i k j e2
   split at ah
   · rename_i hc
     obtain⟨hp,rfl⟩:=dq ah
     rw[e2] at hi
     simp only[ak] at hi
     cases hy:bc ⟨T,μ.O⟩ x'<;>rw[hy] at hc hx hp<;>simp[V.isAgg] at hc
     cases agg with
     | true=>
       obtain⟨cs,c7,hle,hv⟩:=kP hx hp
       refine⟨rfl,aG hr.aX ?_ hv⟩
       simp only[execOp,ho]
       refine b9 ?_
       simp[Instr.index,Sem.run_bind,c7,hi,asIntOf,run_underlying hd,hc,cU hn,pr hg hn]
     | false=>
       obtain⟨_,c,Em,hv⟩:=jU hx hp
       simp only[ak] at hx
       obtain⟨_,cs,c7,_⟩:=hx
       rw[c7] at Em
       refine⟨rfl,aG hr.aX ?_ hv⟩
       simp only[execOp,ho]
       refine b9 ?_
       simp[Instr.index,Sem.run_bind,c7,hi,asIntOf,run_underlying hd,hc,cU hn,fj hg cs _ c (by simpa [Value.cells] using Em)]
   · exact absurd ah an
 · exact absurd ah an
end
end Go.AM
namespace Go.AM
open Go Go.RowKit
def FJ (X:Ctx) (μ:Mu) (x:Option V) (v:Option Value):Prop:=(x=none∧v=none)∨ ∃x' v',x=some x'∧v=some v'∧ak X μ x' v'
theorem j8 {X:Ctx} {μ:Mu} {T:Nat→V} {a:Go.Act} {x:Option Operand} {y:Option aP} (hr:Rel X T a μ) (h:qo X x=some y) (O:Nat→Obj):
  FJ X μ (y.map (bc ⟨T,O⟩)) (x.map a.eval):=by
 rcases CS hr h O with⟨rfl,rfl⟩ | ⟨x',y',rfl,rfl,bQ⟩
 · exact .inl ⟨rfl,rfl⟩
 · exact .inr ⟨_,_,rfl,rfl,bQ⟩
section
variable {X:Ctx} {E:Env} {C:bb} {o:Oper} {a:Go.Act} {T:Nat→V} {μ:Mu} {v:V} {σ':St}
theorem run_sliceBound {d l y:Nat} {x:V} {xv:Value} {code:BoundsCode} {w:World} (h:ak X μ x xv) (hb:bE d (some x)=some l) (hle:l≤y):
  (Instr.sliceBound xv y code).run X.P w= .ok l w:=by
 cases x<;>simp[bE] at hb
 obtain⟨h0,rfl⟩:=hb
 simp only[ak] at h
 subst h
 rename_i k n
 have:n≤(y:Int):=by omega
 simp[Instr.sliceBound,asIntOf,Sem.run_bind,h0,this]
theorem eV {isSlice:Bool} {len cap l h:Nat} {lo hi:Option V} {L8 L9:Option Value} {w:World} (h1:FJ X μ lo L8) (h2:FJ X μ hi L9)
   (hl:bE 0 lo=some l) (hh:bE len hi=some h) (Ma:l≤h) (dJ:h≤cap):
   (Instr.sliceBounds isSlice len cap L8 L9 none).run X.P w= .ok (l,h,cap) w:=by
 rcases h1 with⟨rfl,rfl⟩ | ⟨lx,lv,rfl,rfl,UG⟩ <;>rcases h2 with⟨rfl,rfl⟩ | ⟨hx,hv,rfl,rfl,Xs⟩
 · simp[bE] at hl hh;subst hl;subst hh
   simp[Instr.sliceBounds,Sem.run_bind]
 · simp[bE] at hl;subst hl
   simp[Instr.sliceBounds,Sem.run_bind,run_sliceBound Xs hh dJ]
 · have Xt:=hh
   simp[bE] at Xt;subst Xt
   simp[Instr.sliceBounds,Sem.run_bind,run_sliceBound UG hl Ma]
 · simp[Instr.sliceBounds,Sem.run_bind,run_sliceBound UG hl Ma,run_sliceBound Xs hh dJ]
theorem gD {isSlice:Bool} {len cap l h m:Nat} {lo:Option V} {hi mx:V} {L8:Option Value} {L9 VW:Value} {w:World} (h1:FJ X μ lo L8) (h2:ak X μ hi L9) (h3:ak X μ mx VW)
   (hl:bE 0 lo=some l) (hh:bE len (some hi)=some h) (hm:bE 0 (some mx)=some m) (Ma:l≤h) (Xu:h≤m) (dJ:m≤cap):
   (Instr.sliceBounds isSlice len cap L8 (some L9) (some VW)).run X.P w= .ok (l,h,m) w:=by
 rcases h1 with⟨rfl,rfl⟩ | ⟨lx,lv,rfl,rfl,UG⟩
 · simp[bE] at hl;subst hl
   simp[Instr.sliceBounds,Sem.run_bind,run_sliceBound h3 hm dJ,run_sliceBound h2 hh Xu]
 · simp[Instr.sliceBounds,Sem.run_bind,run_sliceBound h3 hm dJ,run_sliceBound h2 hh Xu,run_sliceBound UG hl Ma]
theorem w6 {t:TypeId} {x:Operand} {lo hi:Option Operand} {x':aP} {GN yc:Option aP} (hr:Rel X T a μ) (ho:o.op= .slice t x lo hi none) (hd:bg X t=some .string)
   (h1:cK X x=some x') (h2:qo X lo=some GN) (h3:qo X hi=some yc) (ah: (ar E (.dM x' GN yc)).run C ⟨T,μ.O⟩=some (v,σ')):σ'.T=T∧cF X o a μ σ'.O v:=by
 simp only[ar,bo,zW] at ah
 obtain⟨hb,rfl⟩:=dq ah
 have hx:=aO hr h1 μ.O
 cases hy:bc ⟨T,μ.O⟩ x'<;>rw[hy] at hb hx<;>simp only[eu,reduceCtorEq] at hb
 rename_i s
 split at hb
 · rename_i l h hl hh
   split at hb<;>simp at hb
   rename_i hle
   subst hb
   simp only[ak] at hx
   obtain⟨bs,yQ,Xv⟩:=hx
   have cE:s.length=bs.size:=by rw[←Xv,Array.length_toList];rfl
   have VX:=eV (isSlice:=false) (len:=bs.size) (cap:=bs.size) (w:=μ.w) (j8 hr h2 μ.O) (j8 hr h3 μ.O) hl (by rw[←cE];exact hh) hle.1 (by omega)
   refine⟨rfl,aG (val:= .string (bs.extract l h)) hr.aX ?_ ?_⟩
   · simp only[execOp,ho]
     refine b9 ?_
     have lr:X.P.underlying t=some .string:=hd
     simp only[Instr.sliceAt,Sem.run_bind,run_underlying lr,Result.andThen_ok,Instr.slice,yQ]
     have hn: (Option.map a.eval (none:Option Operand))=none:=rfl
     simp only[hn,Option.isSome_none,Bool.false_eq_true,if_false,Sem.run_bind,VX,Result.andThen_ok,Sem.run_pure]
   · simp only[ak]
     refine⟨_,rfl,?_⟩
     rw[ByteArray.data_extract,Array.toList_extract,List.extract_eq_take_drop,Xv]
 · simp at hb
theorem CW {     t e:TypeId} {x:Operand} {lo hi mx:Option Operand} {x':aP} {GN yc UH:Option aP} {sz:Nat} (hr:Rel X T a μ) (ho:o.op= .slice t x lo hi mx) (hd:bg X t=some (.slice e))
   (hn:bz X e=some sz) (h1:cK X x=some x') (h2:qo X lo=some GN) (h3:qo X hi=some yc) (h4:qo X mx=some UH)
   (ah: (ar E (.slice sz x' GN yc UH)).run C ⟨T,μ.O⟩=some (v,σ')):σ'.T=T∧cF X o a μ σ'.O v:=by
 simp only[ar,bo,zW] at ah
 have hx:=aO hr h1 μ.O
 have rl:=j8 hr h2 μ.O
 have rh:=j8 hr h3 μ.O
 have rm:=j8 hr h4 μ.O
 generalize GN.map (bc ⟨T,μ.O⟩)=L8 at ah rl
 generalize yc.map (bc ⟨T,μ.O⟩)=L9 at ah rh
 generalize UH.map (bc ⟨T,μ.O⟩)=VW at ah rm
 have lr:X.P.underlying t=some (.slice e):=hd
 have fin: ∀ (p:Option Addr) (len cap l h m:Nat),a.eval x= .slice p len cap→(Instr.sliceBounds true len cap (lo.map a.eval) (hi.map a.eval) (mx.map a.eval)).run X.P μ.w= .ok (l,h,m) μ.w→
     (execOp a.eval o).run X.P μ.w= .ok (.value (.slice (if m=l then p else p.map (·.add (l*sz))) (h - l) (m - l))) μ.w:=fun p len cap l h m hp hb=>by
   simp only[execOp,ho]
   refine b9 ?_
   simp only[Instr.sliceAt,Sem.run_bind,run_underlying lr,Result.andThen_ok,Instr.slice,hp,hb,cU hn,Sem.run_pure]
 split at ah
 · rename_i r g off len ey
   rw[ey] at hx
   simp only[ak] at hx
   obtain⟨p,cap,hp,L7,pR,cB⟩:=hx
   simp only[Act.run] at ah
   split at ah
   · rename_i es bJ
     split at ah
     · rename_i w7
       obtain⟨q0,q1,q2⟩:=cB w7.1
       have VY:es.length≤(μ.φ r).cap:=(hr.aX.row r es bJ q0).2.1
       split at ah
       ·
         rename_i _ l h hl hh
         split at ah
         · rename_i hle
           obtain⟨rfl,rfl⟩:=aS ah
           have VZ:mx.map a.eval=none:=by
             rcases rm with⟨h5,h6⟩ | ⟨_,_,h5,_⟩
             · exact h6
             · cases h5
           have hb:=eV (isSlice:=true) (len:=len) (cap:=cap) (w:=μ.w) rl rh hl hh hle.1 (by omega)
           refine⟨rfl,aG hr.aX (fin p len cap l h cap hp (by rw[VZ];exact hb)) ?_⟩
           simp only[ak]
           refine⟨_,_,rfl,by omega,pR,fun _=> ⟨q0,by omega,?_⟩⟩
           by_cases vN:cap=l
           · left;omega
           · right
             rw[if_neg vN]
             have:cap≠0:=by omega
             rw[q2.resolve_left this,Option.map_some,eK,w7.2]
             congr 2
             rw[Nat.add_mul];omega
         · exact absurd ah an
       ·
         rename_i _ l h' m hl hh
         split at ah
         · rename_i _ _ h m' QE
           split at ah
           · rename_i hle
             obtain⟨rfl,rfl⟩:=aS ah
             rcases rm with⟨h5,_⟩ | ⟨Xw,QF,h5,h6,w8⟩
             · cases h5
             · injection h5 with h5;subst h5
               rcases rh with⟨h7,_⟩ | ⟨Xx,QG,h7,h8,w9⟩
               · cases h7
               · injection h7 with h7;subst h7
                 have hb:=gD (isSlice:=true) (len:=len) (cap:=cap) (w:=μ.w) rl w9 w8 hl hh QE hle.1 hle.2.1 (by omega)
                 refine⟨rfl,aG hr.aX (fin p len cap l h' m' hp (by rw[h6,h8];exact hb)) ?_⟩
                 split
                 · rename_i FK
                   simp only[ak]
                   have e1:h' - l=0:=by omega
                   have e2:m' - l=0:=by omega
                   exact⟨_,by rw[e1,e2]⟩
                 · simp[ak]
           · exact absurd ah an
         · exact absurd ah an
       · exact absurd ah an
     · exact absurd ah an
   · exact absurd ah an
 · obtain⟨ tY,rfl⟩:=dq ah
   refine⟨rfl,?_⟩
   generalize bc ⟨T,μ.O⟩ x'=y at tY hx
   cases y<;>simp only[iU,reduceCtorEq] at tY
   ·
     simp only[ak] at hx
     obtain⟨p,hp⟩:=hx
     split at tY
     · rename_i l h m hl hh hm
       split at tY<;>simp at tY
       rename_i hle
       subst tY
       have e1:l=0:=by omega
       have e2:h=0:=by omega
       have e3:m=0:=by omega
       subst e1;subst e2;subst e3
       have hb: ∃m',(Instr.sliceBounds true 0 0 (lo.map a.eval) (hi.map a.eval) (mx.map a.eval)).run X.P μ.w= .ok (0,0,m') μ.w∧m'=0:=by
         rcases rm with⟨rfl,h6⟩ | ⟨Xw,QF,rfl,h6,w8⟩
         · rw[h6];exact⟨_,eV (isSlice:=true) (len:=0) (cap:=0) (w:=μ.w) rl rh hl hh (Nat.le_refl _) (Nat.le_refl _),rfl⟩
         · rcases rh with⟨rfl,h8⟩ | ⟨Xx,QG,rfl,h8,w9⟩
           · simp at hle
           · rw[h6,h8];exact⟨_,gD (isSlice:=true) (len:=0) (cap:=0) (w:=μ.w) rl w9 w8 hl hh hm (Nat.le_refl _) (Nat.le_refl _) (Nat.le_refl _),rfl⟩
       obtain⟨m',hb,rfl⟩:=hb
       refine aG hr.aX (fin p 0 0 0 0 0 hp hb) ?_
       simp[ak]
     · simp at tY
   ·
     rename_i sz' xs
     simp only[ak] at hx
     obtain⟨lJ,gS,p,cap,vs,hp,L7,rZ,jk⟩:=hx
     split at tY
     · rename_i QH
       subst QH
       split at tY
       · rename_i l h hl hh
         split at tY<;>simp at tY
         rename_i hle
         subst tY
         obtain⟨_,VZ⟩: (none:Option V)=none∧mx.map a.eval=none:=by
           rcases rm with⟨h5,h6⟩ | ⟨_,_,h5,_⟩
           · exact⟨rfl,h6⟩
           · cases h5
         have hb:=eV (isSlice:=true) (len:=xs.length) (cap:=cap) (w:=μ.w) rl rh hl hh hle.1 (by omega)
         refine aG hr.aX (fin p xs.length cap l h cap hp (by rw[VZ];exact hb)) ?_
         have mZ: (aH xs l (h - l)).length=h - l:=by simp[aH];omega
         simp only[ak]
         refine⟨pw _ (pz _ lJ),iO _ (j7 _ gS),_,_,(vs.drop l).take (h - l),by rw[mZ],by rw[mZ];omega,aj.take _ (aj.drop _ rZ),?_⟩
         by_cases Ma:l=h
         · left;simp[aH,Ma]
         · right
           rcases jk with jk| ⟨b,q,QC,kN,yQ,dI⟩
           · subst jk;simp at hle;omega
           · have: ¬cap=l:=by omega
             rw[if_neg this,QC,Option.map_some,eK]
             exact⟨b,q+l*sz',rfl,kN,yQ,(dI.drop l).take _⟩
       · rename_i l h m hl hh
         split at tY
         · rename_i hi0 m' QE
           split at tY<;>simp at tY
           rename_i hle
           subst tY
           rcases rm with⟨h5,_⟩ | ⟨Xw,QF,h5,h6,w8⟩
           · cases h5
           · injection h5 with h5;subst h5
             rcases rh with⟨h7,_⟩ | ⟨Xx,QG,h7,h8,w9⟩
             · cases h7
             · injection h7 with h7;subst h7
               have hb:=gD (isSlice:=true) (len:=xs.length) (cap:=cap) (w:=μ.w) rl w9 w8 hl hh QE hle.1 hle.2.1 (by omega)
               refine aG hr.aX (fin p xs.length cap l h m' hp (by rw[h6,h8];exact hb)) ?_
               split
               · simp only[ak]
                 have e1:h - l=0:=by omega
                 have e2:m' - l=0:=by omega
                 exact⟨_,by rw[e1,e2]⟩
               · simp[ak]
         · simp at tY
       · simp at tY
     · simp at tY
end
end Go.AM
namespace Go.AM
open Go Go.RowKit
def cG {α:Type} (L:List α) (p:Nat) (m:List α):List α:=L.take p++m++L.drop (p+m.length)
theorem ew {α:Type} {L m:List α} {p:Nat} (h:p+m.length≤L.length): (cG L p m).length=L.length:=by
 simp[cG];omega
theorem ei {α:Type} {L m:List α} {p:Nat} (h:p+m.length≤L.length) (q:Nat):
   (cG L p m)[q]? =if q<p then L[q]? else if q<p+m.length then m[q - p]? else L[q]? :=by
 unfold cG
 rw[List.append_assoc,List.getElem?_append]
 have hl: (L.take p).length=p:=by simp;omega
 rw[hl]
 split
 · rename_i hq
   rw[List.getElem?_take];simp[hq]
 · rename_i hq
   rw[List.getElem?_append]
   split
   · rename_i hm
     rw[if_pos (by omega)]
   · rename_i hm
     rw[if_neg (by omega),List.getElem?_drop]
     congr 1;omega
def dh (c:List Value) (base sz:Nat) (vs:List Value):Prop:=
 ∀i v,vs[i]? =some v→v.cells.size=sz∧ ∀j x,v.cells[j]? =some x→c[base+i*sz+j]? =some x
def flat (us:List Value):List Value:=us.flatMap fun v=>v.cells.toList
theorem fG {us:List Value} {sz:Nat} (h: ∀v ∈ us,v.cells.size=sz): (flat us).length=us.length*sz:=by
 induction us with
 | nil=>simp[flat]
 | cons u us ih=>
   have h1:=h u (by simp)
   have h2:=ih fun v hv=>h v (by simp[hv])
   simp only[flat,List.flatMap_cons,List.length_append,List.length_cons] at h2 ⊢
   rw[h2,Array.length_toList,h1,Nat.add_mul];omega
theorem pA {us:List Value} {sz:Nat} (h: ∀v ∈ us,v.cells.size=sz) {i j:Nat} {v x:Value} (hv:us[i]? =some v) (hx:v.cells[j]? =some x):
   (flat us)[i*sz+j]? =some x:=by
 induction us generalizing i with
 | nil=>simp at hv
 | cons u us ih=>
   have h1:=h u (by simp)
   simp only[flat,List.flatMap_cons]
   cases i with
   | zero=>
     simp at hv;subst hv
     have hj:j<u.cells.size:=(Array.getElem?_eq_some_iff.1 hx).1
     rw[List.getElem?_append_left (by rw[Array.length_toList];omega)]
     simpa using hx
   | succ i=>
     simp at hv
     have:=ih (fun v hv=>h v (by simp[hv])) hv
     rw[List.getElem?_append_right (by rw[Array.length_toList,h1,Nat.add_mul];omega)]
     rw[Array.length_toList,h1]
     have e: (i+1)*sz+j - sz=i*sz+j:=by rw[Nat.add_mul];omega
     rw[e];exact this
theorem r4 {sz i j k:Nat} (hj:j<sz) (CX:i<k):i*sz+j<k*sz:=by
 have: (i+1)*sz≤k*sz:=Nat.mul_le_mul_right _ (by omega)
 rw[Nat.add_mul] at this;omega
theorem vO {sz i j k:Nat} (CX:k≤i):k*sz≤i*sz+j:=by
 have:k*sz≤i*sz:=Nat.mul_le_mul_right _ CX
 omega
theorem dh.write {c:List Value} {base sz k:Nat} {vs us:List Value} (h:dh c base sz vs) (hk:k≤vs.length) (CY: ∀v ∈ us,v.cells.size=sz)
   (nC:base+k*sz+us.length*sz≤c.length):
   dh (cG c (base+k*sz) (flat us)) base sz (vs.take k++us++vs.drop (k+us.length)):=by
 have xa:=fG CY
 intro i v hv
 have bA: (vs.take k).length=k:=by simp;omega
 rw[List.append_assoc,List.getElem?_append,bA] at hv
 split at hv
 · rename_i hi
   rw[List.getElem?_take] at hv
   simp only[hi,if_true] at hv
   obtain⟨h1,h2⟩:=h i v hv
   refine⟨h1,fun j x hx=> ?_⟩
   have hj:j<sz:=h1 ▸ (Array.getElem?_eq_some_iff.1 hx).1
   rw[ei (by rw[xa];omega),if_pos (by have:=r4 hj hi;omega)]
   exact h2 j x hx
 · rename_i hi
   rw[List.getElem?_append] at hv
   split at hv
   · rename_i yJ
     have Xy:=List.mem_of_getElem? hv
     refine⟨CY v Xy,fun j x hx=> ?_⟩
     have hj:j<sz:=CY v Xy ▸ (Array.getElem?_eq_some_iff.1 hx).1
     have pR:=vO (sz:=sz) (j:=j) (show k≤i by omega)
     have fJ:=r4 (k:=k+us.length) hj (show i<k+us.length by omega)
     rw[Nat.add_mul] at fJ
     rw[ei (by rw[xa];omega),if_neg (by omega),if_pos (by rw[xa];omega)]
     have e:base+i*sz+j - (base+k*sz)=(i - k)*sz+j:=by
      rw[Nat.sub_mul]
      have:=Nat.mul_le_mul_right sz (show k≤i by omega)
      omega
     rw[e]
     exact pA CY hv hx
   · rename_i yJ
     rw[List.getElem?_drop] at hv
     have e:k+us.length+(i - k - us.length)=i:=by omega
     rw[e] at hv
     obtain⟨h1,h2⟩:=h i v hv
     refine⟨h1,fun j x hx=> ?_⟩
     have pR:=vO (sz:=sz) (j:=j) (show k+us.length≤i by omega)
     rw[Nat.add_mul] at pR
     rw[ei (by rw[xa];omega),if_neg (by omega),if_neg (by rw[xa];omega)]
     exact h2 j x hx
theorem dh.take {c:List Value} {base sz:Nat} {vs:List Value} (h:dh c base sz vs) (n:Nat):dh c base sz (vs.take n):=by
 intro i v hv
 rw[List.getElem?_take] at hv
 split at hv
 · exact h i v hv
 · simp at hv
theorem dh.drop {c:List Value} {base sz:Nat} {vs:List Value} (h:dh c base sz vs) (n:Nat):dh c (base+n*sz) sz (vs.drop n):=by
 intro i v hv
 rw[List.getElem?_drop] at hv
 obtain⟨h1,h2⟩:=h (n+i) v hv
 refine⟨h1,fun j x hx=> ?_⟩
 rw[←h2 j x hx,Nat.add_mul]
 congr 1;omega
theorem dh.put {c:List Value} {base sz idx off:Nat} {vs m:List Value} {x x':Value} (h:dh c base sz vs) (hx:vs[idx]? =some x)
   (nC:base+(idx+1)*sz≤c.length) (hm:off+m.length≤sz) (zY:x'.cells.toList=cG x.cells.toList off m):
   dh (cG c (base+idx*sz+off) m) base sz (vs.set idx x'):=by
 have cE:=(h idx x hx).1
 rw[Nat.add_mul] at nC
 have gl:base+idx*sz+off+m.length≤c.length:=by omega
 have tM:off+m.length≤x.cells.toList.length:=by have:x.cells.toList.length=x.cells.size:=Array.length_toList;omega
 intro i v hv
 rw[List.getElem?_set] at hv
 split at hv
 · rename_i e;subst e
   have bA:idx<vs.length:=(List.getElem?_eq_some_iff.1 hx).1
   simp only[bA,if_true,Option.some.injEq] at hv
   subst hv
   have FL:x'.cells.size=sz:=by rw[←Array.length_toList,zY,ew tM,Array.length_toList];exact cE
   refine⟨FL,fun j y hy=> ?_⟩
   have hj:j<sz:=FL ▸ (Array.getElem?_eq_some_iff.1 hy).1
   have BY: (cG x.cells.toList off m)[j]? =some y:=by rw[←zY];simpa using hy
   rw[ei tM] at BY
   rw[ei gl]
   have e2:base+idx*sz+j - (base+idx*sz+off)=j - off:=by omega
   split at BY
   · rw[if_pos (by omega)]
     exact(h idx x hx).2 j y (by simpa using BY)
   · split at BY
     · rw[if_neg (by omega),if_pos (by omega),e2];exact BY
     · rw[if_neg (by omega),if_neg (by omega)]
       exact(h idx x hx).2 j y (by simpa using BY)
 · rename_i c9
   obtain⟨h1,h2⟩:=h i v hv
   refine⟨h1,fun j y hy=> ?_⟩
   have hj:j<sz:=h1 ▸ (Array.getElem?_eq_some_iff.1 hy).1
   rw[ei gl]
   by_cases bA:i<idx
   · have:=r4 hj bA
     rw[if_pos (by omega)];exact h2 j y hy
   · have:=vO (sz:=sz) (j:=j) (show idx+1≤i by omega)
     rw[Nat.add_mul] at this
     rw[if_neg (by omega),if_neg (by omega)];exact h2 j y hy
theorem gT {w:World} {b base sz:Nat} {vs:List Value} {c:Array Value} {T:TypeId} {fr:Nat×Nat} (hb:w.heap[b]? =some (.cells c T fr))
  (h:dz w b base sz vs):dh c.toList base sz vs:=by
 intro i v hv
 obtain⟨h1,h2⟩:=h.CO hb i v hv
 exact⟨h1,fun j x hx=>by simpa using h2 j x hx⟩
theorem qt {P:Program} {w:World} {b q sz n:Nat} {vs:List Value} (h:dz w b q sz vs) (hn:n≤vs.length):
  (loadCells ⟨b,q,none⟩ (n*sz)).run P w= .ok (flat (vs.take n)).toArray w:=by
 have hs: ∀v ∈ vs.take n,v.cells.size=sz:=fun v hv=>by
  obtain⟨i,hi⟩:=List.getElem?_of_mem (List.mem_of_mem_take hv)
  exact(h i v hi).1
 have hl: (flat (vs.take n)).length=n*sz:=by rw[fG hs,List.length_take,Nat.min_eq_left hn]
 rw[←hl]
 refine run_loadCells_list w ⟨b,q,none⟩ _ fun p x hx=> ?_
 rw[eK]
 have hp:p<n*sz:=by rw[←hl];exact(List.getElem?_eq_some_iff.1 hx).1
 have cE:0 <sz:=by
  rcases Nat.eq_zero_or_pos sz with e| e
  · subst e;simp at hp
  · exact e
 have hi:p / sz<n:=Nat.div_lt_of_lt_mul (by rw[Nat.mul_comm];exact hp)
 have uL:p / sz*sz+p % sz=p:=by rw[Nat.mul_comm];exact Nat.div_add_mod p sz
 have V0:p / sz<vs.length:=by omega
 have hv:vs[p / sz]? =some vs[p / sz]:=List.getElem?_eq_getElem V0
 have YH: (vs.take n)[p / sz]? =some vs[p / sz]:=by rw[List.getElem?_take];simp[hi,hv]
 obtain⟨h1,h2⟩:=h _ _ hv
 have hm:p % sz< (vs[p / sz]).cells.size:=by rw[h1];exact Nat.mod_lt _ cE
 have hc: (vs[p / sz]).cells[p % sz]? =some (vs[p / sz]).cells[p % sz]:=Array.getElem?_eq_getElem hm
 have g1:=pA hs YH hc
 rw[uL,hx] at g1
 injection g1 with g1
 have g2:=h2 _ _ hc
 rw[Nat.add_assoc,uL,←g1] at g2
 exact g2
end Go.AM
namespace Go.AM
open Go Go.RowKit
theorem b7 {v:V} {sz:Nat} (h:aN v sz=true):v.cX=true∧v.cells.length=sz:=by
 simp[aN] at h;exact⟨h.2,h.1⟩
theorem fZ {X:Ctx} {t:TypeId} {z:V} (h:dX X t=some z) (w:World): ∃zv,(zeroValue t).run X.P w= .ok zv w∧sK zv=some z:=by
 simp only[dX,info,Option.bind_eq_some_iff] at h
 obtain⟨i,h1,zv,h2,h3⟩:=h
 exact⟨zv,by simp[zeroValue,Sem.run_bind,run_typeInfo w h1,h2],h3⟩
theorem aj.qu {X:Ctx} {μ:Mu} {ys:List V} {us:List Value} {sz:Nat} (h:aj X μ ys us) (hb:ys.all (aN · sz)=true):
   (∀u ∈ us,u.cells.size=sz)∧ ∀c ∈ flat us,c.oneCell'=true:=by
 have hh: ∀u ∈ us,∃y,y ∈ ys∧ak X μ y u:=fun u hu=>by
   obtain⟨i,hi⟩:=List.getElem?_of_mem hu
   have bA:i<ys.length:=by rw[h.length];exact(List.getElem?_eq_some_iff.1 hi).1
   obtain⟨u',h1,h2⟩:=h.get (List.getElem?_eq_getElem bA)
   rw[hi] at h1;injection h1 with h1;subst h1
   exact⟨_,List.getElem_mem bA,h2⟩
 simp only[List.all_eq_true] at hb
 refine⟨fun u hu=> ?_,fun c hc=> ?_⟩
 · obtain⟨y,hy,hr⟩:=hh u hu
   obtain⟨h1,h2⟩:=b7 (hb y hy)
   rw[hr.dE h1,h2]
 · simp only[flat,List.mem_flatMap] at hc
   obtain⟨u,hu,YI⟩:=hc
   obtain⟨y,hy,hr⟩:=hh u hu
   obtain⟨h1,h2⟩:=b7 (hb y hy)
   obtain⟨j,hj⟩:=List.getElem?_of_mem YI
   have c7:=hr.cells h1
   have bA:j<y.cells.length:=by rw[c7.length];exact(List.getElem?_eq_some_iff.1 hj).1
   obtain⟨u',g1,g2⟩:=c7.get (List.getElem?_eq_getElem bA)
   rw[hj] at g1;injection g1 with g1;subst g1
   have GO:=hr.pj h1
   simp only[List.all_eq_true] at GO
   exact(g2.kM (GO _ (List.getElem_mem bA))).1
theorem gU {P:Program} {w:World} {g q:Nat} {cur:Array Value} {T:TypeId} (hg:w.heap[g]? =some (.cells cur T (0,0))) (m:List Value) (hl:q+m.length≤cur.size)
  (h1: ∀v ∈ m,v.oneCell'=true): (storeCells ⟨g,q,none⟩ m).run P w= .ok () (w.setRow g (cG cur.toList q m).toArray):=by
 have:=run_storeCells_at (P:=P) g q T m 0 cur w hg (by simpa using hl) h1
 simpa [cG] using this
section
variable {X:Ctx} {E:Env} {C:bb} {o:Oper} {a:Go.Act} {T:Nat→V} {μ:Mu} {v:V} {σ':St}
theorem xb (hr:Rel X T a μ) {r sz:Nat} {arr:Bool} {es:List V} {vs:List Value} {c:Array Value} {t:TypeId} {val:Value} (cE:0 <sz) (cap:Nat)
  (dJ:es.length≤cap) (oh:es.all (aN · sz)=true) (bQ:aj X μ es vs) (hc:cap*sz≤c.size) (dI:dh c.toList 0 sz vs)
  (ah: (execOp a.eval o).run X.P μ.w= .ok (.value val) (μ.w.alloc (.cells c t (0,0))))
  (hv:let μ':Mu:=⟨μ.w.alloc (.cells c t (0,0)),cW μ.φ r ⟨μ.w.heap.size,0,cap⟩,cW μ.O r {gen:=(μ.O r).gen+1,sz:=sz,arr:=arr,fz:=false,es:=some es}⟩;ak X μ' v val):
  cF X o a μ (cW μ.O r {gen:=(μ.O r).gen+1,sz:=sz,arr:=arr,fz:=false,es:=some es}) v:=by
 obtain⟨h1,h2⟩:=vK (X:=X) hr.aX r sz cap arr (es:=es) (vs:=vs) (c:=c) t cE dJ oh bQ hc (fun i u hu=>by
  obtain⟨k1,k2⟩:=dI i u hu
  exact⟨k1,fun j x hx=>by simpa using k2 j x hx⟩)
 exact⟨val,_,_,.inl ah,hv,h1,h2⟩
theorem yR {x:Value}:dh x.cells.toList 0 x.cells.size [x]:=by
 intro i v hv
 cases i with
 | zero=>simp at hv;subst hv;exact⟨rfl,fun j y hy=>by simpa using hy⟩
 | succ i=>simp at hv
theorem CZ {t:TypeId} {x':aP} {r sz:Nat} {xv:Value} (hr:Rel X T a μ) (hx:ak X μ (bc ⟨T,μ.O⟩ x') xv)
   (QI: (execOp a.eval o).run X.P μ.w= .ok (.value (.pointer (some ⟨μ.w.heap.size,0,none⟩))) (μ.w.alloc (.cells xv.cells t (0,0))))
   (ah: (ar E (.new r sz x')).run C ⟨T,μ.O⟩=some (v,σ')):σ'.T=T∧cF X o a μ σ'.O v:=by
 simp only[ar,bo] at ah
 split at ah
 · rename_i hb
   simp only[Bool.and_eq_true,decide_eq_true_eq] at hb
   simp only[Act.run,Option.some.injEq,Prod.mk.injEq] at ah
   obtain⟨rfl,rfl⟩:=ah
   obtain⟨hl,vN⟩:=b7 hb.1
   have cE:xv.cells.size=sz:=by rw[hx.dE hl,vN]
   refine⟨rfl,xb hr (cap:=1) (es:=[bc ⟨T,μ.O⟩ x']) (vs:=[xv]) (c:=xv.cells) hb.2 (by simp) (by simp[hb.1]) (by simp[aj,hx]) (by omega) (cE ▸ yR) QI ?_⟩
   simp only[ak,aA]
   exact⟨_,rfl,Nat.le_refl _,fun _=> ⟨hb.2,by simp⟩⟩
 · exact absurd ah an
theorem C0 {t:TypeId} {r sz:Nat} {z:V} (ks:List Nat) (hr:Rel X T a μ) (ho:o.op= .alloc t) (hz:dX X t=some z)
  (ah: (ar E (.new r sz (.const (ya ks z)))).run C ⟨T,μ.O⟩=some (v,σ')):σ'.T=T∧cF X o a μ σ'.O v:=by
 obtain⟨zv,h1,h2⟩:=fZ hz μ.w
 refine CZ (t:=t) (xv:=zv) hr (ak.ya ks (eh h2).1) ?_ ah
 simp only[execOp,ho]
 refine b9 ?_
 simp[Instr.alloc,Sem.run_bind,h1,newVar,newRow]
theorem K2 {t:TypeId} {r sz:Nat} {x:Operand} {x':aP} (ks:List Nat) (hr:Rel X T a μ) (ho:o.op= .box t x) (h1:cK X x=some x')
  (ah: (ar E (.new r sz (GH ks x'))).run C ⟨T,μ.O⟩=some (v,σ')):σ'.T=T∧cF X o a μ σ'.O v:=by
 refine CZ (t:=t) (xv:=a.eval x) hr (ak.GH ks (aO hr h1 μ.O)) ?_ ah
 simp only[execOp,ho]
 refine b9 ?_
 simp[Instr.box,Sem.run_bind,newVar,newRow]
theorem q6 {zv:Value} {sz n:Nat} (hz:zv.cells.size=sz):
  ((Array.range (n*sz)).map (fun i=>zv.cells[i % zv.cells.size]!)).size=n*sz∧
    dh ((Array.range (n*sz)).map (fun i=>zv.cells[i % zv.cells.size]!)).toList 0 sz (List.replicate n zv):=by
 refine⟨by simp,fun i v hv=> ?_⟩
 rw[List.getElem?_replicate] at hv
 split at hv<;>simp at hv
 rename_i hi
 subst hv
 refine⟨hz,fun j x hx=> ?_⟩
 have hj:j<sz:=hz ▸ (Array.getElem?_eq_some_iff.1 hx).1
 have bA:=r4 hj hi
 have hm: (i*sz+j) % sz=j:=by rw[Nat.mul_comm,Nat.mul_add_mod];exact Nat.mod_eq_of_lt hj
 have hr: (Array.range (n*sz))[i*sz+j]? =some (i*sz+j):=by simp[bA]
 simp only[Nat.zero_add,Array.toList_map,List.getElem?_map]
 rw[Array.getElem?_toList,hr]
 simp only[Option.map_some,hz,hm]
 rw[getElem!_def,hx]
theorem aj.replicate {z:V} {zv:Value} (h:ak X μ z zv): ∀n,aj X μ (List.replicate n z) (List.replicate n zv)
 | 0=>by simp[aj]
 | n+1=>by simp only[List.replicate_succ,aj];exact⟨h,aj.replicate h n⟩
theorem vP {t e:TypeId} {x y:Operand} {x' y':aP} {r sz:Nat} {i:TypeInfo} {z:V} (hr:Rel X T a μ) (ho:o.op= .makeSlice t x y) (hd:bg X t=some (.slice e)) (hn:bz X e=some sz)
   (hi:info X e=some i) (hz:dX X e=some z) (h1:cK X x=some x') (h2:cK X y=some y')
   (ah: (ar E (.makeSlice r sz i.bytes z x' y')).run C ⟨T,μ.O⟩=some (v,σ')):σ'.T=T∧cF X o a μ σ'.O v:=by
 simp only[ar,bo] at ah
 have hx:=aO hr h1 μ.O
 have hy:=aO hr h2 μ.O
 split at ah
 · rename_i k n k' m e1 e2
   split at ah
   · rename_i hc
     obtain⟨wG,yb,Mb,BZ,YJ,hc6⟩:=hc
     simp only[Act.run,Option.some.injEq,Prod.mk.injEq] at ah
     obtain⟨rfl,rfl⟩:=ah
     rw[e1] at hx;rw[e2] at hy
     simp only[ak] at hx hy
     obtain⟨zv,tN,uM⟩:=fZ hz μ.w
     obtain⟨sY,C1⟩:=eh (X:=X) (μ:=μ) uM
     have C2:zv.cells.size=sz:=by rw[sY.dE C1,(b7 BZ).2]
     obtain⟨V1,sG⟩:=q6 (n:=m.toNat) C2
     have CC:IntKind.i64.wrap n=n:=IntWalk.i64_in _ (by omega)
     have wk:IntKind.i64.wrap m=m:=IntWalk.i64_in _ (by omega)
     have BW:X.P.underlying t=some (.slice e):=hd
     have YK:X.P.info? e=some i:=hi
     have Xn: ¬ (((decide (m< 0) || decide ((i.bytes:Int)*m >2 ^ 48)) || decide (n< 0) || decide (n >m))=true):=by
       simp only[Bool.or_eq_true,decide_eq_true_eq,not_or]
       have: (i.bytes:Int)*m=m*i.bytes:=Int.mul_comm _ _
       have h48: (2:Int) ^ 48=281474976710656:=by decide
       refine⟨⟨⟨by omega,by omega⟩,by omega⟩,by omega⟩
     refine⟨rfl,xb hr (cap:=m.toNat) (es:=List.replicate m.toNat z) (vs:=List.replicate m.toNat zv) (val:= .slice (some ⟨μ.w.heap.size,0,none⟩) n.toNat m.toNat) YJ (by simp) ?_ (aj.replicate sY _) (by rw[V1];exact Nat.le_refl _) sG (t:=e) ?_ ?_⟩
     · simp only[List.all_eq_true,List.mem_replicate]
       rintro q ⟨_,rfl⟩;exact BZ
     · simp only[execOp,ho]
       refine b9 ?_
       simp only[Instr.makeSlice,Sem.run_bind,run_underlying BW,Result.andThen_ok,hx,hy,asInt,asIntOf,Sem.run_pure,run_typeInfo μ.w YK,CC,wk]
       rw[if_neg Xn]
       simp only[Sem.run_bind,run_askRoom,Result.andThen_ok,cU hn]
       by_cases Bh:m.toNat*sz=0
       · rw[if_pos Bh]
         simp only[Sem.run_pure,Result.andThen_ok,newRow,Sem.run_bind,run_newObj]
         have V2:Array.range 0= #[]:=rfl
         rw[Bh,V2]
         simp
       · rw[if_neg Bh]
         simp only[Sem.run_bind,tN,Result.andThen_ok,Sem.run_pure,newRow,run_newObj]
         simp
     · simp only[ak,aA]
       exact⟨_,_,rfl,by omega,Nat.le_refl _,fun _=> ⟨by omega,by simp,by simp⟩⟩
   · exact absurd ah an
 · exact absurd ah an
theorem nF {      c:V} {k:V→Act} {val:Value} {O:Nat→Obj} {p:V×St} (ho:bj X ⟨μ.w,μ.φ,O⟩) (hv:ak X ⟨μ.w,μ.φ,O⟩ c val) (ah: (b5 c k).run C ⟨T,O⟩=some p):
   ∃c' O',(k c').run C ⟨T,O'⟩=some p∧ak X ⟨μ.w,μ.φ,O'⟩ c' val∧Le ⟨μ.w,μ.φ,O⟩ ⟨μ.w,μ.φ,O'⟩∧bj X ⟨μ.w,μ.φ,O'⟩∧(c.aI=true→c'.aI=true):=by
 have same: (b5 c k).run C ⟨T,O⟩=(k c).run C ⟨T,O⟩→_:=fun e=> (⟨c,O,e ▸ ah,hv,Le.refl _,ho,id⟩: ∃c' O',(k c').run C ⟨T,O'⟩=some p∧ak X ⟨μ.w,μ.φ,O'⟩ c' val∧Le ⟨μ.w,μ.φ,O⟩ ⟨μ.w,μ.φ,O'⟩∧bj X ⟨μ.w,μ.φ,O'⟩∧(c.aI=true→c'.aI=true))
 cases c with
 | mp r g=>
   simp only[b5,Act.run] at ah
   split at ah
   · rename_i es bJ
     split at ah
     · rename_i hc
       obtain⟨wG,yb,Mb,BZ⟩:=hc
       simp only[Act.run] at ah
       obtain⟨le,tV⟩:=oo (μ:=⟨μ.w,μ.φ,O⟩) ho r
       refine⟨_,_,ah,?_,le,tV,fun _=>rfl⟩
       simp only[ak] at hv
       obtain⟨a,rfl,h1,h2⟩:=hv
       obtain⟨k0,rfl⟩:=h2 wG
       have sZ:=tV.ents r es (by simp[aA,bJ]) (by simp[aA,yb])
       rcases sZ with⟨dJ,ents,clock,hm,bQ,j9⟩ | ⟨_,s,pos,_,rfl⟩ | ⟨mX,rfl⟩
       rotate_left
       · simp[V.isTuple] at BZ
       · simp[V.isTuple] at BZ
       simp only[ak]
       refine⟨Mb,.inr ⟨_,ents,clock,rfl,?_,(Array.getElem?_eq_some_iff.1 hm).1,⟨hm,j9⟩,bQ⟩⟩
       rintro(⟨r',h1,h2,h3,h4⟩ | K3)
       · by_cases e:r'=r
         · subst e;simp[aA] at h2
         · exact tV.inj r' r e h1 (by simp[aA,bJ]) h3 dJ h4
       · exact tV.qU r (by simp[aA,bJ]) dJ K3
     · exact absurd ah an
   · exact absurd ah an
 | sl r g off len=>
   simp only[b5,Act.run] at ah
   split at ah
   · rename_i es bJ
     split at ah
     · rename_i hc
       obtain⟨wG,yb,Mb,BZ⟩:=hc
       simp only[Act.run] at ah
       obtain⟨le,tV⟩:=oo (μ:=⟨μ.w,μ.φ,O⟩) ho r
       refine⟨_,_,ah,?_,le,tV,fun _=>rfl⟩
       have mZ: (aH es off len).length=len:=by simp[aH];omega
       have ye:=ak.mono le hv
       simp only[ak,aA] at ye
       obtain⟨a0,cap,rfl,hle,_,cB⟩:=ye
       obtain⟨k0,k1,k2⟩:=cB wG
       obtain⟨q1,q2,q3,q4⟩:=tV.row r es (by simp[aA,bJ]) (by simpa [aA] using k0)
       simp only[aA] at q1 q2 q3 q4
       simp only[ak]
       refine⟨BZ,?_,a0,cap,?_⟩
       · simp only[List.all_eq_true] at q3 ⊢
         exact fun x hx=> (b7 (q3 x (List.mem_of_mem_drop (List.mem_of_mem_take hx)))).1
       · by_cases dJ:cap=0
         · have:len=0:=by omega
           subst this
           refine⟨[],by rw[mZ],by rw[mZ];omega,?_,.inl ?_⟩
           · simp[aH,aj]
           · simp[aH]
         · have jX: (μ.φ r).cap≠0:=by omega
           rcases q4 with q4| ⟨cc,TT,vs,p1,p2,p3,p4⟩
           · exact absurd q4 jX
           · refine⟨(vs.drop off).take len,by rw[mZ],by rw[mZ];omega,aj.take _ (aj.drop _ p3),.inr ⟨_,_,k2.resolve_left dJ,?_,(Array.getElem?_eq_some_iff.1 p1).1,(p4.drop off).take len⟩⟩
             rintro(⟨r',h1,h2,h3,h4⟩ | K3)
             · by_cases e:r'=r
               · subst e;simp[aA] at h2
               · have:=tV.inj r' r e h1 (by simp[aA,bJ]) h3 jX
                 exact this h4
             · exact tV.qU r (by simp[aA,bJ]) jX K3
     · exact absurd ah an
   · exact absurd ah an
 | own _ _=>exact absurd ah an
 | msl _ _ _ _=>exact absurd ah an
 | mptr _ _ _ _=>exact absurd ah an
 | any=>exact absurd ah an
 | it _ _=>exact absurd ah an
 | _=>exact same rfl
theorem ml: ∀ {cs:List V} {k:List V→Act} {vals:List Value} {O:Nat→Obj} {p:V×St},bj X ⟨μ.w,μ.φ,O⟩→aj X ⟨μ.w,μ.φ,O⟩ cs vals→(dx cs k).run C ⟨T,O⟩=some p→
   ∃cI O',(k cI).run C ⟨T,O'⟩=some p∧aj X ⟨μ.w,μ.φ,O'⟩ cI vals∧Le ⟨μ.w,μ.φ,O⟩ ⟨μ.w,μ.φ,O'⟩∧bj X ⟨μ.w,μ.φ,O'⟩∧(cs.all V.aI=true→cI.all V.aI=true)
 | [],k,[],O,p,ho,_,ah=> ⟨[],O,ah,by simp[aj],Le.refl _,ho,id⟩
 | [],_,_::_,_,_,_,h,_=>by simp[aj] at h
 | _::_,_,[],_,_,_,h,_=>by simp[aj] at h
 | c::cs,k,v::vals,O,p,ho,h,ah=>by
   simp only[aj] at h
   obtain⟨c',O1,h1,h2,h3,h4,h5⟩:=nF ho h.1 ah
   obtain⟨cI,O2,k1,k2,k3,k4,k5⟩:=ml h4 (aj.mono h3 h.2) h1
   refine⟨c'::cI,O2,k1,?_,h3.trans k3,k4,?_⟩
   · simp only[aj];exact⟨ak.mono k3 h2,k2⟩
   · intro hh
     simp only[List.all_cons,Bool.and_eq_true] at hh ⊢
     exact⟨h5 hh.1,k5 hh.2⟩
theorem ka {c:V} {k:V→Act} {val:Value} {O:Nat→Obj} {p:V×St} (ho:bj X ⟨μ.w,μ.φ,O⟩) (hv:ak X ⟨μ.w,μ.φ,O⟩ c val) (ah: (qG c k).run C ⟨T,O⟩=some p):
   ∃c' O',(k c').run C ⟨T,O'⟩=some p∧ak X ⟨μ.w,μ.φ,O'⟩ c' val∧Le ⟨μ.w,μ.φ,O⟩ ⟨μ.w,μ.φ,O'⟩∧bj X ⟨μ.w,μ.φ,O'⟩:=by
 unfold qG at ah
 split at ah
 · exact⟨c,O,ah,hv,Le.refl _,ho⟩
 · split at ah
   · simp only[ak] at hv
     obtain⟨h0,vs,rfl,rZ⟩:=hv
     obtain⟨cI,O',h1,h2,h3,h4,h5⟩:=ml ho rZ ah
     exact⟨_,O',h1,by simp only[ak];exact⟨h5 h0,vs,rfl,h2⟩,h3,h4⟩
   · obtain⟨c',O',h1,h2,h3,h4,_⟩:=nF ho hv ah
     exact⟨c',O',h1,h2,h3,h4⟩
theorem nG: ∀ {cs:List V} {k:List V→Act} {vals:List Value} {O:Nat→Obj} {p:V×St},bj X ⟨μ.w,μ.φ,O⟩→aj X ⟨μ.w,μ.φ,O⟩ cs vals→(fK.go cs k).run C ⟨T,O⟩=some p→
   ∃cI O',(k cI).run C ⟨T,O'⟩=some p∧aj X ⟨μ.w,μ.φ,O'⟩ cI vals∧Le ⟨μ.w,μ.φ,O⟩ ⟨μ.w,μ.φ,O'⟩∧bj X ⟨μ.w,μ.φ,O'⟩
 | [],k,[],O,p,ho,_,ah=> ⟨[],O,ah,by simp[aj],Le.refl _,ho⟩
 | [],_,_::_,_,_,_,h,_=>by simp[aj] at h
 | _::_,_,[],_,_,_,h,_=>by simp[aj] at h
 | c::cs,k,v::vals,O,p,ho,h,ah=>by
   simp only[aj] at h
   obtain⟨c',O1,h1,h2,h3,h4⟩:=ka ho h.1 ah
   obtain⟨cI,O2,k1,k2,k3,k4⟩:=nG h4 (aj.mono h3 h.2) h1
   refine⟨c'::cI,O2,k1,?_,h3.trans k3,k4⟩
   simp only[aj];exact⟨ak.mono k3 h2,k2⟩
theorem s6 {cs:List V} {k:List V→Act} {vals:List Value} {O:Nat→Obj} {p:V×St} (ho:bj X ⟨μ.w,μ.φ,O⟩) (hv:aj X ⟨μ.w,μ.φ,O⟩ cs vals) (ah: (fK cs k).run C ⟨T,O⟩=some p):
  ∃cI O',(k cI).run C ⟨T,O'⟩=some p∧aj X ⟨μ.w,μ.φ,O'⟩ cI vals∧Le ⟨μ.w,μ.φ,O⟩ ⟨μ.w,μ.φ,O'⟩∧bj X ⟨μ.w,μ.φ,O'⟩:=by
 unfold fK at ah
 split at ah
 · exact⟨cs,O,ah,hv,Le.refl _,ho⟩
 · exact nG ho hv ah
end
end Go.AM
namespace Go.AM
open Go Go.RowKit
theorem nH {α:Type} (L:List α) (p:Nat) (x:α) (h:p<L.length):L.set p x=cG L p [x]:=by
 apply List.ext_getElem?
 intro q
 rw[ei (by simp;omega),List.getElem?_set]
 by_cases hq:q<p
 · simp[hq];omega
 · by_cases Xz:p=q
   · subst Xz;simp[h]
   · have: ¬q<p+1:=by omega
     simp[hq,Xz,this]
theorem bX {α:Type} (xs:Array α):xs.toList.length=xs.size:=Array.length_toList
section
variable {X:Ctx} {E:Env} {C:bb} {o:Oper} {a:Go.Act} {T:Nat→V} {μ:Mu} {v:V} {σ':St}
theorem xc {agg:Bool} {off sz:Nat} {e u e':V} {x val:Value} (he:ak X μ e x) (hl:e.cX=true) (hu:ak X μ u val) (h:cV agg off sz e u=some e'):
   ∃x',ak X μ e' x'∧e'.cX=true∧e'.cells.length=e.cells.length∧val.cells.size=sz∧off+sz≤x.cells.size∧x'.cells.toList=cG x.cells.toList off val.cells.toList∧
     ∀c ∈ val.cells.toList,c.oneCell'=true:=by
 unfold cV at h
 split at h
 · split at h
   · rename_i cs vs
     split at h<;>simp at h
     rename_i hc
     subst h
     simp only[ak] at he hu
     obtain⟨h0,xs,rfl,hx⟩:=he
     obtain⟨k0,ys,rfl,hy⟩:=hu
     have l1:=hx.length
     have l2:=hy.length
     rw[bX xs] at l1
     rw[bX ys] at l2
     refine⟨.agg (cG xs.toList off ys.toList).toArray,?_,rfl,?_,?_,?_,?_,?_⟩
     · simp only[ak]
       refine⟨?_,_,rfl,?_⟩
       · have t1:=iO (p:=V.aI) off h0
         have t2:=j7 (p:=V.aI) (off+sz) h0
         simp only[List.all_append,t1,k0,t2,Bool.and_self]
       · have:=((aj.take off hx).append hy).append (aj.drop (off+sz) hx)
         simpa [cG,←l2,hc.1] using this
     · simp[V.cells];omega
     · simp only[Value.cells];omega
     · simp only[Value.cells];omega
     · simp[Value.cells]
     · intro c UI
       simp only[Value.cells] at UI
       obtain⟨j,hj⟩:=List.getElem?_of_mem UI
       have bA:j<vs.length:=by rw[hy.length];exact(List.getElem?_eq_some_iff.1 hj).1
       obtain⟨c',g1,g2⟩:=hy.get (List.getElem?_eq_getElem bA)
       rw[hj] at g1;injection g1 with g1;subst g1
       simp only[List.all_eq_true] at k0
       exact(g2.kM (k0 _ (List.getElem_mem bA))).1
   · simp at h
 · split at h
   · rename_i cR
     obtain⟨vQ,c7⟩:=hu.kM cR.1
     have q7: ∀c ∈ val.cells.toList,c.oneCell'=true:=by rw[c7];simpa using vQ
     split at h
     · rename_i cs
       split at h<;>simp at h
       rename_i FI
       subst h
       simp only[ak] at he
       obtain⟨h0,xs,rfl,hx⟩:=he
       have l1:=hx.length
       rw[bX xs] at l1
       refine⟨.agg (xs.toList.set off val).toArray,?_,rfl,?_,?_,?_,?_,q7⟩
       · simp only[ak]
         refine⟨?_,_,rfl,by simpa using aj.set hx off hu⟩
         simp only[List.all_eq_true] at h0 ⊢
         intro c UI
         rcases List.mem_or_eq_of_mem_set UI with hm| rfl
         · exact h0 c hm
         · exact cR.1
       · simp[V.cells]
       · rw[c7,cR.2];rfl
       · simp only[Value.cells];omega
       · rw[c7]
         simp only[Value.cells]
         rw[nH _ _ _ (by rw[Array.length_toList];omega)]
     · split at h<;>simp at h
       rename_i c9 jX
       subst h
       obtain⟨_,XA⟩:=he.kM jX.1
       refine⟨val,hu,by simp[V.cX,cR.1],?_,?_,?_,?_,q7⟩
       · rw[V.fq cR.1,V.fq jX.1];rfl
       · rw[c7,cR.2];rfl
       · rw[XA,cR.2,jX.2];simp
       · rw[c7,XA,jX.2];simp[cG]
   · simp at h
theorem vR {t:TypeId} {w:World} {g q sz:Nat} {cur:Array Value} {T0:TypeId} {val:Value} (hn:bz X t=some sz) (hg:w.heap[g]? =some (.cells cur T0 (0,0)))
  (hs:val.cells.size=sz) (hl:q+sz≤cur.size) (h1: ∀c ∈ val.cells.toList,c.oneCell'=true):
  (storeVar t ⟨g,q,none⟩ val).run X.P w= .ok () (w.setRow g (cG cur.toList q val.cells.toList).toArray):=by
 have:=gU (P:=X.P) hg val.cells.toList (by rw[Array.length_toList,hs];exact hl) h1
 simp[storeVar,Sem.run_bind,cU hn,hs,this]
theorem xd {    t:TypeId} {agg:Bool} {sz r g idx off:Nat} {u:V} {val:Value} {O:Nat→Obj} (ho:bj X ⟨μ.w,μ.φ,O⟩) (hu:ak X ⟨μ.w,μ.φ,O⟩ u val) (hn:bz X t=some sz) (h0:0 < (O r).sz)
   (ah: (ar.jC agg sz r g idx off u).run C ⟨T,O⟩=some (v,σ')):
   σ'.T=T∧v= .tuple []∧ ∃w' φ',(storeVar t ⟨(μ.φ r).cD,(μ.φ r).base+idx*(O r).sz+off,none⟩ val).run X.P μ.w= .ok () w'∧Le ⟨μ.w,μ.φ,O⟩ ⟨w',φ',σ'.O⟩∧bj X ⟨w',φ',σ'.O⟩:=by
 simp only[ar.jC,Act.run] at ah
 split at ah
 · rename_i es bJ
   split at ah
   · rename_i hc
     split at ah
     · rename_i e he
       split at ah
       · rename_i e' hp
         simp only[Act.run,Option.some.injEq,Prod.mk.injEq] at ah
         obtain⟨rfl,rfl⟩:=ah
         obtain⟨k1,k2,k3,k4⟩:=ho.row r es bJ h0
         simp only at k1 k2 k3 k4
         have bA:idx<es.length:=(List.getElem?_eq_some_iff.1 he).1
         have jX: (μ.φ r).cap≠0:=by omega
         rcases k4 with k4| ⟨c,T0,vs,hb,nC,rZ,dI⟩
         · exact absurd k4 jX
         · obtain⟨x,hx,bQ⟩:=rZ.get he
           have oh:aN e (O r).sz=true:=by
            simp only[List.all_eq_true] at k3
            exact k3 e (List.mem_of_getElem? he)
           obtain⟨kb,vN⟩:=b7 oh
           obtain⟨x',p1,p2,p3,p4,p5,p6,p7⟩:=xc bQ kb hu hp
           have zx:x.cells.size=(O r).sz:=by rw[bQ.dE kb,vN]
           have sG:dh c.toList (μ.φ r).base (O r).sz vs:=gT hb dI
           have hmul: (idx+1)*(O r).sz≤(μ.φ r).cap*(O r).sz:=Nat.mul_le_mul_right _ (by omega)
           have K4: (μ.φ r).base+(idx+1)*(O r).sz≤c.toList.length:=by rw[Array.length_toList];omega
           have rI:=sG.put (x':=x') hx K4 (m:=val.cells.toList) (by rw[Array.length_toList,p4];omega) p6
           have mh:=vR (X:=X) (t:=t) (q:=(μ.φ r).base+idx*(O r).sz+off) (val:=val) hn hb p4 (by rw[Nat.add_mul] at hmul;omega) p7
           have hw:=j6 (μ:=⟨μ.w,μ.φ,O⟩) ho r bJ hc.2 hb jX (c':=(cG c.toList ((μ.φ r).base+idx*(O r).sz+off) val.cells.toList).toArray)
            (by
              have: (cG c.toList ((μ.φ r).base+idx*(O r).sz+off) val.cells.toList).length=c.toList.length:=ew (by
               rw[Array.length_toList,Array.length_toList,p4];rw[Nat.add_mul] at hmul;omega)
              simpa using this)
            (O r).gen (μ.φ r).base (μ.φ r).cap (es':=es.set idx e') (vs':=vs.set idx x') (.inl ⟨rfl,rfl,rfl⟩) jX (by simpa using k2)
            (by
              simp only[List.all_eq_true] at k3 ⊢
              intro y hy
              rcases List.mem_or_eq_of_mem_set hy with hm| rfl
              · exact k3 y hm
              · simp[aN,p2,p3,vN])
            (aj.set rZ idx p1) nC (fun i y hy=>by
              obtain⟨q1,q2⟩:=rI i y hy
              exact⟨q1,fun j z hz=>by simpa using q2 j z hz⟩)
           refine⟨rfl,rfl,_,_,mh,hw.1,hw.2⟩
       · exact absurd ah an
     · exact absurd ah an
   · exact absurd ah an
 · exact absurd ah an
theorem C3 {t:TypeId} {x y:Operand} {x' y':aP} {agg:Bool} {sz:Nat} (hr:Rel X T a μ) (ho:o.op= .store t x y) (h1:cK X x=some x') (h2:cK X y=some y')
   (hn:bz X t=some sz) (ah: (ar E (.store agg sz x' y')).run C ⟨T,μ.O⟩=some (v,σ')):σ'.T=T∧cF X o a μ σ'.O v:=by
 simp only[ar,bo] at ah
 have hx:=aO hr h1 μ.O
 have hy:=aO hr h2 μ.O
 split at ah
 · rename_i r g idx off e
   rw[e] at hx
   simp only[ak] at hx
   obtain⟨p,hp,pR,cB⟩:=hx
   have fin: ∀w',(storeVar t p (a.eval y)).run X.P μ.w= .ok () w'→(execOp a.eval o).run X.P μ.w= .ok .skip w':=fun w' hw=>by
     simp only[execOp,ho]
     refine CP ?_
     simp[Instr.storeAt,Instr.sureAddr,Sem.run_bind,hp,hw]
   have main: ∀ {O:Nat→Obj} {u:V},Le μ ⟨μ.w,μ.φ,O⟩→bj X ⟨μ.w,μ.φ,O⟩→ak X ⟨μ.w,μ.φ,O⟩ u (a.eval y)→(ar.jC agg sz r g idx off u).run C ⟨T,O⟩=some (v,σ')→
       σ'.T=T∧cF X o a μ σ'.O v:=by
     intro O u le fk hu rI
     have hgO: (O r).gen=g:=by
       simp only[ar.jC,Act.run] at rI
       split at rI
       · split at rI
         · rename_i hc;exact hc.1
         · exact absurd rI an
       · exact absurd rI an
     have V3:=le.gen r
     simp only at V3
     have XB: (μ.O r).gen=g:=by omega
     obtain⟨_,FM⟩:=le.row r (by simp only;omega)
     obtain⟨q1,q2,w',φ',q3,q4,q5⟩:=xd (t:=t) fk hu hn (by simp only at FM;rw[FM];exact(cB XB).1) rI
     refine⟨q1,undef,w',φ',.inr ⟨fin w' ?_,rfl⟩,?_,le.trans q4,q5⟩
     · rw[(cB XB).2]
       simp only at FM
       rw[←FM];exact q3
     · rw[q2];simp only[ak];exact⟨#[],rfl,by simp[aj]⟩
   simp only[Act.run] at ah
   split at ah
   · rw[bo] at ah
     obtain⟨u,O1,k1,k2,k3,k4⟩:=ka (μ:=μ) hr.aX hy ah
     exact main k3 k4 k2 k1
   · rw[bo] at ah
     exact main (Le.refl μ) hr.aX hy ah
 · exact absurd ah an
theorem uN {off:Nat}: ∀ (m:List Value) (k:Nat) (cs:Array Value),off+k+m.length≤cs.size→
   ((m.zipIdx k).foldl (fun cs (p:Value×Nat)=>cs.setIfInBounds (off+p.2) p.1) cs).toList=cG cs.toList (off+k) m
 | [],k,cs,_=>by simp[cG]
 | x::m,k,cs,h=>by
   simp only[List.zipIdx_cons,List.foldl_cons]
   simp at h
   rw[uN m (k+1) _ (by simp;omega)]
   rw[Array.toList_setIfInBounds]
   apply List.ext_getElem?
   intro q
   rw[ei (by simp;omega),ei (by simp;omega),List.getElem?_set]
   by_cases h1:q<off+k
   · have:q<off+(k+1):=by omega
     have h2: ¬off+k=q:=by omega
     simp[h1,this,h2]
   · by_cases h2:q=off+k
     · subst h2
       have h3:off+k<off+(k+1):=by omega
       have h4:off+k<cs.size:=by omega
       simp[h3,h4]
     · by_cases h3:q<off+k+(m.length+1)
       · have h4: ¬q<off+(k+1):=by omega
         have h5:q<off+(k+1)+m.length:=by omega
         have h6:q - (off+k)=(q - (off+(k+1)))+1:=by omega
         simp[h1,h4,h3,h5,h6]
       · have h4: ¬q<off+(k+1):=by omega
         have h5: ¬q<off+(k+1)+m.length:=by omega
         have h6: ¬off+k=q:=by omega
         simp[h1,h4,h3,h5,h6]
theorem uO {off:Nat} {x:Value} {cs:Array Value} (h:off+x.cells.size≤cs.size):
  (x.cells.zipIdx.foldl (fun cs (p:Value×Nat)=>cs.setIfInBounds (off+p.2) p.1) cs).toList=cG cs.toList off x.cells.toList:=by
 rw[←Array.foldl_toList,Array.toList_zipIdx]
 have:=uN (off:=off) x.cells.toList 0 cs (by rw[Array.length_toList];omega)
 simpa using this
theorem xe {place:Nat→Option (Nat×Nat)}: ∀ {ps:List (Nat×Nat×V)} {qs:List (Nat×Value)} {cs cI:List V} {xs:Array Value},
   (ps.length=qs.length)→(∀ (i:Nat) p q,ps[i]? =some p→qs[i]? =some q→place q.1=some (p.1,p.2.1)∧ak X μ p.2.2 q.2)→aj X μ cs xs.toList→cs.all V.aI=true→
   dm cs ps=some cI→ ∃FN,Instr.fill place xs qs=some FN∧aj X μ cI FN.toList∧cI.all V.aI=true
 | [],[],cs,cI,xs,_,_,hv,hc,h=>by
   simp[dm] at h;subst h
   exact⟨xs,rfl,hv,hc⟩
 | [],_::_,_,_,_,h,_,_,_,_=>by simp at h
 | _::_,[],_,_,_,h,_,_,_,_=>by simp at h
 | (off,sz,u)::ps,(i,q)::qs,cs,cI,xs,hl,hp,hv,hc,h=>by
   simp only[dm] at h
   split at h
   · rename_i uP
     obtain⟨h1,h2,h3⟩:=uP
     obtain⟨C4,bQ⟩:=hp 0 _ _ rfl rfl
     simp only at C4 bQ
     have V4:q.cells.size=sz:=by rw[bQ.dE h3,h1]
     have hlen:=hv.length
     rw[bX xs] at hlen
     have gl:off+q.cells.size≤xs.size:=by omega
     have uQ:=uO (x:=q) (cs:=xs) gl
     have B0:aj X μ (cs.take off++u.cells++cs.drop (off+sz)) (q.cells.zipIdx.foldl (fun cs (p:Value×Nat)=>cs.setIfInBounds (off+p.2) p.1) xs).toList:=by
      rw[uQ]
      have:=((aj.take off hv).append (bQ.cells h3)).append (aj.drop (off+sz) hv)
      simpa [cG,V4] using this
     have yb: (cs.take off++u.cells++cs.drop (off+sz)).all V.aI=true:=by
      have t1:=iO (p:=V.aI) off hc
      have t2:=j7 (p:=V.aI) (off+sz) hc
      simp only[List.all_append,t1,bQ.pj h3,t2,Bool.and_self]
     obtain⟨FN,g1,g2,g3⟩:=xe (place:=place) (ps:=ps) (qs:=qs) (by simpa using hl) (fun j p q' hj FO=>hp (j+1) p q' (by simpa using hj) (by simpa using FO)) B0 yb h
     refine⟨FN,?_,g2,g3⟩
     have yS: ¬ (q.cells.size≠sz∨xs.size<off+q.cells.size):=by omega
     simp only[Instr.fill,C4]
     rw[if_neg (by simpa using yS)]
     exact g1
   · simp at h
end
end Go.AM
namespace Go.AM
open Go Go.RowKit
theorem nI {α β:Type} {P:Program} {w:World} {f:α→Sem β} {g:α→β}: ∀ (l:List α),(∀x ∈ l,(f x).run P w= .ok (g x) w)→(l.mapM f).run P w= .ok (l.map g) w
 | [],_=>by simp
 | x::l,h=>by
   have h1:=h x (by simp)
   have h2:=nI (f:=f) (g:=g) l fun y hy=>h y (by simp[hy])
   simp[List.mapM_cons,Sem.run_bind,h1,h2]
theorem s7 {α β:Type} {P:Program} {w:World} {f:α→Sem β} {g:α→β} (l:Array α) (h: ∀x ∈ l.toList,(f x).run P w= .ok (g x) w): (l.mapM f).run P w= .ok (l.map g) w:=by
 have:=nI l.toList h
 rw[Array.mapM_eq_mapM_toList]
 simp only[map_eq_pure_bind,Sem.run_bind,this,Result.andThen_ok,Sem.run_pure]
 congr 1
 apply Array.ext';simp
section
variable {X:Ctx} {E:Env} {C:bb} {o:Oper} {a:Go.Act} {T:Nat→V} {μ:Mu} {v:V} {σ':St}
theorem q8: ∀ (ps:List (Nat×Nat×aP)) (k:List (Nat×Nat×V)→Act) (σ:St),(eB ps k).run C σ=(k (ps.map fun p=> (p.1,p.2.1,bc σ p.2.2))).run C σ
 | [],_,_=>rfl
 | (_,_,x)::ps,k,σ=>by simp only[eB,bo,q8 ps,List.map_cons]
theorem q9 (hr:Rel X T a μ) (O:Nat→Obj) {place:Nat→Option (Nat×Nat)}: ∀ {ps:List (Nat×Operand)} {as:List (Nat×Nat×aP)},iJ X place ps=some as→
   as.length=ps.length∧ ∀ (i:Nat) p q,as[i]? =some p→ps[i]? =some q→place q.1=some (p.1,p.2.1)∧ak X μ (bc ⟨T,O⟩ p.2.2) (a.eval q.2)
 | [],as,h=>by simp[iJ] at h;subst h;simp
 | (i,x)::ps,as,h=>by
   simp only[iJ] at h
   split at h
   · rename_i off sz y UJ h1 h2 h3
     injection h with h;subst h
     obtain⟨k1,k2⟩:=q9 hr O h3
     refine⟨by simp[k1],fun j p q hp hq=> ?_⟩
     cases j with
     | zero=>simp at hp hq;subst hp;subst hq;exact⟨h1,aO hr h2 O⟩
     | succ j=>exact k2 j p q (by simpa using hp) (by simpa using hq)
   · simp at h
theorem s8 (ks:List Nat) (hr:Rel X T a μ) {t:TypeId} {z:List V} (hz:dX X t=some (.agg z)) {place:Nat→Option (Nat×Nat)} {parts:Array (Nat×Operand)} {as:List (Nat×Nat×aP)}
   (hp:iJ X place parts.toList=some as) (ah: (ar E (.build (vx ks z) as)).run C ⟨T,μ.O⟩=some (v,σ')):
   σ'=⟨T,μ.O⟩∧ ∃zv cells,(zeroValue t).run X.P μ.w= .ok zv μ.w∧Instr.fill place zv.cells (parts.map fun (i,x)=> (i,a.eval x)).toList=some cells∧ak X μ v (.agg cells):=by
 simp only[ar,q8] at ah
 obtain⟨zv,tN,uM⟩:=fZ hz μ.w
 obtain⟨sY,_⟩:=eh (X:=X) (μ:=μ) uM
 simp only[ak] at sY
 obtain⟨h0,xs,rfl,zx⟩:=sY
 obtain⟨l1,l2⟩:=q9 hr μ.O hp
 split at ah
 · rename_i cs c7
   obtain⟨rfl,rfl⟩:=aS ah
   have key:=xe (X:=X) (μ:=μ) (place:=place) (ps:=as.map fun p=> (p.1,p.2.1,bc ⟨T,μ.O⟩ p.2.2)) (qs:=(parts.map fun (i,x)=> (i,a.eval x)).toList) (xs:=xs)
    (by simp[l1]) (fun j p q hp hq=>by
      simp only[List.getElem?_map,Option.map_eq_some_iff] at hp
      obtain⟨p',yf,rfl⟩:=hp
      rw[Array.toList_map,List.getElem?_map,Option.map_eq_some_iff] at hq
      obtain⟨q',C5,rfl⟩:=hq
      exact l2 j p' q' yf C5) (zx.vx ks) (ot ks h0) c7
   obtain⟨FN,g1,g2,g3⟩:=key
   exact⟨rfl,_,FN,tN,g1,by simp only[ak];exact⟨g3,FN,rfl,g2⟩⟩
 · exact absurd ah an
theorem Bi (ks:List Nat) {t:TypeId} {parts:Array (Nat×Operand)} {z:List V} {fs:Array Field} {as:List (Nat×Nat×aP)} (hr:Rel X T a μ) (ho:o.op= .build t parts) (hz:dX X t=some (.agg z))
  (hd:bg X t=some (.struct fs)) (oX:fs.toList.all (fun f=> (bz X f.type).isSome)=true)
  (hp:iJ X (fun i=>match fs[i]? with| some f=> (bz X f.type).map fun s=> (f.offset,s) | none=>none) parts.toList=some as)
  (ah: (ar E (.build (vx ks z) as)).run C ⟨T,μ.O⟩=some (v,σ')):σ'.T=T∧cF X o a μ σ'.O v:=by
 obtain⟨rfl,zv,cells,h1,h2,h3⟩:=s8 ks hr hz hp ah
 refine⟨rfl,aG hr.aX ?_ h3⟩
 simp only[execOp,ho]
 refine b9 ?_
 have lr:X.P.underlying t=some (.struct fs):=hd
 have hm:=s7 (P:=X.P) (w:=μ.w) (f:=fun f:Field=>do pure (f.offset,←sizeOf f.type)) (g:=fun f:Field=> (f.offset,(bz X f.type).getD 0)) fs (fun f hf=>by
  simp only[List.all_eq_true] at oX
  obtain⟨s,hs⟩:=Option.isSome_iff_exists.1 (oX f hf)
  simp[Sem.run_bind,cU hs,hs])
 have GF: (fun (i:Nat)=> (fs.map fun (f:Field)=> (f.offset,(bz X f.type).getD 0))[i]?)=fun (i:Nat)=>match fs[i]? with| some f=> (bz X f.type).map fun s=> (f.offset,s) | none=>none:=by
  funext i
  rw[Array.getElem?_map]
  cases hf:fs[i]? with
  | none=>rfl
  | some f=>
    simp only[List.all_eq_true] at oX
    obtain⟨s,hs⟩:=Option.isSome_iff_exists.1 (oX f (by simpa using Array.mem_of_getElem? hf))
    simp[hs]
 simp only[Instr.build,Sem.run_bind,h1,Result.andThen_ok,run_underlying lr,hm,GF,h2,Sem.run_pure]
theorem Bj (ks:List Nat) {t e:TypeId} {n s:Nat} {parts:Array (Nat×Operand)} {z:List V} {as:List (Nat×Nat×aP)} (hr:Rel X T a μ) (ho:o.op= .build t parts) (hz:dX X t=some (.agg z))
  (hd:bg X t=some (.array n e)) (hs:bz X e=some s) (hp:iJ X (fun i=>some (i*s,s)) parts.toList=some as)
  (ah: (ar E (.build (vx ks z) as)).run C ⟨T,μ.O⟩=some (v,σ')):σ'.T=T∧cF X o a μ σ'.O v:=by
 obtain⟨rfl,zv,cells,h1,h2,h3⟩:=s8 ks hr hz hp ah
 refine⟨rfl,aG hr.aX ?_ h3⟩
 simp only[execOp,ho]
 refine b9 ?_
 have lr:X.P.underlying t=some (.array n e):=hd
 simp only[Instr.build,Sem.run_bind,h1,Result.andThen_ok,run_underlying lr,cU hs,h2,Sem.run_pure]
theorem nJ (hr:Rel X T a μ): ∀ {ps:List (Nat×Operand)} {as:List (Nat×aP)} {k:List (Nat×V)→Act} {O:Nat→Obj} {p:V×St},fV X ps=some as→Le μ ⟨μ.w,μ.φ,O⟩→bj X ⟨μ.w,μ.φ,O⟩→
   (dK as k).run C ⟨T,O⟩=some p→
   ∃vs O',(k vs).run C ⟨T,O'⟩=some p∧vs.length=ps.length∧Le ⟨μ.w,μ.φ,O⟩ ⟨μ.w,μ.φ,O'⟩∧bj X ⟨μ.w,μ.φ,O'⟩∧
     ∀ (i:Nat) q q',vs[i]? =some q→ps[i]? =some q'→q.1=q'.1∧ak X ⟨μ.w,μ.φ,O'⟩ q.2 (a.eval q'.2)
 | [],as,k,O,p,h,le,ho,ah=>by
   simp[fV] at h;subst h
   exact⟨[],O,ah,rfl,Le.refl _,ho,by simp⟩
 | (i,x)::ps,as,k,O,p,h,le,ho,ah=>by
   simp only[fV] at h
   split at h
   · rename_i y UJ h1 h2
     injection h with h;subst h
     simp only[dK,bo] at ah
     have hx:ak X ⟨μ.w,μ.φ,O⟩ (bc ⟨T,O⟩ y) (a.eval x):=by
      have:=ak.mono le (aO hr h1 O)
      exact this
     obtain⟨u,O1,k1,k2,k3,k4⟩:=ka (μ:=μ) ho hx ah
     obtain⟨vs,O2,g1,g2,g3,g4,g5⟩:=nJ hr h2 (le.trans k3) k4 k1
     refine⟨(i,u)::vs,O2,g1,by simp[g2],k3.trans g3,g4,fun j q q' hq C5=> ?_⟩
     cases j with
     | zero=>simp at hq C5;subst hq;subst C5;exact⟨rfl,ak.mono g3 k2⟩
     | succ j=>exact g5 j q q' (by simpa using hq) (by simpa using C5)
   · simp at h
theorem qv {α:Type} (L:List α) (i:Nat) (x:α) (h:i<L.length):L.set i x=L.take i++[x]++L.drop (i+1):=by
 rw[nH L i x h];rfl
theorem nK {sz:Nat}: ∀ {vs:List (Nat×V)} {qs:List (Nat×Value)} {es es':List V} {us:List Value} {c:Array Value},vs.length=qs.length→
   (∀ (i:Nat) p q,vs[i]? =some p→qs[i]? =some q→p.1=q.1∧ak X μ p.2 q.2)→aj X μ es us→dh c.toList 0 sz us→c.size=us.length*sz→es.all (aN · sz)=true→
   b8 sz es vs=some es'→ ∃c' D7,Instr.fill (fun i=>some (i*sz,sz)) c qs=some c'∧aj X μ es' D7∧dh c'.toList 0 sz D7∧c'.size=D7.length*sz∧
     es'.all (aN · sz)=true∧es'.length=es.length
 | [],[],es,es',us,c,_,_,hv,hs,hc,hb,h=>by
   simp[b8] at h;subst h
   exact⟨c,us,rfl,hv,hs,hc,hb,rfl⟩
 | [],_::_,_,_,_,_,h,_,_,_,_,_,_=>by simp at h
 | _::_,[],_,_,_,_,h,_,_,_,_,_,_=>by simp at h
 | (i,u)::vs,(i',q)::qs,es,es',us,c,hl,hp,hv,hs,hc,hb,h=>by
   simp only[b8] at h
   split at h
   · rename_i uP
     obtain⟨hi,oh⟩:=uP
     obtain⟨e1,bQ⟩:=hp 0 _ _ rfl rfl
     simp only at e1 bQ
     subst e1
     obtain⟨kb,vN⟩:=b7 oh
     have V4:q.cells.size=sz:=by rw[bQ.dE kb,vN]
     have YL:i<us.length:=by rw[←hv.length];exact hi
     have hmul: (i+1)*sz≤us.length*sz:=Nat.mul_le_mul_right _ (by omega)
     rw[Nat.add_mul] at hmul
     have gl:i*sz+q.cells.size≤c.size:=by omega
     have uQ:=uO (x:=q) (cs:=c) gl
     have QJ:flat [q]=q.cells.toList:=by simp[flat]
     have hw:=hs.write (k:=i) (us:=[q]) (by omega) (by simpa using V4) (by rw[bX];simp;omega)
     rw[QJ,Nat.zero_add] at hw
     have je:us.take i++[q]++us.drop (i+[q].length)=us.set i q:=(qv us i q YL).symm
     rw[je,←uQ] at hw
     have cE: (q.cells.zipIdx.foldl (fun cs (p:Value×Nat)=>cs.setIfInBounds (i*sz+p.2) p.1) c).size=(us.set i q).length*sz:=by
      rw[←bX,uQ,ew (by rw[bX,bX];exact gl),bX];simpa using hc
     have V5: (es.set i u).all (aN · sz)=true:=by
      simp only[List.all_eq_true] at hb ⊢
      intro y hy
      rcases List.mem_or_eq_of_mem_set hy with hm| rfl
      · exact hb y hm
      · exact oh
     obtain⟨c',D7,g1,g2,g3,g4,g5,g6⟩:=nK (vs:=vs) (qs:=qs) (by simpa using hl) (fun j p q' hj FO=>hp (j+1) p q' (by simpa using hj) (by simpa using FO)) (aj.set hv i bQ) hw cE V5 h
     refine⟨c',D7,?_,g2,g3,g4,g5,by simpa using g6⟩
     have yS: ¬ (q.cells.size≠sz∨c.size<i*sz+q.cells.size):=by omega
     simp only[Instr.fill]
     rw[if_neg (by simpa using yS)]
     exact g1
   · simp at h
theorem jl {t e:TypeId} {n sz r:Nat} {parts:Array (Nat×Operand)} {z:V} (hr:Rel X T a μ) (ho:o.op= .buildSlice t n parts) (hd:bg X t=some (.slice e))
   (hn:bz X e=some sz) (hz:dX X e=some z) (Mc: ∃vs O',(match b8 sz (List.replicate n z) vs with
     | some es=>if aN z sz &&decide (0 <sz∧n*sz≤16777216) then AM.Act.bR r fun o=>AM.Act.bC r {gen:=o.gen+1,sz,arr:=true,fz:=false,es:=some es} (.done (.sl r (o.gen+1) 0 n)) else AM.Act.fail
     | none=>AM.Act.fail).run C ⟨T,O'⟩=some (v,σ')∧vs.length=parts.toList.length∧Le μ ⟨μ.w,μ.φ,O'⟩∧bj X ⟨μ.w,μ.φ,O'⟩∧
     ∀ (i:Nat) q q',vs[i]? =some q→parts.toList[i]? =some q'→q.1=q'.1∧ak X ⟨μ.w,μ.φ,O'⟩ q.2 (a.eval q'.2)):σ'.T=T∧cF X o a μ σ'.O v:=by
 obtain⟨vs,O1,k1,k2,k3,k4,k5⟩:=Mc
 split at k1
 · rename_i es bJ
   split at k1
   · rename_i hc
     simp only[Bool.and_eq_true,decide_eq_true_eq] at hc
     obtain⟨C6,cE,xf⟩:=hc
     simp only[Act.run,Option.some.injEq,Prod.mk.injEq] at k1
     obtain⟨rfl,rfl⟩:=k1
     refine⟨rfl,?_⟩
     obtain⟨zv,tN,uM⟩:=fZ hz μ.w
     obtain⟨sY,C1⟩:=eh (X:=X) (μ:=⟨μ.w,μ.φ,O1⟩) uM
     have C2:zv.cells.size=sz:=by rw[sY.dE C1,(b7 C6).2]
     obtain⟨q1,q2⟩:=q6 (n:=n) C2
     have YM: (List.replicate n z).all (aN · sz)=true:=by
       simp only[List.all_eq_true,List.mem_replicate]
       rintro y ⟨_,rfl⟩;exact C6
     obtain⟨c',D7,g1,g2,g3,g4,g5,g6⟩:=nK (X:=X) (μ:=⟨μ.w,μ.φ,O1⟩) (sz:=sz) (vs:=vs) (qs:=(parts.map fun (i,x)=> (i,a.eval x)).toList) (by simp[k2]) (fun j p q hj hq=>by
       rw[Array.toList_map,List.getElem?_map,Option.map_eq_some_iff] at hq
       obtain⟨q',C5,rfl⟩:=hq
       exact k5 j p q' hj C5) (aj.replicate sY n) q2 (by rw[q1];simp) YM bJ
     have hlen:es.length=n:=by simpa using g6
     have uR:D7.length=n:=by rw[←g2.length];exact hlen
     obtain⟨D8,Md⟩:=vK (X:=X) (μ:=⟨μ.w,μ.φ,O1⟩) k4 r sz n true (es:=es) (vs:=D7) (c:=c') e cE (by omega) g5 g2 (by rw[g4,uR];exact Nat.le_refl _) (fun i u hu=>by
       obtain⟨m1,m2⟩:=g3 i u hu
       exact⟨m1,fun j x hx=>by simpa using m2 j x hx⟩)
     refine⟨.slice (some ⟨μ.w.heap.size,0,none⟩) n n,_,_,.inl ?_,?_,k3.trans D8,Md⟩
     · simp only[execOp,ho]
       refine b9 ?_
       have lr:X.P.underlying t=some (.slice e):=hd
       have QK: ¬n*sz >2 ^ 24:=by
         have: (2:Nat) ^ 24=16777216:=by decide
         omega
       simp only[Instr.buildSlice,Sem.run_bind,run_underlying lr,Result.andThen_ok,cU hn]
       rw[if_neg QK]
       have iw: ∀zero:Array Value,(n*sz=0∨zero=zv.cells)→(Array.range (n*sz)).map (fun i=>zero[i % zero.size]!)=(Array.range (n*sz)).map (fun i=>zv.cells[i % zv.cells.size]!):=by
         rintro zero (h0| rfl)
         · have V2:Array.range 0= #[]:=rfl
           rw[h0,V2];simp
         · rfl
       by_cases Bh:n*sz=0
       · rw[if_pos Bh]
         simp only[Sem.run_bind,Sem.run_pure,Result.andThen_ok]
         rw[iw #[] (.inl Bh),g1]
         simp only[newRow,Sem.run_bind,run_newObj,Result.andThen_ok,Sem.run_pure]
         rfl
       · rw[if_neg Bh]
         simp only[Sem.run_bind,tN,Result.andThen_ok,Sem.run_pure]
         rw[iw zv.cells (.inr rfl),g1]
         simp only[newRow,Sem.run_bind,run_newObj,Result.andThen_ok,Sem.run_pure]
         rfl
     · simp only[ak,aA]
       exact⟨_,_,rfl,Nat.le_refl _,Nat.le_refl _,fun _=> ⟨cE,by simp,by simp⟩⟩
   · exact absurd k1 an
 · exact absurd k1 an
theorem nL {t e:TypeId} {n sz r:Nat} {parts:Array (Nat×Operand)} {z:V} {as:List (Nat×aP)} (hr:Rel X T a μ) (ho:o.op= .buildSlice t n parts) (hd:bg X t=some (.slice e))
  (hn:bz X e=some sz) (hz:dX X e=some z) (hp:fV X parts.toList=some as) (ah: (ar E (.buildSlice r sz z n as)).run C ⟨T,μ.O⟩=some (v,σ')):σ'.T=T∧cF X o a μ σ'.O v:=by
 simp only[ar] at ah
 exact jl hr ho hd hn hz (nJ hr hp (Le.refl μ) hr.aX ah)
theorem mm (hr:Rel X T a μ): ∀ {ps:List (Nat×Operand)} {as:List (Nat×aP)} {k:List (Nat×V)→Act} {p:V×St},fV X ps=some as→
   (hN as k).run C ⟨T,μ.O⟩=some p→
   ∃vs,(k vs).run C ⟨T,μ.O⟩=some p∧vs.length=ps.length∧
     ∀ (i:Nat) q q',vs[i]? =some q→ps[i]? =some q'→q.1=q'.1∧ak X μ q.2 (a.eval q'.2)
 | [],as,k,p,h,ah=>by
   simp[fV] at h;subst h
   exact⟨[],ah,rfl,by simp⟩
 | (i,x)::ps,as,k,p,h,ah=>by
   simp only[fV] at h
   split at h
   · rename_i y UJ h1 h2
     injection h with h;subst h
     simp only[hN,bo] at ah
     have hx:=aO hr h1 μ.O
     obtain⟨vs,g1,g2,g5⟩:=mm hr h2 ah
     refine⟨(i,_)::vs,g1,by simp[g2],fun j q q' hq C5=> ?_⟩
     cases j with
     | zero=>simp at hq C5;subst hq;subst C5;exact⟨rfl,hx⟩
     | succ j=>exact g5 j q q' (by simpa using hq) (by simpa using C5)
   · simp at h
theorem s9 {t e:TypeId} {n sz r:Nat} {parts:Array (Nat×Operand)} {z:V} {as:List (Nat×aP)} (hr:Rel X T a μ) (ho:o.op= .buildSlice t n parts) (hd:bg X t=some (.slice e))
  (hn:bz X e=some sz) (hz:dX X e=some z) (hp:fV X parts.toList=some as) (ah: (ar E (.fD r sz z n as)).run C ⟨T,μ.O⟩=some (v,σ')):σ'.T=T∧cF X o a μ σ'.O v:=by
 simp only[ar] at ah
 obtain⟨vs,g1,g2,g3⟩:=mm hr hp ah
 exact jl hr ho hd hn hz ⟨vs,μ.O,g1,g2,Le.refl μ,hr.aX,g3⟩
theorem td {t e:TypeId} {n sz r ix:Nat} {parts:Array (Nat×Operand)} {z:V} {as:List (Nat×aP)} (hr:Rel X T a μ) (ho:o.op= .buildSlice t n parts) (hd:bg X t=some (.slice e))
  (hn:bz X e=some sz) (hz:dX X e=some z) (hp:fV X parts.toList=some as) (ah: (ar E (.fC ix r sz z n as)).run C ⟨T,μ.O⟩=some (v,σ')):σ'.T=T∧cF X o a μ σ'.O v:=by
 have h: (match bc ⟨T,μ.O⟩ (.tmp ix) with| .int _ j=>Gr (r+16*j.toNat) sz z n as| _=> .fail).run C ⟨T,μ.O⟩=some (v,σ'):=ah
 split at h
 · exact nL (E:=E) (r:=_) hr ho hd hn hz hp h
 · exact absurd h an
theorem Bk {x:Operand} {t0 t:TypeId} {ok:Bool} {x':aP} {n:Nat} {z:V} (hr:Rel X T a μ) (ho:o.op= .typeAssert x t0 t ok) (lI: ∀t1 t2 k,X.iv t1=some k→X.iv t2=some k→t1=t2)
   (hn:X.iv t=some n) (h1:cK X x=some x') (hz:dX X t=some z) (hd: ∃d,bg X t=some d∧ ∀ms,d≠ .interface ms)
   (ah: (ar E (.assert n ok z x')).run C ⟨T,μ.O⟩=some (v,σ')):σ'.T=T∧cF X o a μ σ'.O v:=by
 simp only[ar,bo] at ah
 have hx:=aO hr h1 μ.O
 obtain⟨d,Ba,BV⟩:=hd
 have K5:X.P.underlying t=some d:=Ba
 obtain⟨zv,tN,uM⟩:=fZ hz μ.w
 obtain⟨sY,_⟩:=eh (X:=X) (μ:=μ) uM
 have fin: ∀val,(Instr.typeAssert (a.eval x) t0 t ok).run X.P μ.w= .ok val μ.w→(execOp a.eval o).run X.P μ.w= .ok (.value val) μ.w:=fun val hv=>by
   simp only[execOp,ho]
   exact b9 hv
 split at ah
 · rename_i e
   rw[e] at hx;simp only[ak] at hx
   split at ah
   · rename_i QL
     obtain⟨rfl,rfl⟩:=aS ah
     refine⟨rfl,aG (val:= .tuple #[zv,.bool false]) hr.aX (fin _ ?_) ?_⟩
     · simp only[Instr.typeAssert,Sem.run_bind,run_underlying K5,Result.andThen_ok,hx]
       cases d<;>first| exact absurd rfl (BV _) | simp[QL,Sem.run_bind,tN]
     · simp only[ak];exact⟨_,rfl,by simp[aj,ak,sY]⟩
   · exact absurd ah an
 · rename_i t' u e
   rw[e] at hx;simp only[ak] at hx
   obtain⟨t1,y,hy,Fm,bQ⟩:=hx
   split at ah
   · rename_i V6
     obtain⟨rfl,rfl⟩:=aS ah
     have V7:t1=t:=lI t1 t n (by rw[Fm,V6]) hn
     refine⟨rfl,aG (val:=if ok then .tuple #[y,.bool true] else y) hr.aX (fin _ ?_) ?_⟩
     · simp only[Instr.typeAssert,Sem.run_bind,run_underlying K5,Result.andThen_ok,hy]
       cases d<;>first| exact absurd rfl (BV _) | simp[V7]
     · cases ok
       · simpa using bQ
       · simp only[if_true,ak];exact⟨_,rfl,by simp[aj,ak,bQ]⟩
   · rename_i V6
     split at ah
     · rename_i QL
       obtain⟨rfl,rfl⟩:=aS ah
       have V7:t1≠t:=fun e=>V6 (by rw[e,hn] at Fm;injection Fm with Fm;exact Fm.symm)
       refine⟨rfl,aG (val:= .tuple #[zv,.bool false]) hr.aX (fin _ ?_) ?_⟩
       · simp only[Instr.typeAssert,Sem.run_bind,run_underlying K5,Result.andThen_ok,hy]
         cases d<;>first| exact absurd rfl (BV _) | simp[V7,QL,Sem.run_bind,tN]
       · simp only[ak];exact⟨_,rfl,by simp[aj,ak,sY]⟩
     · exact absurd ah an
 · exact absurd ah an
end
end Go.AM
