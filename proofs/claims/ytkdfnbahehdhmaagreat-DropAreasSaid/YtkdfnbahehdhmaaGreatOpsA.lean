/-
  Texts of the proof, joined by program: AmTr, AmRel, AmObj, AmOps1, AmEq, AmOps2, AmOps3, AmOps4, AmRow, AmOps5, AmOps6, AmOps7. Own work.
-/
import Derived.Test.YtkdfnbahehdhmaaGreatDefs
import Derived.Calls
import Derived.Orders
import Derived.Below
import Derived.Laws.Cells
import Derived.Laws.Rows
import Derived.Laws.Tables
import Derived.Laws.CopyRow
import Derived.ChangeKeysEq
import Derived.Laws.StructEq
import Derived.IntWalk
set_option linter.unusedSimpArgs false
set_option linter.unusedVariables false
namespace Go.AM
structure Hints where
 rA:List (Option Nat):=[]
 bk:List Nat:=[]
 name:List (Nat×Nat):=[]
 lits:List (Nat×List Nat):=[]
 VA:List (Nat×Nat×Nat):=[]
 VB:List (Nat×Nat×Nat):=[]
 dyn:List (Nat×Nat):=[]
 bZ:List Nat:=[]
 deep:List Nat:=[]
 VC:List Nat:=[]
 tag:Option (Nat×Nat):=none
 keys:List (Nat×List Nat×List Nat):=[]
 n:Nat:=0
structure TrEnv where
 P:Program
 ig:FuncId→Option Nat
 gq:TypeId→Option Nat
variable (X:TrEnv)
def lP:Value→Option V
 | .bool b=>some (.bool b)
 | .int k n=>some (.int k n)
 | .float .f64 b=>some (.float b)
 | .string s=>some (.str s.data.toList)
 | .pointer none=>some .nilp
 | .slice none 0 0=>some .nils
 | .map none=>some (.mlit [])
 | .nilFunc=>some .nilfn
 | .nilIface=>some .nili
 | _=>none
def ij:List Value→Option (List V)
 | []=>some []
 | v::vs=>match lP v,ij vs with
   | some c,some cs=>some (c::cs)
   | _,_=>none
def rL:Value→Option V
 | .agg cs=> (ij cs.toList).map .agg
 | v=>lP v
def info (t:TypeId):Option TypeInfo:=X.P.info? t
def ba (t:TypeId):Option Nat:=(info X t).map (·.size)
def aR (t:TypeId):Option TypeDesc:=X.P.underlying t
def eX (t:TypeId):Option Bool:=(aR X t).map fun| .struct _=>true| .array .. =>true| _=>false
def dq (t:TypeId):Option V:=(info X t).bind fun i=>i.zero.bind rL
def cm:Operand→Option aI
 | .tmp t=>some (.tmp t)
 | .const v=> (rL v).map .const
 | .func f=> (X.ig f).map fun n=> .const (.fn n [])
 | .global _=>none
def nZ:List Operand→Option (List aI)
 | []=>some []
 | o::os=>match cm X o,nZ os with
   | some a,some as=>some (a::as)
   | _,_=>none
def pA:Option Operand→Option (Option aI)
 | none=>some none
 | some o=> (cm X o).map some
mutual
def je:Nat→TypeId→Option (List Nat)
 | 0,_=>none
 | d+1,t=>match aR X t with
   | some .bool=>if ba X t=some 1 then some [0] else none
   | some (.int _)=>if ba X t=some 1 then some [1] else none
   | some .string=>if ba X t=some 1 then some [2] else none
   | some (.struct fs)=>if X.P.stoodInHeld t=false then(match pB d fs.toList 0 with
      | some ks=>if ba X t=some ks.length then some ks else none
      | none=>none) else none
   | some (.array n e)=>if eX X e=some false∧ba X t=some n then(match je d e with
      | some [k]=>some (List.replicate n k)
      | _=>none) else none
   | _=>none
def pB:Nat→List Field→Nat→Option (List Nat)
 | 0,_,_=>none
 | _+1,[],_=>some []
 | d+1,f::fs,off=>if f.name≠ "_" ∧f.offset=off then match je d f.type with
    | some ks=>match pB d fs (off+ks.length) with
      | some F3=>some (ks++F3)
      | none=>none
    | none=>none
   else none
end
def gK (place:Nat→Option (Nat×Nat)):List (Nat×Operand)→Option (List (Nat×Nat×aI))
 | []=>some []
 | (i,o)::ps=>match place i,cm X o,gK place ps with
   | some (off,sz),some a,some as=>some ((off,sz,a)::as)
   | _,_,_=>none
def eY:List (Nat×Operand)→Option (List (Nat×aI))
 | []=>some []
 | (i,o)::ps=>match cm X o,eY ps with
   | some a,some as=>some ((i,a)::as)
   | _,_=>none
def eZ (t:Nat):Nat:=16*(t+1)
def nameOf (h:Hints) (dst:Nat):Nat:=((h.name.find? (·.1==dst)).map (·.2)).getD (eZ dst)
def Hg (ks:List Nat):aI→aI
 | .const v=> .const (yf ks v)
 | x=>x
def QV (h:Hints) (dst:Nat):Option Nat:=(h.dyn.find? (·.1==dst)).map (·.2)
def mS (h:Hints) (dst:Nat):List Nat:=((h.lits.find? (·.1==dst)).map (·.2)).getD []
def QW (h:Hints) (dst:Nat):Option (Nat×Nat):=(h.VA.find? (·.1==dst)).map (·.2)
def isNil:Operand→Bool
 | .const (.slice none 0 0)=>true
 | _=>false
def QX (h:Hints) (dst:Nat) (x:Operand):Option Nat:=match x with
 | .tmp t=> (h.VB.find? (fun p=>p.1==dst &&p.2.1==t)).map (·.2.2)
 | _=>none
def rM (h:Hints) (dst:Nat) (x:Operand):Option oS:=
 match isNil x,QW h dst with
 | true,some (r,sz)=>some (.b7 r sz)
 | _,_=>match QX h dst x with
   | some r=> (cm X x).map fun y=> .nk r y
   | none=> (cm X x).map fun y=> .move (Hg (mS h dst) y)
def ml (bytes:Nat):Nat:=140737488355328 / (bytes+1) - 200
def rN (h:Hints) (dst:Nat) (c:Call):Option oS:=
 match c.callee with
 | .value f=>match cm X f,nZ X c.args.toList with
   | some f,some as=>some (.call (eZ dst) (h.bk.contains dst) f as)
   | _,_=>none
 | .invoke .. =>none
 | .builtin b=>match b,c.args.toList,c.argTypes.toList with
   | .len,[x],[t]=>match cm X x,aR X t with
     | some x,some (.slice _)=>some (.len x)
     | some x,some .string=>some (.rC x)
     | some _,some (.array n _)=>some (.move (.const (.int .i64 n)))
     | _,_=>none
   | .min,xs,_=> (nZ X xs).map .min
   | .max,xs,_=> (nZ X xs).map .max
   | .append,[s,x],[t,t']=>match cm X s,cm X x,aR X t,aR X t' with
     | some s,some x,some (.slice e),some d=>match ba X e,info X e,dq X e,d with
       | some sz,some i,some z,.slice _| some sz,some i,some z,.string=>if aH z sz then some (if h.bZ.contains dst then .nL (nameOf h dst) sz (ml i.bytes) s x else .append (nameOf h dst) sz (ml i.bytes) s x) else none
       | _,_,_,_=>none
     | _,_,_,_=>none
   | .copy,[d,s],[t,_]=>match cm X d,cm X s,aR X t with
     | some d,some s,some (.slice e)=> (ba X e).map fun sz=> .copy sz d s
     | _,_,_=>none
   | .clear,[x],[t]=>match cm X x,aR X t with
     | some x,some (.slice e)=>match ba X e,dq X e with
       | some sz,some z=>some (.clear sz z x)
       | _,_=>none
     | _,_=>none
   | _,_,_=>none
def CV:BinOp→Bool
 | .eql=>true
 | .neq=>true
 | _=>false
def eL:BinOp→Bool
 | .neq=>true
 | _=>false
def qW:List (Nat×Nat):=(List.range 40).filterMap fun T=>match X.gq T,(X.P.info? T).map (·.comparable),aR X T with
 | some t,some true,some .bool=>some (t,0)
 | some t,some true,some (.int _)=>some (t,1)
 | some t,some true,some .string=>some (t,2)
 | _,_,_=>none
def z7 (op:BinOp) (t:TypeId) (x y:aI):Option oS:=
 if CV op then match aR X t with
  | some .bool=>some (.MW (eL op) x y)
  | some (.int _) | some .string=>some (.bin op x y)
  | some (.interface _)=>some (.MX (eL op) (qW X) x y)
  | some (.pointer e)=> (match ba X e with
    | some (_+1)=>some (.HQ (eL op) x y)
    | _=>none)
  | some (.struct _)=>if X.P.eqGuardType X.P.depth t=false then(je X 100 t).map fun ks=> .yy (eL op) ks x y else none
  | some (.array _ _)=>if X.P.eqGuardType X.P.depth t=false then(je X 100 t).map fun ks=> .yy (eL op) ks x y else none
  | _=>none
 else some (.bin op x y)
def n0 (kt:TypeId):Option (Option IntKind):=match aR X kt with
 | some (.int k)=>some (some k)
 | some .string=>some none
 | _=>none
def td (h:Hints) (dst:Nat):Op→Option oS
 | .move x| .assign x=>if h.deep.contains dst then(cm X x).map .deep else if h.VC.contains dst then(cm X x).map .uW else rM X h dst x
 | .pick c a b=>match cm X c,cm X a,cm X b with
   | some c,some a,some b=>some (.pick c a b)
   | _,_,_=>none
 | .alloc t=>match ba X t,dq X t with
   | some sz,some z=>some (.new (eZ dst) sz (.const (yf (mS h dst) z)))
   | _,_=>none
 | .box t x=>match ba X t,cm X x with
   | some sz,some x=>some (.new (eZ dst) sz (Hg (mS h dst) x))
   | _,_=>none
 | .build t ps=>match dq X t,aR X t with
   | some (.agg z),some (.struct fs)=>if !fs.toList.all (fun f=> (ba X f.type).isSome) then none else(gK X (fun i=>match fs[i]? with| some f=> (ba X f.type).map fun s=> (f.offset,s) | none=>none) ps.toList).map (.build (u6 (mS h dst) z))
   | some (.agg z),some (.array _ e)=>match ba X e with
     | some s=> (gK X (fun i=>some (i*s,s)) ps.toList).map (.build (u6 (mS h dst) z))
     | none=>none
   | _,_=>none
 | .buildSlice t n ps=>match aR X t with
   | some (.slice e)=>match ba X e,dq X e,eY X ps.toList with
     | some sz,some z,some as=>some (match QV h dst with| some ix=> .gh ix (16000000+eZ dst) sz z n as| none=>if h.bZ.contains dst then .gi (eZ dst) sz z n as else .buildSlice (eZ dst) sz z n as)
     | _,_,_=>none
   | _=>none
 | .load t x=>match eX X t,ba X t,cm X x with
   | some a,some sz,some x=>some (if (mS h dst).isEmpty then .load a sz x else .rD (mS h dst) a sz x)
   | _,_,_=>none
 | .store t x v=>match eX X t,ba X t,cm X x,cm X v with
   | some a,some sz,some x,some v=>some (.store a sz x v)
   | _,_,_,_=>none
 | .nilCheck x=> (cm X x).map .nilCheck
 | .binOp op t x y _=>match cm X x,cm X y with
   | some x,some y=>z7 X op t x y
   | _,_=>none
 | .unOp op _ x=> (cm X x).map (.un op)
 | .convert s d x=>match aR X s,aR X d,cm X x with
   | some (.int _),some (.int k),some x=>some (.c8 k x)
   | some (.int _),some (.float .f64),some x=>some (.pf x)
   | some (.float .f64),some (.int k),some x=>some (.pg k x)
   | some .string,some .string,some x=>some (.nK x)
   | _,_,_=>none
 | .makeInterface t x=>match X.gq t,cm X x,aR X t with
   | some _,some _,some (.interface _)=>none
   | some n,some x,some _=>some (.gG n x)
   | _,_,_=>none
 | .typeAssert x _ t ok=>match X.gq t,cm X x,dq X t,aR X t with
   | some _,some _,some _,some (.interface _)=>none
   | some n,some x,some z,some _=>some (.assert n ok z x)
   | _,_,_,_=>none
 | .makeFunc (.func f) first caps=>if first.isEmpty then match X.ig f,nZ X caps.toList with
     | some n,some cs=>some (.fy n cs)
     | _,_=>none
   else none
 | .makeSlice t l c=>match aR X t with
   | some (.slice e)=>match ba X e,info X e,dq X e,cm X l,cm X c with
     | some sz,some i,some z,some l,some c=>some (.makeSlice (eZ dst) sz i.bytes z l c)
     | _,_,_,_,_=>none
   | _=>none
 | .slice t x lo hi mx=>match aR X t,cm X x,pA X lo,pA X hi,pA X mx with
   | some (.slice e),some x,some lo,some hi,some mx=> (ba X e).map fun sz=> .slice sz x lo hi mx
   | some .string,some x,some lo,some hi,some none=>some (.ia x lo hi)
   | _,_,_,_,_=>none
 | .fieldAddr s x i=>match aR X s,cm X x with
   | some (.struct fs),some x=>match fs[i]? with
     | some f=>match ba X f.type with
       | some (_+1)=>some (.fieldAddr f.offset x)
       | _=>none
     | none=>none
   | _,_=>none
 | .field s x i=>match aR X s,cm X x with
   | some (.struct fs),some x=>match fs[i]? with
     | some f=>match eX X f.type,ba X f.type with
       | some a,some sz=>some (.field a f.offset sz x)
       | _,_=>none
     | none=>none
   | _,_=>none
 | .indexAddr t x i=>match aR X t,cm X x,cm X i with
   | some (.slice e),some x,some i=> (ba X e).map fun sz=> .indexAddr sz x i
   | some (.array n e),some x,some i=> (ba X e).map fun sz=> .aW n sz x i
   | _,_,_=>none
 | .index t x i=>match aR X t,cm X x,cm X i with
   | some .string,some x,some i=>some (.ib x i)
   | some (.array n e),some x,some i=>match eX X e,ba X e with
     | some a,some sz=>some (.ky a n sz x i)
     | _,_=>none
   | _,_,_=>none
 | .extract x i=> (cm X x).map fun x=> .extract x i
 | .makeMap _ none=>some (.mkMap (eZ dst))
 | .range t x=>match aR X t,cm X x with
   | some .string,some x=>some (.nM (eZ dst) x)
   | some (.map _ _),some x=>some (.mapIter (eZ dst) x)
   | _,_=>none
 | .next x true=> (cm X x).map .nN
 | .lookup t x i ok=>match aR X t,cm X x,cm X i with
   | some (.map kt et),some x,some i=>match n0 X kt,dq X et with
     | some q,some z=>some (.rE q ok z x i)
     | _,_=>none
   | _,_,_=>none
 | .mapUpdate t m k v=>match aR X t,cm X m,cm X k,cm X v with
   | some (.map kt _),some m,some k,some v=> (n0 X kt).map fun q=> .ph q m k v
   | _,_,_,_=>none
 | .insert t m k v=>match aR X t,cm X m,cm X k,cm X v with
   | some (.map kt _),some m,some k,some v=> (n0 X kt).map fun q=> .ph q m k v
   | _,_,_,_=>none
 | .call c=>rN X h dst c
 | _=>none
def kJ (h:Hints) (ops:Array Oper) (o:Oper):Option aX:=
 let g:Option (Option (Nat×Bool)):=match o.guard with
  | none=>some none
  | some (j,want)=>match (ops[j]?).bind (·.dst) with
    | some d=>some (some (d,want))
    | none=>none
 match g,o.dst.all (· <h.n) with
 | some g,true=>some {dst:=o.dst,op:=(td X h (o.dst.getD 0) o.op).getD .bad,guard:=g,pre:=(o.after.toList.filter (Region.binds .any)).map (·.on)}
 | _,_=>none
def eB (h:Hints) (ops:Array Oper):List Oper→Option (List aX)
 | []=>some []
 | o::os=>match kJ X h ops o,eB h ops os with
   | some a,some as=>some (a::as)
   | _,_=>none
def vh (h:Hints) (a:Code):Option (Nat×Nat×Nat×Nat×List Nat×List Nat):=
 match a with
 | .seq (.region ..) (.block id (.loop (.seq (.region _ ops false) (.seq (.cond ..) (.block _ (.seq (.region _ fb false) _))))))=>match ops[0]?,fb[0]? with
   | some o,some o5=>match o.op,o.dst,o.guard,o5.op,o5.dst,o5.guard with
     | .next (.tmp it) false,some nx,none,.entry (.tmp Y5),some ne,none=> (match h.keys.find? (·.1==nx) with
       | some k=>if nx<h.n∧ne<h.n∧Y5=it then some (it,nx,ne,id,k.2.1,k.2.2) else none
       | none=>none)
     | _,_,_,_,_,_=>none
   | _,_=>none
 | _=>none
def wz:Code→Bool
 | .seq (.region ..) _=>true
 | _=>false
def wA (h:Hints) (a b:Code) (ta tb:an):an:=
 match vh h a,wz b,ta,tb with
 | some (it,nx,ne,id,kT,kO),true,.seq tR (.block _ (.loop (.seq (.region as) (.seq tc (.block b1 (.seq (.region bs) tz)))))),.seq tS rO=> .seq tR (.seq (.keys it nx ne id kT kO (.seq (.region (as.drop 1)) tc) (.block b1 (.seq (.region (bs.drop 1)) tz)) tS) rO)
 | _,_,_,_=> .seq ta tb
def ck (h:Hints):Code→Option an
 | .skip=>some .skip
 | .region _ ops false=> (eB X h ops ops.toList).map fun l=> .region (l.map fun o=> {o with pre:=[]})
 | .region _ ops true=> (eB X h ops ops.toList).map .drawn
 | .seq a b=>match ck h a,ck h b with
   | some ta,some tb=>some (wA h a b ta tb)
   | _,_=>none
 | .cond c a b=>match cm X c,ck h a,ck h b with
   | some c,some a,some b=>some (.cond c a b)
   | _,_,_=>none
 | .block id b=> (ck h b).map (.block id)
 | .loop b=> (ck h b).map .loop
 | .exit id=>some (.exit id)
 | .ret=>some .ret
 | .scope b=> (ck h b).map .scope
 | .rangeFunc f ps a b=>match cm X f,ck h a,ck h b with
   | some f,some a,some b=>if ps.toList.all (fun p=>Nat.blt p h.n)=true then some (.iY f ps.toList a b) else none
   | _,_,_=>none
 | .label _=>some .skip
 | _=>some .bad
def n9:ResultVar→Option nB
 | .tmp t=>some (.tmp t)
 | .cell a t=>match eX X t,ba X t with
   | some g,some sz=>some (.cell a g sz)
   | _,_=>none
def gP:List ResultVar→Option (List nB)
 | []=>some []
 | r::rs=>match n9 X r,gP rs with
   | some a,some as=>some (a::as)
   | _,_=>none
def az (h:Hints) (f:Func):Option aD:=
 match f.body with
 | none=>none
 | some b=>match ck X {h with n:=f.ntmps} b,gP X f.results.toList with
   | some c,some rs=>some {nparams:=f.params.size+f.nfree,ntmps:=f.ntmps,rA:=h.rA,results:=rs,body:=c,tag:=h.tag}
   | _,_=>none
end Go.AM
namespace Go.AM
open Go Go.RowKit
structure Ctx extends TrEnv where
 Hh:Nat→Prop
 tok:Nat×Nat
instance:CoeOut Ctx TrEnv:=⟨Ctx.toTrEnv⟩
structure Row where
 cD:Nat
 base:Nat
 cap:Nat
structure Mu where
 w:World
 φ:Nat→Row
 O:Nat→Obj
def Mu.own (μ:Mu) (b:Nat):Prop:= ∃r,(μ.O r).es.isSome=true∧(μ.O r).fz=false∧(μ.φ r).cap≠0∧(μ.φ r).cD=b
def Own (X:Ctx) (μ:Mu) (b:Nat):Prop:=μ.own b∨X.Hh b
def cH (w:World) (b off sz:Nat) (vs:List Value):Prop:=
 ∀i v,vs[i]? =some v→v.cells.size=sz∧ ∀j c,v.cells[j]? =some c→w.cell? ⟨b,off+i*sz+j,none⟩=some c
def rP (ents:Array MapEntry) (clock:Nat):Prop:=(∀e ∈ ents.toList,e.born<clock)∧(ents.toList.map (·.born)).Nodup
section
variable (X:Ctx) (μ:Mu)
mutual
def aj:V→Value→Prop
 | .bool b,v=>v= .bool b
 | .int k n,v=>v= .int k n
 | .float b,v=>v= .float .f64 b
 | .str s,v=> ∃bs:ByteArray,v= .string bs∧bs.data.toList=s
 | .agg cs,v=>cs.all V.aC=true∧ ∃vs,v= .agg vs∧ah cs vs.toList
 | .tuple cs,v=> ∃vs,v= .tuple vs∧ah cs vs.toList
 | .nilp,v=>v= .pointer none
 | .nilfn,v=>v= .nilFunc
 | .nili,v=>v= .nilIface
 | .fn f caps,v=> ∃F cv,v= .func (.func F) #[] cv∧X.ig F=some f∧ah caps cv.toList
 | .iface t x,v=> ∃T y,v= .iface T y∧X.gq T=some t∧aj x y
 | .nils,v=> ∃a,v= .slice a 0 0
 | .lit sz xs,v=>V.al xs=true∧xs.all V.cw=true∧ ∃a cap vs,v= .slice a xs.length cap∧xs.length≤cap∧ah xs vs∧
    (xs=[]∨ ∃b o,a=some ⟨b,o,none⟩∧ ¬Own X μ b∧b<μ.w.heap.size∧cH μ.w b o sz vs)
 | .own ..,_=>False
 | .sl r g off len,v=> ∃a cap,v= .slice a len cap∧len≤cap∧g≤(μ.O r).gen∧
    ((μ.O r).gen=g→0 < (μ.O r).sz∧cap+off=(μ.φ r).cap∧(cap=0∨a=some ⟨(μ.φ r).cD,(μ.φ r).base+off*(μ.O r).sz,none⟩))
 | .ptr r g idx off,v=> ∃a,v= .pointer (some a)∧g≤(μ.O r).gen∧
    ((μ.O r).gen=g→0 < (μ.O r).sz∧a=⟨(μ.φ r).cD,(μ.φ r).base+idx*(μ.O r).sz+off,none⟩)
 | .eptr e off,v=>V.aw e=true∧V.cw e=true∧ ∃b o sz x,v= .pointer (some ⟨b,o+off,none⟩)∧ ¬Own X μ b∧b<μ.w.heap.size∧aj e x∧cH μ.w b o sz [x]
 | .mp r g,v=> ∃a,v= .map (some a)∧g≤(μ.O r).gen∧((μ.O r).gen=g→(μ.O r).sz=0∧a=(μ.φ r).cD)
 | .mlit es,v=>V.al es=true∧(es=[]∧v= .map none∨ ∃a ents clock,v= .map (some a)∧ ¬Own X μ a∧a<μ.w.heap.size∧(μ.w.heap[a]? =some (.map ents clock)∧rP ents clock)∧
    ah es (ents.toList.map fun e=> .tuple #[e.key,e.val]))
 | .it r g,v=> ∃a,v= .pointer (some ⟨a,0,none⟩)∧g≤(μ.O r).gen∧((μ.O r).gen=g→(μ.O r).sz=0∧a=(μ.φ r).cD)
 | .litk sz xs,v=>V.al xs=true∧xs.all V.cw=true∧ ∃a cap vs,v= .slice a xs.length cap∧xs.length≤cap∧ah xs vs∧
    (xs=[]∨a=some ⟨X.tok.1,X.tok.2,none⟩∧ ¬Own X μ X.tok.1∧X.tok.1 <μ.w.heap.size∧cH μ.w X.tok.1 X.tok.2 sz vs)
 | .epk i sz e off,v=>V.aw e=true∧V.cw e=true∧ ∃x,v= .pointer (some ⟨X.tok.1,X.tok.2+i*sz+off,none⟩)∧ ¬Own X μ X.tok.1∧X.tok.1 <μ.w.heap.size∧aj e x∧cH μ.w X.tok.1 (X.tok.2+i*sz) sz [x]
 | .msl ..,_=>False
 | .mptr ..,_=>False
 | .any,_=>True
def ah:List V→List Value→Prop
 | [],[]=>True
 | x::xs,v::vs=>aj x v∧ah xs vs
 | _,_=>False
end
end
theorem ah.length {X:Ctx} {μ:Mu}: ∀ {xs:List V} {vs:List Value},ah X μ xs vs→xs.length=vs.length
 | [],[],_=>rfl
 | [],_::_,h=>by simp[ah] at h
 | _::_,[],h=>by simp[ah] at h
 | _::_,_::_,h=>by simp only[ah] at h;simp[ah.length h.2]
theorem ah.get {X:Ctx} {μ:Mu}: ∀ {xs:List V} {vs:List Value},ah X μ xs vs→ ∀ {i:Nat} {x:V},xs[i]? =some x→ ∃v,vs[i]? =some v∧aj X μ x v
 | [],_,_,i,x,hx=>by simp at hx
 | _::_,[],h,_,_,_=>by simp[ah] at h
 | y::ys,v::vs,h,i,x,hx=>by
   simp only[ah] at h
   cases i with
   | zero=>simp at hx;subst hx;exact⟨v,by simp,h.1⟩
   | succ i=>simp at hx;simpa using ah.get h.2 hx
theorem ah.rQ {X:Ctx} {μ:Mu}: ∀ {xs:List V} {vs:List Value},xs.length=vs.length→(∀ (i:Nat) (x:V) (v:Value),xs[i]? =some x→vs[i]? =some v→aj X μ x v)→ah X μ xs vs
 | [],[],_,_=>by simp[ah]
 | [],_::_,h,_=>by simp at h
 | _::_,[],h,_=>by simp at h
 | x::xs,v::vs,h,hg=>by
   simp only[ah]
   exact⟨hg 0 x v (by simp) (by simp),ah.rQ (by simpa using h) fun i y u hy hu=>hg (i+1) y u (by simpa using hy) (by simpa using hu)⟩
theorem ah.append {X:Ctx} {μ:Mu}: ∀ {xs ys:List V} {vs us:List Value},ah X μ xs vs→ah X μ ys us→ah X μ (xs++ys) (vs++us)
 | [],_,[],_,_,h=>by simpa using h
 | [],_,_::_,_,h,_=>by simp[ah] at h
 | _::_,_,[],_,h,_=>by simp[ah] at h
 | x::xs,ys,v::vs,us,h,h'=>by
   simp only[ah] at h
   simp only[List.cons_append,ah]
   exact⟨h.1,ah.append h.2 h'⟩
theorem ah.take {X:Ctx} {μ:Mu}: ∀ {xs:List V} {vs:List Value} (n:Nat),ah X μ xs vs→ah X μ (xs.take n) (vs.take n)
 | _,_,0,_=>by simp[ah]
 | [],[],n+1,_=>by simp[ah]
 | [],_::_,n+1,h=>by simp[ah] at h
 | _::_,[],n+1,h=>by simp[ah] at h
 | x::xs,v::vs,n+1,h=>by
   simp only[ah] at h
   simp only[List.take_succ_cons,ah]
   exact⟨h.1,ah.take n h.2⟩
theorem ah.drop {X:Ctx} {μ:Mu}: ∀ {xs:List V} {vs:List Value} (n:Nat),ah X μ xs vs→ah X μ (xs.drop n) (vs.drop n)
 | _,_,0,h=>by simpa using h
 | [],[],n+1,_=>by simp[ah]
 | [],_::_,n+1,h=>by simp[ah] at h
 | _::_,[],n+1,h=>by simp[ah] at h
 | x::xs,v::vs,n+1,h=>by
   simp only[ah] at h
   simpa using ah.drop n h.2
theorem ah.set {X:Ctx} {μ:Mu} {xs:List V} {vs:List Value} (h:ah X μ xs vs) (i:Nat) {x:V} {v:Value} (hx:aj X μ x v):ah X μ (xs.set i x) (vs.set i v):=by
 refine ah.rQ (by simpa using h.length) fun j y u hy hu=> ?_
 rw[List.getElem?_set] at hy hu
 split at hy
 · rename_i e
   subst e
   by_cases hl:i<xs.length
   · have yI:i<vs.length:=by rw[←h.length];exact hl
     simp[hl] at hy;simp[yI] at hu
     subst hy hu;exact hx
   · simp[hl] at hy
 · rename_i e
   simp[e] at hu
   obtain⟨u',yP,hr⟩:=h.get hy
   rw[hu] at yP;injection yP with yP;subst yP;exact hr
structure Le (μ μ':Mu):Prop where
 size:μ.w.heap.size≤μ'.w.heap.size
 bZ: ∀b,b<μ.w.heap.size→ ¬μ.own b→μ'.w.heap[b]? =μ.w.heap[b]? ∧ ¬μ'.own b
 gen: ∀r,(μ.O r).gen≤(μ'.O r).gen
 row: ∀r,(μ'.O r).gen=(μ.O r).gen→μ'.φ r=μ.φ r∧(μ'.O r).sz=(μ.O r).sz
 os:μ'.w.os=μ.w.os
 output:μ'.w.output=μ.w.output
 tape:μ'.w.tape=μ.w.tape
 frozen: ∀a:Addr,a.block<μ.w.heap.size→μ'.w.frozen? a=μ.w.frozen? a
theorem Le.refl (μ:Mu):Le μ μ:=
 ⟨Nat.le_refl _,fun _ _ h=> ⟨rfl,h⟩,fun _=>Nat.le_refl _,fun _ _=> ⟨rfl,rfl⟩,rfl,rfl,rfl,fun _ _=>rfl⟩
theorem Le.trans {a b c:Mu} (h:Le a b) (k:Le b c):Le a c where
 size:=Nat.le_trans h.size k.size
 bZ:=fun i hi ho=>by
  obtain⟨h1,h2⟩:=h.bZ i hi ho
  obtain⟨k1,k2⟩:=k.bZ i (Nat.lt_of_lt_of_le hi h.size) h2
  exact⟨k1.trans h1,k2⟩
 gen:=fun r=>Nat.le_trans (h.gen r) (k.gen r)
 row:=fun r e=>by
  have h1:=h.gen r
  have k1:=k.gen r
  obtain⟨a1,a2⟩:=h.row r (by omega)
  obtain⟨b1,b2⟩:=k.row r (by omega)
  exact⟨b1.trans a1,b2.trans a2⟩
 os:=k.os.trans h.os
 output:=k.output.trans h.output
 tape:=k.tape.trans h.tape
 frozen:=fun x hx=> (k.frozen x (Nat.lt_of_lt_of_le hx h.size)).trans (h.frozen x hx)
theorem cH.bZ {w w':World} {b off sz:Nat} {vs:List Value} (h:cH w b off sz vs) (e:w'.heap[b]? =w.heap[b]?):cH w' b off sz vs:=by
 intro i v hv
 obtain⟨h1,h2⟩:=h i v hv
 refine⟨h1,fun j c hc=> ?_⟩
 rw[←h2 j c hc]
 simp[World.cell?,e]
mutual
theorem aj.mono {X:Ctx} {μ μ':Mu} (le:Le μ μ'): ∀ {x:V} {v:Value},aj X μ x v→aj X μ' x v
 | .bool _,_,h| .int ..,_,h| .float _,_,h| .str _,_,h| .nilp,_,h| .nilfn,_,h| .nili,_,h| .nils,_,h=>by simpa [aj] using h
 | .any,_,_=>by simp[aj]
 | .own ..,_,h| .msl ..,_,h| .mptr ..,_,h=>by simp[aj] at h
 | .agg cs,_,h=>by
   simp only[aj] at h ⊢
   obtain⟨h1,vs,rfl,h2⟩:=h
   exact⟨h1,vs,rfl,ah.mono le h2⟩
 | .tuple cs,_,h=>by
   simp only[aj] at h ⊢
   obtain⟨vs,rfl,h2⟩:=h
   exact⟨vs,rfl,ah.mono le h2⟩
 | .fn f cs,_,h=>by
   simp only[aj] at h ⊢
   obtain⟨F,cv,rfl,h1,h2⟩:=h
   exact⟨F,cv,rfl,h1,ah.mono le h2⟩
 | .iface t x,_,h=>by
   simp only[aj] at h ⊢
   obtain⟨T,y,rfl,h1,h2⟩:=h
   exact⟨T,y,rfl,h1,aj.mono le h2⟩
 | .lit sz xs,_,h=>by
   simp only[aj] at h ⊢
   obtain⟨h0,iG,a,cap,vs,rfl,h1,h2,h3⟩:=h
   refine⟨h0,iG,a,cap,vs,rfl,h1,ah.mono le h2,h3.imp id ?_⟩
   rintro⟨b,o,rfl,hb,hs,hr⟩
   obtain⟨k1,k2⟩:=le.bZ b hs (fun h=>hb (.inl h))
   exact⟨b,o,rfl,(fun h=>h.elim k2 fun h=>hb (.inr h)),Nat.lt_of_lt_of_le hs le.size,hr.bZ k1⟩
 | .sl r g off len,_,h=>by
   simp only[aj] at h ⊢
   obtain⟨a,cap,rfl,h1,h2,h3⟩:=h
   have hg:=le.gen r
   refine⟨a,cap,rfl,h1,by omega,fun e=> ?_⟩
   obtain⟨e1,e2⟩:=le.row r (by omega)
   rw[e1,e2];exact h3 (by omega)
 | .ptr r g idx off,_,h=>by
   simp only[aj] at h ⊢
   obtain⟨a,rfl,h2,h3⟩:=h
   have hg:=le.gen r
   refine⟨a,rfl,by omega,fun e=> ?_⟩
   obtain⟨e1,e2⟩:=le.row r (by omega)
   rw[e1,e2];exact h3 (by omega)
 | .eptr e off,_,h=>by
   simp only[aj] at h ⊢
   obtain⟨h0,iG,b,o,sz,x,rfl,hb,hs,h1,hr⟩:=h
   obtain⟨k1,k2⟩:=le.bZ b hs (fun h=>hb (.inl h))
   exact⟨h0,iG,b,o,sz,x,rfl,(fun h=>h.elim k2 fun h=>hb (.inr h)),Nat.lt_of_lt_of_le hs le.size,aj.mono le h1,hr.bZ k1⟩
 | .litk sz xs,_,h=>by
   simp only[aj] at h ⊢
   obtain⟨h0,iG,a,cap,vs,rfl,h1,h2,h3⟩:=h
   refine⟨h0,iG,a,cap,vs,rfl,h1,ah.mono le h2,h3.imp id ?_⟩
   rintro⟨rfl,hb,hs,hr⟩
   obtain⟨k1,k2⟩:=le.bZ _ hs (fun h=>hb (.inl h))
   exact⟨rfl,(fun h=>h.elim k2 fun h=>hb (.inr h)),Nat.lt_of_lt_of_le hs le.size,hr.bZ k1⟩
 | .epk i sz e off,_,h=>by
   simp only[aj] at h ⊢
   obtain⟨h0,iG,x,rfl,hb,hs,h1,hr⟩:=h
   obtain⟨k1,k2⟩:=le.bZ _ hs (fun h=>hb (.inl h))
   exact⟨h0,iG,x,rfl,(fun h=>h.elim k2 fun h=>hb (.inr h)),Nat.lt_of_lt_of_le hs le.size,aj.mono le h1,hr.bZ k1⟩
 | .mp r g,_,h=>by
   simp only[aj] at h ⊢
   obtain⟨a,rfl,h2,h3⟩:=h
   have hg:=le.gen r
   refine⟨a,rfl,by omega,fun e=> ?_⟩
   obtain⟨e1,e2⟩:=le.row r (by omega)
   rw[e1,e2];exact h3 (by omega)
 | .it r g,_,h=>by
   simp only[aj] at h ⊢
   obtain⟨a,rfl,h2,h3⟩:=h
   have hg:=le.gen r
   refine⟨a,rfl,by omega,fun e=> ?_⟩
   obtain⟨e1,e2⟩:=le.row r (by omega)
   rw[e1,e2];exact h3 (by omega)
 | .mlit es,_,h=>by
   simp only[aj] at h ⊢
   obtain⟨h0,h⟩:=h
   refine⟨h0,h.imp id ?_⟩
   rintro⟨a,ents,clock,rfl,hb,hs,h1,h2⟩
   obtain⟨k1,k2⟩:=le.bZ a hs (fun h=>hb (.inl h))
   exact⟨a,ents,clock,rfl,(fun h=>h.elim k2 fun h=>hb (.inr h)),Nat.lt_of_lt_of_le hs le.size,by rw[k1];exact h1,ah.mono le h2⟩
theorem ah.mono {X:Ctx} {μ μ':Mu} (le:Le μ μ'): ∀ {xs:List V} {vs:List Value},ah X μ xs vs→ah X μ' xs vs
 | [],[],_=>by simp[ah]
 | [],_::_,h=>by simp[ah] at h
 | _::_,[],h=>by simp[ah] at h
 | x::xs,v::vs,h=>by
   simp only[ah] at h ⊢
   exact⟨aj.mono le h.1,ah.mono le h.2⟩
end
def iN (X:Ctx) (μ:Mu) (r:Nat) (es:List V):Prop:=0 < (μ.O r).sz∧es.length≤(μ.φ r).cap∧es.all (aH · (μ.O r).sz)=true∧
 ((μ.φ r).cap=0∨ ∃c T vs,μ.w.heap[(μ.φ r).cD]? =some (.cells c T (0,0))∧(μ.φ r).base+(μ.φ r).cap*(μ.O r).sz≤c.size∧ah X μ es vs∧
   cH μ.w (μ.φ r).cD (μ.φ r).base (μ.O r).sz vs)
def jO (X:Ctx) (μ:Mu) (ob:Go.Obj) (es:List V):Prop:=
 (∃ents clock,ob= .map ents clock∧ah X μ es (ents.toList.map fun e=> .tuple #[e.key,e.val])∧rP ents clock)∨(∃ (s:ByteArray) (pos:Nat),ob= .stringIter s pos∧es=[.str s.data.toList,.int .i64 (pos:Int)])∨
 ∃mo since kG,ob= .mapIter mo since #[] since∧es=[.mlit kG]∧(mo=none∧kG=[]∨ ∃m ents,mo=some m∧ ¬Own X μ m∧m<μ.w.heap.size∧μ.w.heap[m]? =some (.map ents since)∧rP ents since∧ah X μ kG (ents.toList.map fun e=> .tuple #[e.key,e.val]))
theorem jO.mono {X:Ctx} {μ μ':Mu} (le:Le μ μ') {ob:Go.Obj} {es:List V} (h:jO X μ ob es):jO X μ' ob es:=by
 rcases h with⟨ents,clock,h1,h2,h3⟩ | h| ⟨mo,since,kG,h1,h2,h3⟩
 · exact .inl ⟨ents,clock,h1,ah.mono le h2,h3⟩
 · exact .inr (.inl h)
 · refine .inr (.inr ⟨mo,since,kG,h1,h2,h3.imp id ?_⟩)
   rintro⟨m,ents,k1,k2,k3,k4,k5,k6⟩
   obtain⟨l1,l2⟩:=le.bZ m k3 (fun h=>k2 (.inl h))
   exact⟨m,ents,k1,(fun h=>h.elim l2 fun h=>k2 (.inr h)),Nat.lt_of_lt_of_le k3 le.size,by rw[l1];exact k4,k5,ah.mono le k6⟩
theorem jO.live {X:Ctx} {μ:Mu} {ob:Go.Obj} {es:List V} (h:jO X μ ob es) (a:Addr) (w:World) (hw:w.heap[a.block]? =some ob):w.frozen? a=false:=by
 rcases h with⟨_,_,rfl,_⟩ | ⟨_,_,rfl,_⟩ | ⟨_,_,_,rfl,_⟩ <;>simp only[World.frozen?,hw]
def oa (X:Ctx) (μ:Mu) (r:Nat) (es:List V):Prop:=(μ.O r).sz=0∧(μ.φ r).cap≠0∧
 ∃ob,μ.w.heap[(μ.φ r).cD]? =some ob∧jO X μ ob es
def ej (X:Ctx) (μ:Mu) (r:Nat):Prop:= ∀es,(μ.O r).es=some es→iN X μ r es∨oa X μ r es
def XC (μ:Mu):Prop:= ∀r r',r≠r'→(μ.O r).es.isSome=true→(μ.O r').es.isSome=true→(μ.φ r).cap≠0→(μ.φ r').cap≠0→(μ.φ r).cD≠(μ.φ r').cD
structure aS (X:Ctx) (μ:Mu):Prop where
 ok: ∀r,ej X μ r
 inj:XC μ
 p8: ∀r,(μ.O r).es.isSome=true→(μ.φ r).cap≠0→ ¬X.Hh (μ.φ r).cD
 blt: ∀b,X.Hh b→b<μ.w.heap.size
theorem aS.row {X:Ctx} {μ:Mu} (ho:aS X μ) (r:Nat) (es:List V) (bp: (μ.O r).es=some es) (h0:0 < (μ.O r).sz):iN X μ r es:=by
 rcases ho.ok r es bp with h| ⟨h,_⟩
 · exact h
 · omega
theorem aS.map {X:Ctx} {μ:Mu} (ho:aS X μ) (r:Nat) (es:List V) (bp: (μ.O r).es=some es) (h0: (μ.O r).sz=0):oa X μ r es:=by
 rcases ho.ok r es bp with⟨h,_⟩ | h
 · omega
 · exact h
theorem aS.ents {X:Ctx} {μ:Mu} (ho:aS X μ) (r:Nat) (es:List V) (bp: (μ.O r).es=some es) (h0: (μ.O r).sz=0): ((μ.φ r).cap≠0∧ ∃ents clock,μ.w.heap[(μ.φ r).cD]? =some (.map ents clock)∧ah X μ es (ents.toList.map fun e=> .tuple #[e.key,e.val])∧rP ents clock)∨
  ((μ.φ r).cap≠0∧ ∃ (s:ByteArray) (pos:Nat),μ.w.heap[(μ.φ r).cD]? =some (.stringIter s pos)∧es=[.str s.data.toList,.int .i64 (pos:Int)])∨ ∃kG,es=[.mlit kG]:=by
 obtain⟨_,h2,ob,h3,h4⟩:=ho.map r es bp h0
 rcases h4 with⟨ents,clock,rfl,h⟩ | ⟨s,pos,rfl,h⟩ | ⟨_,_,kG,_,h,_⟩
 · exact .inl ⟨h2,ents,clock,h3,h⟩
 · exact .inr (.inl ⟨h2,s,pos,h3,h⟩)
 · exact .inr (.inr ⟨kG,h⟩)
theorem ej.cD {X:Ctx} {μ:Mu} {r:Nat} {es:List V} (h:iN X μ r es∨oa X μ r es) (hc: (μ.φ r).cap≠0): (μ.φ r).cD<μ.w.heap.size:=by
 rcases h with⟨_,_,_,h⟩ | ⟨_,_,ob,h,_⟩
 · rcases h with h| ⟨_,_,_,h,_⟩
   · exact absurd h hc
   · exact(Array.getElem?_eq_some_iff.1 h).1
 · exact(Array.getElem?_eq_some_iff.1 h).1
theorem ej.bZ {X:Ctx} {μ μ':Mu} {r r':Nat} {es:List V} (le:Le μ μ') (h:iN X μ r es∨oa X μ r es) (b5: (μ'.O r').sz=(μ.O r).sz) (hφ:μ'.φ r'=μ.φ r)
   (hb: (μ.φ r).cap≠0→μ'.w.heap[(μ.φ r).cD]? =μ.w.heap[(μ.φ r).cD]?):iN X μ' r' es∨oa X μ' r' es:=by
 rcases h with⟨h1,h2,h3,h4⟩ | ⟨h1,h2,ob,h3,h4⟩
 · left
   unfold iN
   rw[b5,hφ]
   by_cases hc: (μ.φ r).cap=0
   · exact⟨h1,h2,h3,.inl hc⟩
   · rcases h4 with h4| ⟨c,T,vs,k1,k2,k3,k4⟩
     · exact absurd h4 hc
     · exact⟨h1,h2,h3,.inr ⟨c,T,vs,by rw[hb hc];exact k1,k2,ah.mono le k3,k4.bZ (hb hc)⟩⟩
 · right
   unfold oa
   rw[b5,hφ]
   exact⟨h1,h2,ob,by rw[hb h2];exact h3,h4.mono le⟩
structure yQ (w0:World) (F4:Nat→Prop) (μ:Mu):Prop where
 size:w0.heap.size≤μ.w.heap.size
 bZ: ∀b,b<w0.heap.size→ ¬F4 b→μ.w.heap[b]? =w0.heap[b]? ∧ ¬μ.own b
 os:μ.w.os=w0.os
 output:μ.w.output=w0.output
 tape:μ.w.tape=w0.tape
 frozen: ∀a:Addr,a.block<w0.heap.size→μ.w.frozen? a=w0.frozen? a
theorem yQ.step {w0:World} {F4:Nat→Prop} {μ μ':Mu} (h:yQ w0 F4 μ) (k:Le μ μ'):yQ w0 F4 μ' where
 size:=Nat.le_trans h.size k.size
 bZ:=fun i hi ho=>by
  obtain⟨h1,h2⟩:=h.bZ i hi ho
  obtain⟨k1,k2⟩:=k.bZ i (Nat.lt_of_lt_of_le hi h.size) h2
  exact⟨k1.trans h1,k2⟩
 os:=k.os.trans h.os
 output:=k.output.trans h.output
 tape:=k.tape.trans h.tape
 frozen:=fun x hx=> (k.frozen x (Nat.lt_of_lt_of_le hx h.size)).trans (h.frozen x hx)
theorem aj.jP {X:Ctx} {μ:Mu} {x:V} {v:Value} (h:aj X μ x v) (hc:x.aC=true):v.oneCell'=true∧v.cells= #[v]:=by
 cases x<;>simp[V.aC] at hc<;>simp only[aj] at h
 case bool=>subst h;exact⟨rfl,rfl⟩
 case int=>subst h;exact⟨rfl,rfl⟩
 case float=>subst h;exact⟨rfl,rfl⟩
 case str=>obtain⟨_,rfl,_⟩:=h;exact⟨rfl,rfl⟩
 case nilp=>subst h;exact⟨rfl,rfl⟩
 case nilfn=>subst h;exact⟨rfl,rfl⟩
 case nili=>subst h;exact⟨rfl,rfl⟩
 case fn=>obtain⟨_,_,rfl,_⟩:=h;exact⟨rfl,rfl⟩
 case iface=>obtain⟨_,_,rfl,_⟩:=h;exact⟨rfl,rfl⟩
 case nils=>obtain⟨_,rfl⟩:=h;exact⟨rfl,rfl⟩
 case lit=>obtain⟨_,_,_,_,_,rfl,_⟩:=h;exact⟨rfl,rfl⟩
 case sl=>obtain⟨_,_,rfl,_⟩:=h;exact⟨rfl,rfl⟩
 case ptr=>obtain⟨_,rfl,_⟩:=h;exact⟨rfl,rfl⟩
 case eptr=>obtain⟨_,_,_,_,_,_,rfl,_⟩:=h;exact⟨rfl,rfl⟩
 case litk=>obtain⟨_,_,_,_,_,rfl,_⟩:=h;exact⟨rfl,rfl⟩
 case epk=>obtain⟨_,_,_,rfl,_⟩:=h;exact⟨rfl,rfl⟩
 case mp=>obtain⟨_,rfl,_⟩:=h;exact⟨rfl,rfl⟩
 case it=>obtain⟨_,rfl,_⟩:=h;exact⟨rfl,rfl⟩
 case mlit=>obtain⟨_,⟨_,rfl⟩ | ⟨_,_,_,rfl,_⟩⟩:=h<;>exact⟨rfl,rfl⟩
theorem V.eC {x:V} (h:x.aC=true):x.cells=[x]:=by
 cases x<;>simp_all[V.aC,V.cells]
theorem aj.cells {X:Ctx} {μ:Mu} {x:V} {v:Value} (h:aj X μ x v) (hl:x.cw=true):ah X μ x.cells v.cells.toList:=by
 simp only[V.cw,Bool.or_eq_true] at hl
 rcases hl with hl| hl
 · cases x<;>simp[V.isAgg] at hl
   simp only[aj] at h
   obtain⟨_,vs,rfl,h2⟩:=h
   exact h2
 · rw[(h.jP hl).2,V.eC hl]
   simp[ah,h]
theorem aj.dc {X:Ctx} {μ:Mu} {x:V} {v:Value} (h:aj X μ x v) (hl:x.cw=true):v.cells.size=x.cells.length:=by
 have:=(h.cells hl).length
 simpa using this.symm
theorem aj.gL {X:Ctx} {μ:Mu} {x:V} {v:Value} (h:aj X μ x v) (hl:x.cw=true):x.cells.all V.aC=true:=by
 simp only[V.cw,Bool.or_eq_true] at hl
 rcases hl with hl| hl
 · cases x<;>simp[V.isAgg] at hl
   simp only[aj] at h
   exact h.1
 · rw[V.eC hl];simp[hl]
end Go.AM
namespace Go.AM
open Go Go.RowKit
theorem av {α:Type} (f:Nat→α) (t:Nat) (v:α):cW f t v t=v:=by simp[cW]
theorem aL {α:Type} (f:Nat→α) {t n:Nat} (v:α) (h:n≠t):cW f t v n=f n:=by simp[cW,h]
theorem cH.wB {w:World} {b off sz:Nat} {vs:List Value} {c:Array Value} {T:TypeId} {fr:Nat×Nat} (hb:w.heap[b]? =some (.cells c T fr))
  (h: ∀i v,vs[i]? =some v→v.cells.size=sz∧ ∀j x,v.cells[j]? =some x→c[off+i*sz+j]? =some x):cH w b off sz vs:=by
 intro i v hv
 obtain⟨h1,h2⟩:=h i v hv
 refine⟨h1,fun j x hx=> ?_⟩
 simp[World.cell?,hb,h2 j x hx]
theorem cH.CW {w:World} {b off sz:Nat} {vs:List Value} {c:Array Value} {T:TypeId} {fr:Nat×Nat} (hb:w.heap[b]? =some (.cells c T fr))
  (h:cH w b off sz vs): ∀i v,vs[i]? =some v→v.cells.size=sz∧ ∀j x,v.cells[j]? =some x→c[off+i*sz+j]? =some x:=by
 intro i v hv
 obtain⟨h1,h2⟩:=h i v hv
 refine⟨h1,fun j x hx=> ?_⟩
 have:=h2 j x hx
 simpa [World.cell?,hb] using this
theorem wC {μ:Mu} {r:Nat} {o:Obj} {w':World} (h:o.es.isSome=true→o.fz=false→(μ.O r).es.isSome=true∧(μ.O r).fz=false) {b:Nat}
   (hb: (⟨w',μ.φ,cW μ.O r o⟩:Mu).own b):μ.own b:=by
 obtain⟨r',h1,h2,h3,h4⟩:=hb
 by_cases e:r'=r
 · subst e
   simp only[av] at h1 h2
   obtain⟨k1,k2⟩:=h h1 h2
   exact⟨r',k1,k2,h3,h4⟩
 · simp only[aL _ _ e] at h1 h2
   exact⟨r',h1,h2,h3,h4⟩
theorem aS.yR {X:Ctx} {μ μ':Mu} (ho:aS X μ) (le:Le μ μ') (hO:μ'.O=μ.O) (hφ:μ'.φ=μ.φ)
  (hb: ∀b,b<μ.w.heap.size→μ'.w.heap[b]? =μ.w.heap[b]?):aS X μ' where
 ok:=fun r es bp=>by
  rw[hO] at bp
  exact ej.bZ le (ho.ok r es bp) (by rw[hO]) (by rw[hφ]) fun hc=>hb _ (ej.cD (ho.ok r es bp) hc)
 inj:=by unfold XC;rw[hO,hφ];exact ho.inj
 p8:=by rw[hO,hφ];exact ho.p8
 blt:=fun b hb=>Nat.lt_of_lt_of_le (ho.blt b hb) le.size
theorem Le.drew {X:Ctx} {μ:Mu} (ho:aS X μ):Le μ ⟨μ.w.drew,μ.φ,μ.O⟩∧aS X ⟨μ.w.drew,μ.φ,μ.O⟩:=by
 have le:Le μ ⟨μ.w.drew,μ.φ,μ.O⟩:=
  ⟨Nat.le_refl _,fun _ _ h=> ⟨rfl,h⟩,fun _=>Nat.le_refl _,fun _ _=> ⟨rfl,rfl⟩,rfl,rfl,rfl,fun _ _=>rfl⟩
 exact⟨le,ho.yR le rfl rfl fun _ _=>rfl⟩
theorem vj {X:Ctx} {μ:Mu} (ho:aS X μ) (r sz cap:Nat) (arr:Bool) {es:List V} {vs:List Value} {c:Array Value} (T:TypeId) (b5:0 <sz)
   (cP:es.length≤cap) (jQ:es.all (aH · sz)=true) (bz:ah X μ es vs) (hc:cap*sz≤c.size)
   (dn: ∀i v,vs[i]? =some v→v.cells.size=sz∧ ∀j x,v.cells[j]? =some x→c[i*sz+j]? =some x):
   let μ':Mu:=⟨μ.w.alloc (.cells c T (0,0)),cW μ.φ r ⟨μ.w.heap.size,0,cap⟩,cW μ.O r {gen:=(μ.O r).gen+1,sz:=sz,arr:=arr,fz:=false,es:=some es}⟩
   Le μ μ'∧aS X μ':=by
 intro μ'
 have gj: ∀b,b<μ.w.heap.size→μ'.w.heap[b]? =μ.w.heap[b]? :=fun b hb=>heap_alloc_old _ _ _ hb
 have wD:μ'.w.heap.size=μ.w.heap.size+1:=Array.size_push _
 have mT:μ'.w.heap[μ.w.heap.size]? =some (.cells c T (0,0)):=heap_alloc_new _ _
 have le:Le μ μ':=by
   refine⟨by omega,fun b hb ef=> ⟨gj b hb,?_⟩,fun r'=> ?_,fun r' e=> ?_,rfl,rfl,rfl,fun a ha=> ?_⟩
   · rintro⟨r',h1,h2,h3,h4⟩
     by_cases e:r'=r
     · subst e
       simp only[μ',av] at h4
       omega
     · simp only[μ',aL _ _ e] at h1 h2 h3 h4
       exact ef ⟨r',h1,h2,h3,h4⟩
   · by_cases e:r'=r
     · subst e;simp[μ',av]
     · simp[μ',aL _ _ e]
   · by_cases e':r'=r
     · subst e';simp[μ',av] at e
     · simp[μ',aL _ _ e']
   · simp only[World.frozen?,gj a.block ha]
 refine⟨le,fun r' es' en=> ?_,fun r1 r2 cB h1 h2 h3 h4=> ?_,fun r' h1 h2 hb=> ?_,fun b hb=>Nat.lt_of_lt_of_le (ho.blt b hb) le.size⟩
 rotate_left 2
 · by_cases e:r'=r
   · subst e
     simp only[μ',av] at hb
     have:=ho.blt _ hb
     omega
   · simp only[μ',aL _ _ e] at h1 h2 hb
     exact ho.p8 r' h1 h2 hb
 · by_cases e:r'=r
   · subst e
     simp only[μ',av] at en ⊢
     injection en with en
     subst en
     refine .inl ?_
     unfold iN
     simp only[μ',av]
     refine⟨b5,cP,jQ,.inr ⟨c,T,vs,mT,by simpa using hc,ah.mono le bz,cH.wB mT ?_⟩⟩
     simpa using dn
   · have hO:μ'.O r'=μ.O r':=by simp[μ',aL _ _ e]
     have hφ:μ'.φ r'=μ.φ r':=by simp[μ',aL _ _ e]
     rw[hO] at en
     exact ej.bZ le (ho.ok r' es' en) (by rw[hO]) hφ fun hc=>gj _ (ej.cD (ho.ok r' es' en) hc)
 · have hold: ∀r',r'≠r→(μ.O r').es.isSome=true→(μ.φ r').cap≠0→(μ.φ r').cD<μ.w.heap.size:=fun r' _ hs ye=>by
     obtain⟨es',he⟩:=Option.isSome_iff_exists.1 hs
     exact ej.cD (ho.ok r' es' he) ye
   by_cases e1:r1=r
   · subst e1
     have e2:r2≠r1:=fun e=>cB e.symm
     simp only[μ',av,aL _ _ e2] at h1 h2 h3 h4 ⊢
     have:=hold r2 e2 h2 h4
     omega
   · by_cases e2:r2=r
     · subst e2
       simp only[μ',av,aL _ _ e1] at h1 h2 h3 h4 ⊢
       have:=hold r1 e1 h1 h3
       omega
     · simp only[μ',aL _ _ e1,aL _ _ e2] at h1 h2 h3 h4 ⊢
       exact ho.inj r1 r2 cB h1 h2 h3 h4
theorem A0 {X:Ctx} {μ:Mu} (ho:aS X μ) (r sz:Nat) (b5:0 <sz):
   let μ':Mu:=⟨μ.w,cW μ.φ r ⟨0,0,0⟩,cW μ.O r {gen:=(μ.O r).gen+1,sz:=sz,arr:=true,fz:=false,es:=some []}⟩
   Le μ μ'∧aS X μ':=by
 intro μ'
 have le:Le μ μ':=by
   refine⟨Nat.le_refl _,fun b hb ef=> ⟨rfl,?_⟩,fun r'=> ?_,fun r' e=> ?_,rfl,rfl,rfl,fun _ _=>rfl⟩
   · rintro⟨r',h1,h2,h3,h4⟩
     by_cases e:r'=r
     · subst e
       simp only[μ',av] at h3
       exact h3 rfl
     · simp only[μ',aL _ _ e] at h1 h2 h3 h4
       exact ef ⟨r',h1,h2,h3,h4⟩
   · by_cases e:r'=r
     · subst e;simp[μ',av]
     · simp[μ',aL _ _ e]
   · by_cases e':r'=r
     · subst e';simp[μ',av] at e
     · simp[μ',aL _ _ e']
 refine⟨le,fun r' es' en=> ?_,fun r1 r2 cB h1 h2 h3 h4=> ?_,fun r' h1 h2 hb=> ?_,ho.blt⟩
 · by_cases e:r'=r
   · subst e
     simp only[μ',av] at en
     injection en with en
     subst en
     refine .inl ?_
     unfold iN
     simp only[μ',av]
     exact⟨b5,Nat.le_refl _,rfl,.inl (by simp)⟩
   · have hO:μ'.O r'=μ.O r':=by simp[μ',aL _ _ e]
     have hφ:μ'.φ r'=μ.φ r':=by simp[μ',aL _ _ e]
     rw[hO] at en
     exact ej.bZ le (ho.ok r' es' en) (by rw[hO]) hφ fun _=>rfl
 · have e1:r1≠r:=by
     intro e;subst e
     simp only[μ',av] at h3
     exact h3 rfl
   have e2:r2≠r:=by
     intro e;subst e
     simp only[μ',av] at h4
     exact h4 rfl
   simp only[μ',aL _ _ e1,aL _ _ e2] at h1 h2 h3 h4 ⊢
   exact ho.inj r1 r2 cB h1 h2 h3 h4
 · have e:r'≠r:=by
     intro e;subst e
     simp only[μ',av] at h2
     exact h2 rfl
   simp only[μ',aL _ _ e] at h1 h2 hb
   exact ho.p8 r' h1 h2 hb
theorem F5 {X:Ctx} {μ:Mu} (ho:aS X μ) {r r1:Nat} (cB:r1≠r):
   let μ':Mu:=⟨μ.w,cW μ.φ r (μ.φ r1),cW (cW μ.O r ⟨(μ.O r).gen+1,(μ.O r1).sz,(μ.O r1).arr,(μ.O r1).fz,(μ.O r1).es⟩) r1 ⟨(μ.O r1).gen+1,(μ.O r1).sz,(μ.O r1).arr,(μ.O r1).fz,none⟩⟩
   Le μ μ'∧aS X μ':=by
 intro μ'
 have rR:r≠r1:=Ne.symm cB
 have K6:μ'.O r1=⟨(μ.O r1).gen+1,(μ.O r1).sz,(μ.O r1).arr,(μ.O r1).fz,none⟩:=by simp[μ',av]
 have hOr:μ'.O r=⟨(μ.O r).gen+1,(μ.O r1).sz,(μ.O r1).arr,(μ.O r1).fz,(μ.O r1).es⟩:=by simp[μ',aL _ _ rR,av]
 have QY:μ'.φ r=μ.φ r1:=by simp[μ',av]
 have hO: ∀r',r'≠r→r'≠r1→μ'.O r'=μ.O r':=fun r' h1 h2=>by simp[μ',aL _ _ h1,aL _ _ h2]
 have hφ: ∀r',r'≠r→μ'.φ r'=μ.φ r':=fun r' h1=>by simp[μ',aL _ _ h1]
 have fD: ∀b,μ'.own b→μ.own b:=by
   rintro b ⟨r',h1,h2,h3,h4⟩
   by_cases e1:r'=r1
   · subst e1;rw[K6] at h1;simp at h1
   · by_cases e:r'=r
     · subst e
       rw[hOr] at h1 h2
       rw[QY] at h3 h4
       exact⟨r1,h1,h2,h3,h4⟩
     · rw[hO _ e e1] at h1 h2
       rw[hφ _ e] at h3 h4
       exact⟨r',h1,h2,h3,h4⟩
 have le:Le μ μ':=by
   refine⟨Nat.le_refl _,fun b hb ef=> ⟨rfl,fun h=>ef (fD b h)⟩,fun r'=> ?_,fun r' e=> ?_,rfl,rfl,rfl,fun _ _=>rfl⟩
   · by_cases e1:r'=r1
     · subst e1;rw[K6];simp
     · by_cases e:r'=r
       · subst e;rw[hOr];simp
       · rw[hO _ e e1];exact Nat.le_refl _
   · by_cases e1:r'=r1
     · subst e1;rw[K6] at e;simp at e
     · by_cases e2:r'=r
       · subst e2;rw[hOr] at e;simp at e
       · rw[hO _ e2 e1,hφ _ e2];exact⟨rfl,rfl⟩
 refine⟨le,fun r' es' en=> ?_,fun r2 r3 QZ h1 h2 h3 h4=> ?_,fun r' h1 h2 hb=> ?_,ho.blt⟩
 · by_cases e1:r'=r1
   · subst e1;rw[K6] at en;simp at en
   · by_cases e:r'=r
     · subst e
       rw[hOr] at en
       exact ej.bZ (r:=r1) le (ho.ok r1 es' en) (by rw[hOr]) QY fun _=>rfl
     · rw[hO _ e e1] at en
       exact ej.bZ le (ho.ok r' es' en) (by rw[hO _ e e1]) (hφ _ e) fun _=>rfl
 · have Ui:r2≠r1:=by intro e;subst e;rw[K6] at h1;simp at h1
   have Q0:r3≠r1:=by intro e;subst e;rw[K6] at h2;simp at h2
   by_cases e2:r2=r
   · subst e2
     have e3:r3≠r2:=Ne.symm QZ
     rw[hOr] at h1
     rw[hO _ e3 Q0] at h2
     rw[QY] at h3 ⊢
     rw[hφ _ e3] at h4 ⊢
     exact ho.inj r1 r3 (Ne.symm Q0) h1 h2 h3 h4
   · rw[hO _ e2 Ui] at h1
     rw[hφ _ e2] at h3 ⊢
     by_cases e3:r3=r
     · subst e3
       rw[hOr] at h2
       rw[QY] at h4 ⊢
       exact ho.inj r2 r1 Ui h1 h2 h3 h4
     · rw[hO _ e3 Q0] at h2
       rw[hφ _ e3] at h4 ⊢
       exact ho.inj r2 r3 QZ h1 h2 h3 h4
 · have Ui:r'≠r1:=by intro e;subst e;rw[K6] at h1;simp at h1
   by_cases e:r'=r
   · subst e
     rw[hOr] at h1
     rw[QY] at h2 hb
     exact ho.p8 r1 h1 h2 hb
   · rw[hO _ e Ui] at h1
     rw[hφ _ e] at h2 hb
     exact ho.p8 r' h1 h2 hb
theorem lQ {X:Ctx} {μ:Mu} (ho:aS X μ) (r:Nat) {es:List V} {c:Array Value} {T:TypeId} (bp: (μ.O r).es=some es) (fm: (μ.O r).fz=false)
   (hb:μ.w.heap[(μ.φ r).cD]? =some (.cells c T (0,0))) (kK: (μ.φ r).cap≠0)
   {c':Array Value} (hc:c'.size=c.size) (K7 z8 A3:Nat) {es':List V} {vs':List Value}
   (hg: (K7=(μ.O r).gen∧z8=(μ.φ r).base∧A3=(μ.φ r).cap)∨(μ.O r).gen<K7) (XD:A3≠0)
   (hlen:es'.length≤A3) (jQ:es'.all (aH · (μ.O r).sz)=true) (bz:ah X μ es' vs') (tT:z8+A3*(μ.O r).sz≤c.size)
   (dn: ∀i v,vs'[i]? =some v→v.cells.size=(μ.O r).sz∧ ∀j x,v.cells[j]? =some x→c'[z8+i*(μ.O r).sz+j]? =some x):
   let μ':Mu:=⟨μ.w.setRow (μ.φ r).cD c',cW μ.φ r ⟨(μ.φ r).cD,z8,A3⟩,cW μ.O r {μ.O r with gen:=K7,es:=some es'}⟩
   Le μ μ'∧aS X μ':=by
 intro μ'
 have mT:μ'.w.heap[(μ.φ r).cD]? =some (.cells c' T (0,0)):=setRow_heap _ _ _ _ _ _ hb
 have mU: ∀b,b≠(μ.φ r).cD→μ'.w.heap[b]? =μ.w.heap[b]? :=fun b cB=>setRow_other _ _ _ _ cB
 have wD:μ'.w.heap.size=μ.w.heap.size:=by simp[μ',World.setRow]
 have bJ: (μ.φ r).cD<μ.w.heap.size:=(Array.getElem?_eq_some_iff.1 hb).1
 have fD:μ.own (μ.φ r).cD:=⟨r,by simp[bp],fm,kK,rfl⟩
 have le:Le μ μ':=by
   refine⟨by omega,fun b p9 ef=> ⟨mU b (fun e=>ef (e ▸ fD)),?_⟩,fun r'=> ?_,fun r' e=> ?_,rfl,rfl,rfl,fun a ha=> ?_⟩
   · rintro⟨r',h1,h2,h3,h4⟩
     by_cases e:r'=r
     · subst e
       simp only[μ',av] at h4
       exact ef (h4 ▸ fD)
     · simp only[μ',aL _ _ e] at h1 h2 h3 h4
       exact ef ⟨r',h1,h2,h3,h4⟩
   · by_cases e:r'=r
     · subst e;simp only[μ',av];omega
     · simp[μ',aL _ _ e]
   · by_cases e':r'=r
     · subst e'
       simp only[μ',av] at e ⊢
       rcases hg with⟨_,g2,g3⟩ | hg
       · subst g2;subst g3;exact⟨rfl,trivial⟩
       · omega
     · simp[μ',aL _ _ e']
   · by_cases e:a.block=(μ.φ r).cD
     · simp only[World.frozen?,e,mT,hb]
     · simp only[World.frozen?,mU _ e]
 refine⟨le,fun r' Q1 mV=> ?_,fun r1 r2 cB h1 h2 h3 h4=> ?_,fun r' h1 h2 hb=> ?_,fun b hb=>Nat.lt_of_lt_of_le (ho.blt b hb) le.size⟩
 rotate_left 2
 · by_cases e:r'=r
   · subst e
     simp only[μ',av] at hb
     exact ho.p8 r' (by simp[bp]) kK hb
   · simp only[μ',aL _ _ e] at h1 h2 hb
     exact ho.p8 r' h1 h2 hb
 · by_cases e:r'=r
   · subst e
     have b5:0 < (μ.O r').sz:=by
       rcases ho.ok r' es bp with⟨h,_⟩ | ⟨_,_,ob,hm,EG⟩
       · exact h
       · rw[hb] at hm;injection hm with hm;subst hm
         rcases EG with⟨_,_,h,_⟩ | ⟨_,_,h,_⟩ | ⟨_,_,_,h,_⟩ <;>cases h
     simp only[μ',av] at mV
     injection mV with mV
     subst mV
     refine .inl ?_
     unfold iN
     simp only[μ',av]
     exact⟨b5,hlen,jQ,.inr ⟨c',T,vs',mT,by omega,ah.mono le bz,cH.wB mT dn⟩⟩
   · have hO:μ'.O r'=μ.O r':=by simp[μ',aL _ _ e]
     have hφ:μ'.φ r'=μ.φ r':=by simp[μ',aL _ _ e]
     rw[hO] at mV
     exact ej.bZ le (ho.ok r' Q1 mV) (by rw[hO]) hφ fun VD=>mU _ (ho.inj r' r e (by simp[mV]) (by simp[bp]) VD kK)
 · have hs: ∀x,(μ'.O x).es.isSome=true→(μ.O x).es.isSome=true:=fun x hx=>by
     by_cases e:x=r
     · subst e;simp[bp]
     · simpa [μ',aL _ _ e] using hx
   have s8: ∀x,(μ'.φ x).cap≠0→(μ.φ x).cap≠0:=fun x hx=>by
     by_cases e:x=r
     · subst e;exact kK
     · simpa [μ',aL _ _ e] using hx
   have EH: ∀x,(μ'.φ x).cD=(μ.φ x).cD:=fun x=>by
     by_cases e:x=r
     · subst e;simp[μ',av]
     · simp[μ',aL _ _ e]
   rw[EH,EH]
   exact ho.inj r1 r2 cB (hs _ h1) (hs _ h2) (s8 _ h3) (s8 _ h4)
theorem mW {X:Ctx} {μ:Mu} (ho:aS X μ) (r:Nat):
   let μ':Mu:=⟨μ.w,μ.φ,cW μ.O r {μ.O r with fz:=true}⟩
   Le μ μ'∧aS X μ':=by
 intro μ'
 have bU: ∀x,(μ'.O x).gen=(μ.O x).gen∧(μ'.O x).sz=(μ.O x).sz∧(μ'.O x).es=(μ.O x).es:=fun x=>by
   by_cases e:x=r
   · subst e;simp[μ',av]
   · simp[μ',aL _ _ e]
 have le:Le μ μ':=
   ⟨Nat.le_refl _,fun b hb h=> ⟨rfl,fun p9=>h (wC (r:=r) (w':=μ.w) (by simp) p9)⟩,fun x=>by rw[(bU x).1];exact Nat.le_refl _,fun x _=> ⟨rfl,(bU x).2.1⟩,rfl,rfl,rfl,fun _ _=>rfl⟩
 refine⟨le,fun x es bp=> ?_,fun r1 r2 cB h1 h2 h3 h4=> ?_,fun x h1 h2 hb=>ho.p8 x (by rw[(bU x).2.2] at h1;exact h1) h2 hb,ho.blt⟩
 · rw[(bU x).2.2] at bp
   exact ej.bZ le (ho.ok x es bp) (bU x).2.1 rfl fun _=>rfl
 · rw[(bU r1).2.2] at h1
   rw[(bU r2).2.2] at h2
   exact ho.inj r1 r2 cB h1 h2 h3 h4
theorem A4 {X:Ctx} {μ:Mu} (ho:aS X μ) (r:Nat) {es':List V} (h0: (μ.O r).es.isSome=true) (b5:0 < (μ.O r).sz) (hl:es'.length≤(μ.φ r).cap) (jQ:es'.all (aH · (μ.O r).sz)=true)
   (hc: (μ.φ r).cap=0∨ ∃c T vs,μ.w.heap[(μ.φ r).cD]? =some (.cells c T (0,0))∧(μ.φ r).base+(μ.φ r).cap*(μ.O r).sz≤c.size∧ah X μ es' vs∧
     cH μ.w (μ.φ r).cD (μ.φ r).base (μ.O r).sz vs):
   let μ':Mu:=⟨μ.w,μ.φ,cW μ.O r {μ.O r with es:=some es'}⟩
   Le μ μ'∧aS X μ':=by
 intro μ'
 have bU: ∀x,(μ'.O x).gen=(μ.O x).gen∧(μ'.O x).sz=(μ.O x).sz∧(μ'.O x).es.isSome=(μ.O x).es.isSome∧(μ'.O x).fz=(μ.O x).fz:=fun x=>by
   by_cases e:x=r
   · subst e;simp[μ',av,h0]
   · simp[μ',aL _ _ e]
 have fD: ∀b,μ'.own b→μ.own b:=by
   rintro b ⟨r',h1,h2,h3,h4⟩
   rw[(bU r').2.2.1] at h1
   rw[(bU r').2.2.2] at h2
   exact⟨r',h1,h2,h3,h4⟩
 have le:Le μ μ':=
   ⟨Nat.le_refl _,fun b hb h=> ⟨rfl,fun p9=>h (fD b p9)⟩,fun x=>by rw[(bU x).1];exact Nat.le_refl _,fun x _=> ⟨rfl,(bU x).2.1⟩,rfl,rfl,rfl,fun _ _=>rfl⟩
 refine⟨le,fun x es bp=> ?_,fun r1 r2 cB h1 h2 h3 h4=> ?_,fun x h1 h2 hb=>ho.p8 x (by rw[(bU x).2.2.1] at h1;exact h1) h2 hb,ho.blt⟩
 · by_cases e:x=r
   · subst e
     have:es=es':=by simp[μ',av] at bp;exact bp.symm
     subst this
     refine .inl ?_
     unfold iN
     rw[(bU x).2.1]
     refine⟨b5,hl,jQ,hc.imp id ?_⟩
     rintro⟨c,T,vs,q1,q2,q3,q4⟩
     exact⟨c,T,vs,q1,q2,ah.mono le q3,q4⟩
   · have hx:μ'.O x=μ.O x:=by simp[μ',aL _ _ e]
     rw[hx] at bp
     exact ej.bZ le (ho.ok x es bp) (by rw[hx]) rfl fun _=>rfl
 · rw[(bU r1).2.2.1] at h1
   rw[(bU r2).2.2.1] at h2
   exact ho.inj r1 r2 cB h1 h2 h3 h4
theorem oe {X:Ctx} {μ:Mu} (ho:aS X μ) (r:Nat) (ob:Go.Obj) (es:List V) (EG:jO X μ ob es):
   let μ':Mu:=⟨μ.w.alloc ob,cW μ.φ r ⟨μ.w.heap.size,0,1⟩,cW μ.O r {gen:=(μ.O r).gen+1,sz:=0,arr:=false,fz:=false,es:=some es}⟩
   Le μ μ'∧aS X μ':=by
 intro μ'
 have gj: ∀b,b<μ.w.heap.size→μ'.w.heap[b]? =μ.w.heap[b]? :=fun b hb=>heap_alloc_old _ _ _ hb
 have wD:μ'.w.heap.size=μ.w.heap.size+1:=Array.size_push _
 have mT:μ'.w.heap[μ.w.heap.size]? =some ob:=heap_alloc_new _ _
 have le:Le μ μ':=by
   refine⟨by omega,fun b hb ef=> ⟨gj b hb,?_⟩,fun r'=> ?_,fun r' e=> ?_,rfl,rfl,rfl,fun a ha=> ?_⟩
   · rintro⟨r',h1,h2,h3,h4⟩
     by_cases e:r'=r
     · subst e
       simp only[μ',av] at h4
       omega
     · simp only[μ',aL _ _ e] at h1 h2 h3 h4
       exact ef ⟨r',h1,h2,h3,h4⟩
   · by_cases e:r'=r
     · subst e;simp[μ',av]
     · simp[μ',aL _ _ e]
   · by_cases e':r'=r
     · subst e';simp[μ',av] at e
     · simp[μ',aL _ _ e']
   · simp only[World.frozen?,gj a.block ha]
 refine⟨le,fun r' es' en=> ?_,fun r1 r2 cB h1 h2 h3 h4=> ?_,fun r' h1 h2 hb=> ?_,fun b hb=>Nat.lt_of_lt_of_le (ho.blt b hb) le.size⟩
 rotate_left 2
 · by_cases e:r'=r
   · subst e
     simp only[μ',av] at hb
     have:=ho.blt _ hb
     omega
   · simp only[μ',aL _ _ e] at h1 h2 hb
     exact ho.p8 r' h1 h2 hb
 · by_cases e:r'=r
   · subst e
     simp only[μ',av] at en
     injection en with en
     subst en
     refine .inr ?_
     unfold oa
     simp only[μ',av]
     exact⟨trivial,by simp,ob,mT,EG.mono le⟩
   · have hO:μ'.O r'=μ.O r':=by simp[μ',aL _ _ e]
     have hφ:μ'.φ r'=μ.φ r':=by simp[μ',aL _ _ e]
     rw[hO] at en
     exact ej.bZ le (ho.ok r' es' en) (by rw[hO]) hφ fun hc=>gj _ (ej.cD (ho.ok r' es' en) hc)
 · have hold: ∀r',r'≠r→(μ.O r').es.isSome=true→(μ.φ r').cap≠0→(μ.φ r').cD<μ.w.heap.size:=fun r' _ hs ye=>by
     obtain⟨es',he⟩:=Option.isSome_iff_exists.1 hs
     exact ej.cD (ho.ok r' es' he) ye
   by_cases e1:r1=r
   · subst e1
     have e2:r2≠r1:=fun e=>cB e.symm
     simp only[μ',av,aL _ _ e2] at h1 h2 h3 h4 ⊢
     have:=hold r2 e2 h2 h4
     omega
   · by_cases e2:r2=r
     · subst e2
       simp only[μ',av,aL _ _ e1] at h1 h2 h3 h4 ⊢
       have:=hold r1 e1 h1 h3
       omega
     · simp only[μ',aL _ _ e1,aL _ _ e2] at h1 h2 h3 h4 ⊢
       exact ho.inj r1 r2 cB h1 h2 h3 h4
theorem mX {X:Ctx} {μ:Mu} (ho:aS X μ) (r:Nat) {es es':List V} {ob ob':Go.Obj} (bp: (μ.O r).es=some es) (fm: (μ.O r).fz=false) (b5: (μ.O r).sz=0)
   (hb:μ.w.heap[(μ.φ r).cD]? =some ob) (kK: (μ.φ r).cap≠0) (EG:jO X μ ob es) (Q3:jO X μ ob' es'):
   let μ':Mu:=⟨{μ.w with heap:=μ.w.heap.set! (μ.φ r).cD ob'},μ.φ,cW μ.O r {μ.O r with es:=some es'}⟩
   Le μ μ'∧aS X μ':=by
 intro μ'
 have bJ: (μ.φ r).cD<μ.w.heap.size:=(Array.getElem?_eq_some_iff.1 hb).1
 have mT:μ'.w.heap[(μ.φ r).cD]? =some ob':=by simp[μ',Array.getElem?_setIfInBounds,bJ]
 have mU: ∀b,b≠(μ.φ r).cD→μ'.w.heap[b]? =μ.w.heap[b]? :=fun b cB=>by simp[μ',Array.getElem?_setIfInBounds,Ne.symm cB]
 have wD:μ'.w.heap.size=μ.w.heap.size:=by simp[μ']
 have fD:μ.own (μ.φ r).cD:=⟨r,by simp[bp],fm,kK,rfl⟩
 have qa: ∀x,(μ'.O x).gen=(μ.O x).gen∧(μ'.O x).sz=(μ.O x).sz∧(μ'.O x).fz=(μ.O x).fz∧(μ'.O x).es.isSome=(μ.O x).es.isSome:=fun x=>by
   by_cases e:x=r
   · subst e;simp[μ',av,bp]
   · simp[μ',aL _ _ e]
 have CM: ∀b,μ'.own b→μ.own b:=by
   rintro b ⟨r',h1,h2,h3,h4⟩
   rw[(qa r').2.2.2] at h1
   rw[(qa r').2.2.1] at h2
   exact⟨r',h1,h2,h3,h4⟩
 have le:Le μ μ':=by
   refine⟨by omega,fun b p9 ef=> ⟨mU b (fun e=>ef (e ▸ fD)),fun h=>ef (CM b h)⟩,fun r'=>by rw[(qa r').1];exact Nat.le_refl _,fun r' _=> ⟨rfl,(qa r').2.1⟩,rfl,rfl,rfl,fun a ha=> ?_⟩
   by_cases e:a.block=(μ.φ r).cD
   · rw[Q3.live a μ'.w (by rw[e];exact mT),EG.live a μ.w (by rw[e];exact hb)]
   · simp only[World.frozen?,mU _ e]
 refine⟨le,fun r' Q1 mV=> ?_,fun r1 r2 cB h1 h2 h3 h4=> ?_,fun r' h1 h2 hb=> ?_,fun b hb=>Nat.lt_of_lt_of_le (ho.blt b hb) le.size⟩
 · by_cases e:r'=r
   · subst e
     simp only[μ',av] at mV
     injection mV with mV
     subst mV
     refine .inr ?_
     unfold oa
     rw[(qa r').2.1]
     exact⟨b5,kK,ob',mT,Q3.mono le⟩
   · have hO:μ'.O r'=μ.O r':=by simp[μ',aL _ _ e]
     rw[hO] at mV
     exact ej.bZ le (ho.ok r' Q1 mV) (by rw[hO]) rfl fun VD=>mU _ (ho.inj r' r e (by simp[mV]) (by simp[bp]) VD kK)
 · rw[(qa r1).2.2.2] at h1
   rw[(qa r2).2.2.2] at h2
   exact ho.inj r1 r2 cB h1 h2 h3 h4
 · rw[(qa r').2.2.2] at h1
   exact ho.p8 r' h1 h2 hb
end Go.AM
namespace Go.AM
open Go Go.RowKit
structure Rel (X:Ctx) (T:Nat→V) (a:Go.Act) (μ:Mu):Prop where
 tmps: ∀t,aj X μ (T t) (a.tmps.getD t undef)
 aN:aS X μ
def b4 (X:Ctx) (o:Oper) (a:Go.Act) (μ:Mu) (O':Nat→Obj) (v:V):Prop:=
 ∃val w' φ',((execOp a.eval o).run X.P μ.w= .ok (.value val) w'∨((execOp a.eval o).run X.P μ.w= .ok .skip w'∧val=undef))∧
  aj X ⟨w',φ',O'⟩ v val∧Le μ ⟨w',φ',O'⟩∧aS X ⟨w',φ',O'⟩
theorem aB {X:Ctx} {o:Oper} {a:Go.Act} {μ:Mu} {v:V} {val:Value} (ho:aS X μ) (ag: (execOp a.eval o).run X.P μ.w= .ok (.value val) μ.w)
  (hv:aj X μ v val):b4 X o a μ μ.O v:=
 ⟨val,μ.w,μ.φ,.inl ag,hv,Le.refl μ,ho⟩
theorem bM {P:Program} {s:Sem Value} {w w':World} {val:Value} (h:s.run P w= .ok val w'): (do pure (Next.value (←s)):Sem Next).run P w= .ok (.value val) w':=by
 simp[Sem.run_bind,h]
theorem CX {P:Program} {s:Sem Unit} {w w':World} (h:s.run P w= .ok () w'): (do s;pure Next.skip:Sem Next).run P w= .ok .skip w':=by
 simp[Sem.run_bind,h]
theorem aV (C:aO) (x:aI) (k:V→Act) (σ:St): (ev x k).run C σ=(k (aQ σ x)).run C σ:=by cases x<;>rfl
theorem oh (C:aO): ∀ (xs:List aI) (k:List V→Act) (σ:St),(tG xs k).run C σ=(k (xs.map (aQ σ))).run C σ
 | [],_,_=>rfl
 | x::xs,k,σ=>by simp only[tG,aV,oh C xs,List.map_cons]
theorem z9 (C:aO) (x:Option aI) (k:Option V→Act) (σ:St): (sS x k).run C σ=(k (x.map (aQ σ))).run C σ:=by
 cases x with
 | none=>rfl
 | some x=>exact aV C x _ σ
theorem cV {C:aO} {r:Option V} {σ σ':St} {v:V} (h: (cp r).run C σ=some (v,σ')):r=some v∧σ'=σ:=by
 cases r with
 | none=>simp[cp,Act.run] at h
 | some u=>simp only[cp,Act.run,Option.some.injEq,Prod.mk.injEq] at h;exact⟨by rw[h.1],h.2.symm⟩
theorem aK {C:aO} {u v:V} {σ σ':St} (h: (Act.done u).run C σ=some (v,σ')):u=v∧σ'=σ:=by
 simp only[Act.run,Option.some.injEq,Prod.mk.injEq] at h;exact⟨h.1,h.2.symm⟩
theorem aq {C:aO} {p:V×St} {σ:St}: (Act.fail).run C σ≠some p:=by simp[Act.run]
theorem mm {X:Ctx} {μ:Mu} {v:Value} {c:V} (h:lP v=some c):aj X μ c v∧c.aC=true:=by
 unfold lP at h
 split at h<;>first
  | (injection h with h;subst h;simp[aj,V.aC,V.al])
  | simp at h
theorem kL {X:Ctx} {μ:Mu}: ∀ {vs:List Value} {cs:List V},ij vs=some cs→ah X μ cs vs∧cs.all V.aC=true
 | [],cs,h=>by simp[ij] at h;subst h;simp[ah]
 | v::vs,cs,h=>by
   simp only[ij] at h
   split at h
   · rename_i c cj h1 h2
     injection h with h;subst h
     obtain⟨a1,a2⟩:=mm (X:=X) (μ:=μ) h1
     obtain⟨b1,b2⟩:=kL (X:=X) (μ:=μ) h2
     simp[ah,a1,a2,b1,b2]
   · simp at h
theorem dx {X:Ctx} {μ:Mu} {v:Value} {c:V} (h:rL v=some c):aj X μ c v∧c.cw=true:=by
 unfold rL at h
 split at h
 · rename_i cs
   simp only[Option.map_eq_some_iff] at h
   obtain⟨l,h1,rfl⟩:=h
   obtain⟨a1,a2⟩:=kL (X:=X) (μ:=μ) h1
   simp[aj,V.cw,V.isAgg,a1,a2]
 · obtain⟨a1,a2⟩:=mm (X:=X) (μ:=μ) h
   exact⟨a1,by simp[V.cw,a2]⟩
theorem aG {X:Ctx} {μ:Mu} {T:Nat→V} {a:Go.Act} {x:Operand} {y:aI} (hr:Rel X T a μ) (h:cm X x=some y) (O:Nat→Obj):aj X μ (aQ ⟨T,O⟩ y) (a.eval x):=by
 cases x with
 | tmp t=>simp[cm] at h;subst h;exact hr.tmps t
 | const v=>
   simp only[cm,Option.map_eq_some_iff] at h
   obtain⟨c,h1,rfl⟩:=h
   exact(dx h1).1
 | global g=>simp[cm] at h
 | func f=>
   simp only[cm,Option.map_eq_some_iff] at h
   obtain⟨n,h1,rfl⟩:=h
   simp only[aQ,Go.Act.eval,aj]
   exact⟨f,#[],rfl,h1,by simp[ah]⟩
theorem oi {X:Ctx} {μ:Mu} {T:Nat→V} {a:Go.Act} (hr:Rel X T a μ) (O:Nat→Obj): ∀ {xs:List Operand} {ys:List aI},nZ X xs=some ys→
   ah X μ (ys.map (aQ ⟨T,O⟩)) (xs.map a.eval)
 | [],ys,h=>by simp[nZ] at h;subst h;simp[ah]
 | x::xs,ys,h=>by
   simp only[nZ] at h
   split at h
   · rename_i b bs h1 h2
     injection h with h;subst h
     simp only[List.map_cons,ah]
     exact⟨aG hr h1 O,oi hr O h2⟩
   · simp at h
theorem jR {X:Ctx} {μ:Mu} {e u:V} {x:Value} {off sz:Nat} (h:aj X μ e x) (hp:part true off sz e=some u):
   ∃cs,x= .agg cs∧off+sz≤cs.size∧aj X μ u (.agg (cs.extract off (off+sz))):=by
 cases e<;>simp[part] at hp
 rename_i cs
 obtain⟨h1,h2⟩:=hp
 subst h2
 simp only[aj] at h
 obtain⟨h0,vs,rfl,hv⟩:=h
 have hl:=hv.length
 simp at hl
 refine⟨vs,rfl,by omega,?_⟩
 simp only[aj]
 refine⟨?_,_,rfl,?_⟩
 · simp only[List.all_eq_true] at h0 ⊢
   intro c hc
   exact h0 c (List.mem_of_mem_drop (List.mem_of_mem_take hc))
 · have:=ah.take sz (ah.drop off hv)
   simpa [Array.toList_extract,List.extract_eq_take_drop] using this
theorem jf {X:Ctx} {μ:Mu} {e u:V} {x:Value} {off sz:Nat} (h:aj X μ e x) (hp:part false off sz e=some u):
   e.cw=true∧ ∃c,x.cells[off]? =some c∧aj X μ u c:=by
 by_cases ha: ∃cs,e= .agg cs
 · obtain⟨cs,rfl⟩:=ha
   simp only[part] at hp
   simp only[aj] at h
   obtain⟨h0,vs,rfl,hv⟩:=h
   obtain⟨c,h1,h2⟩:=hv.get hp
   exact⟨by simp[V.cw,V.isAgg],c,by simpa [Value.cells] using h1,h2⟩
 · have:part false off sz e=if e.aC∧off=0 then some e else none:=by
     cases e<;>first| rfl| exact absurd ⟨_,rfl⟩ ha
   rw[this] at hp
   split at hp
   · rename_i hc
     injection hp with hp;subst hp
     refine⟨by simp[V.cw,hc.1],x,?_,h⟩
     rw[(h.jP hc.1).2,hc.2];simp
   · simp at hp
section
variable {X:Ctx} {h:Hints} {dst:Nat} {E:Env} {C:aO} {o:Oper} {a:Go.Act} {T:Nat→V} {μ:Mu} {v:V} {σ':St}
theorem ah.u6 {X:Ctx} {μ:Mu}: ∀ (ks:List Nat) {cs:List V} {vs:List Value},ah X μ cs vs→ah X μ (AM.u6 ks cs) vs
 | [],cs,vs,h=>by simpa [AM.u6] using h
 | k::ks,[],vs,h=>by simpa [AM.u6] using h
 | k::ks,c::cs,[],h=>by simp[ah] at h
 | k::ks,c::cs,v::vs,h=>by
   simp only[ah] at h
   simp only[AM.u6,ah]
   refine⟨?_,ah.u6 ks h.2⟩
   split
   · obtain⟨a,rfl⟩:=by simpa [aj] using h.1
     simp only[aj]
     exact⟨rfl,rfl,a,0,[],rfl,Nat.le_refl _,by simp[ah],.inl trivial⟩
   · exact h.1
theorem mY: ∀ (ks:List Nat) {cs:List V},cs.all V.aC=true→(AM.u6 ks cs).all V.aC=true
 | [],cs,h=>by simpa [AM.u6] using h
 | k::ks,[],h=>by simp[AM.u6]
 | k::ks,c::cs,h=>by
   simp only[List.all_cons,Bool.and_eq_true] at h
   simp only[AM.u6,List.all_cons,Bool.and_eq_true]
   refine⟨?_,mY ks h.2⟩
   split
   · rfl
   · exact h.1
theorem aj.yf {X:Ctx} {μ:Mu} (ks:List Nat) {v:V} {val:Value} (h:aj X μ v val):aj X μ (AM.yf ks v) val:=by
 unfold AM.yf
 split
 · simp only[aj] at h ⊢
   obtain⟨h1,vs,rfl,h2⟩:=h
   exact⟨mY ks h1,vs,rfl,h2.u6 ks⟩
 · split
   · obtain⟨a,rfl⟩:=by simpa [aj] using h
     simp only[aj]
     exact⟨rfl,rfl,a,0,[],rfl,Nat.le_refl _,by simp[ah],.inl trivial⟩
   · exact h
 · exact h
theorem aj.Hg {X:Ctx} {μ:Mu} (ks:List Nat) {σ:St} {y:aI} {val:Value} (h:aj X μ (aQ σ y) val):aj X μ (aQ σ (AM.Hg ks y)) val:=by
 cases y with
 | tmp t=>exact h
 | const v=>exact aj.yf ks h
theorem K8 {x:Operand} {y:aI} (ks:List Nat) (hr:Rel X T a μ) (ho:o.op= .move x∨o.op= .assign x) (ht:cm X x=some y) (ag: (au E (.move (Hg ks y))).run C ⟨T,μ.O⟩=some (v,σ')):
  σ'.T=T∧b4 X o a μ σ'.O v:=by
 simp only[au,aV] at ag
 obtain⟨rfl,rfl⟩:=aK ag
 refine⟨rfl,aB hr.aN ?_ (aj.Hg ks (aG hr ht _))⟩
 rcases ho with ho| ho<;>simp[execOp,ho]
theorem Hi {h:Hints} {dst:Nat} {x:Operand} {lY:oS} (hr:Rel X T a μ) (ho:o.op= .move x∨o.op= .assign x) (ht:rM X h dst x=some lY) (ag: (au E lY).run C ⟨T,μ.O⟩=some (v,σ')):
   σ'.T=T∧b4 X o a μ σ'.O v:=by
 unfold rM at ht
 split at ht
 · rename_i r sz hn hb
   injection ht with ht;subst ht
   simp only[au] at ag
   split at ag
   · rename_i b5
     simp only[Act.run,Option.some.injEq,Prod.mk.injEq] at ag
     obtain⟨rfl,rfl⟩:=ag
     have hx:x= .const (.slice none 0 0):=by
       unfold isNil at hn
       split at hn
       · rfl
       · simp at hn
     subst hx
     obtain⟨le,uX⟩:=A0 hr.aN r sz b5
     refine⟨rfl,.slice none 0 0,μ.w,cW μ.φ r ⟨0,0,0⟩,.inl ?_,?_,le,uX⟩
     · rcases ho with ho| ho<;>simp[execOp,ho,Go.Act.eval]
     · simp only[aj,av]
       exact⟨_,0,rfl,Nat.le_refl _,Nat.le_refl _,fun _=> ⟨b5,rfl,.inl rfl⟩⟩
   · exact absurd ag aq
 · split at ht
   · rename_i r hrn
     simp only[Option.map_eq_some_iff] at ht
     obtain⟨y,h1,rfl⟩:=ht
     simp only[au,aV] at ag
     have bz:=aG hr h1 μ.O
     have iO: (execOp a.eval o).run X.P μ.w= .ok (.value (a.eval x)) μ.w:=by rcases ho with ho| ho<;>simp[execOp,ho]
     split at ag
     · rename_i r1 g off len he
       rw[he] at bz
       split at ag
       · obtain⟨rfl,rfl⟩:=aK ag
         exact⟨rfl,aB hr.aN iO bz⟩
       · rename_i cB
         simp only[Act.run] at ag
         split at ag
         · rename_i hg
           simp only[Act.run,Option.some.injEq,Prod.mk.injEq] at ag
           obtain⟨rfl,rfl⟩:=ag
           obtain⟨le,uX⟩:=F5 hr.aN (r:=r) (r1:=r1) cB
           refine⟨rfl,a.eval x,μ.w,cW μ.φ r (μ.φ r1),.inl iO,?_,le,uX⟩
           simp only[aj] at bz ⊢
           obtain⟨ad,cap,k1,k2,k3,k4⟩:=bz
           obtain⟨k5,k6⟩:=k4 hg
           have rR:r≠r1:=fun e=>cB e.symm
           simp only[aL _ _ rR,av]
           exact⟨ad,cap,k1,k2,Nat.le_refl _,fun _=> ⟨k5,k6⟩⟩
         · simp[Act.run] at ag
     · obtain⟨rfl,rfl⟩:=aK ag
       exact⟨rfl,aB hr.aN iO bz⟩
   · simp only[Option.map_eq_some_iff] at ht
     obtain⟨y,h1,rfl⟩:=ht
     exact K8 _ hr ho h1 ag
theorem F6 {c p q:Operand} {c' p' q':aI} (hr:Rel X T a μ) (ho:o.op= .pick c p q) (h1:cm X c=some c') (h2:cm X p=some p') (h3:cm X q=some q')
   (ag: (au E (.pick c' p' q')).run C ⟨T,μ.O⟩=some (v,σ')):σ'.T=T∧b4 X o a μ σ'.O v:=by
 simp only[au,aV] at ag
 have hc:=aG hr h1 μ.O
 split at ag
 · rename_i e
   rw[e] at hc
   simp only[aj] at hc
   rw[aV] at ag
   obtain⟨rfl,rfl⟩:=aK ag
   refine⟨rfl,aB hr.aN ?_ (aG hr h2 _)⟩
   simp[execOp,ho,hc,asBool,Sem.run_bind]
 · rename_i e
   rw[e] at hc
   simp only[aj] at hc
   rw[aV] at ag
   obtain⟨rfl,rfl⟩:=aK ag
   refine⟨rfl,aB hr.aN ?_ (aG hr h3 _)⟩
   simp[execOp,ho,hc,asBool,Sem.run_bind]
 · exact absurd ag aq
theorem wE {x:Operand} {y:aI} (hr:Rel X T a μ) (ho:o.op= .nilCheck x) (ht:cm X x=some y) (ag: (au E (.nilCheck y)).run C ⟨T,μ.O⟩=some (v,σ')):
   σ'.T=T∧b4 X o a μ σ'.O v:=by
 simp only[au,aV] at ag
 have hx:=aG hr ht μ.O
 split at ag
 · rename_i e
   obtain⟨rfl,rfl⟩:=aK ag
   refine⟨rfl,aB hr.aN ?_ (e ▸ hx)⟩
   rw[e] at hx
   simp only[aj] at hx
   obtain⟨p,hp,_⟩:=hx
   simp[execOp,ho,hp]
 · rename_i e
   obtain⟨rfl,rfl⟩:=aK ag
   refine⟨rfl,aB hr.aN ?_ (e ▸ hx)⟩
   rw[e] at hx
   simp only[aj] at hx
   obtain⟨_,_,b,o',sz,q,hp,_⟩:=hx
   simp[execOp,ho,hp]
 · rename_i e
   obtain⟨rfl,rfl⟩:=aK ag
   refine⟨rfl,aB hr.aN ?_ (e ▸ hx)⟩
   rw[e] at hx
   simp only[aj] at hx
   obtain⟨_,_,q,hp,_⟩:=hx
   simp[execOp,ho,hp]
 · rename_i e
   obtain⟨rfl,rfl⟩:=aK ag
   refine⟨rfl,aB hr.aN ?_ (e ▸ hx)⟩
   rw[e] at hx
   simp only[aj] at hx
   obtain⟨F,cv,hp,_⟩:=hx
   simp[execOp,ho,hp]
 · exact absurd ag aq
theorem vk {s:TypeId} {x:Operand} {i:Nat} {y:aI} {fs:Array Field} {f:Field} {n:Nat} (hr:Rel X T a μ) (ho:o.op= .fieldAddr s x i) (ht:cm X x=some y)
   (hd:aR X s=some (.struct fs)) (hf:fs[i]? =some f) (hn:ba X f.type=some (n+1)) (ag: (au E (.fieldAddr f.offset y)).run C ⟨T,μ.O⟩=some (v,σ')):
   σ'.T=T∧b4 X o a μ σ'.O v:=by
 simp only[au,aV] at ag
 have hx:=aG hr ht μ.O
 have hi: ∃inf,X.P.info? f.type=some inf∧inf.size=n+1:=by
   simpa [ba,info] using hn
 obtain⟨inf,pt,yS⟩:=hi
 have b5:X.P.cellsOf f.type=n+1:=by simp[Program.cellsOf,pt,yS]
 have key: ∀p:Addr,a.eval x= .pointer (some p)→(execOp a.eval o).run X.P μ.w= .ok (.value (.pointer (some (p.add f.offset)))) μ.w:=fun p hp=>by
   simp only[execOp,ho]
   refine bM ?_
   simp[Instr.fieldAt,Sem.run_bind,run_underlying hd,hf,Instr.sureAddr,hp,fieldPlace,run_sizeOf (w:=μ.w) pt,b5]
 have nV: ∀ (b q:Nat),(⟨b,q,none⟩:Addr).add f.offset=⟨b,q+f.offset,none⟩:=fun b q=>by unfold Addr.add;split<;>simp_all
 split at ag
 · rename_i e
   obtain⟨rfl,rfl⟩:=aK ag
   rw[e] at hx
   simp only[aj] at hx
   obtain⟨p,hp,h1,h2⟩:=hx
   refine⟨rfl,aB hr.aN (key p hp) ?_⟩
   simp only[aj]
   refine⟨_,rfl,h1,fun eg=> ⟨(h2 eg).1,?_⟩⟩
   rw[(h2 eg).2,nV];simp[Nat.add_assoc]
 · rename_i e
   obtain⟨rfl,rfl⟩:=aK ag
   rw[e] at hx
   simp only[aj] at hx
   obtain⟨h0,iG,b,o',sz,q,hp,h1,h2,h3,h4⟩:=hx
   refine⟨rfl,aB hr.aN (key _ hp) ?_⟩
   simp only[aj]
   exact⟨h0,iG,b,o',sz,q,by rw[nV];simp[Nat.add_assoc],h1,h2,h3,h4⟩
 · rename_i e
   obtain⟨rfl,rfl⟩:=aK ag
   rw[e] at hx
   simp only[aj] at hx
   obtain⟨h0,iG,q,hp,h1,h2,h3,h4⟩:=hx
   refine⟨rfl,aB hr.aN (key _ hp) ?_⟩
   simp only[aj]
   exact⟨h0,iG,q,by rw[nV];simp[Nat.add_assoc],h1,h2,h3,h4⟩
 · exact absurd ag aq
theorem yT {x:Operand} {i:Nat} {y:aI} (hr:Rel X T a μ) (ho:o.op= .extract x i) (ht:cm X x=some y) (ag: (au E (.extract y i)).run C ⟨T,μ.O⟩=some (v,σ')):
   σ'.T=T∧b4 X o a μ σ'.O v:=by
 simp only[au,aV] at ag
 have hx:=aG hr ht μ.O
 split at ag
 · rename_i vs e
   obtain⟨h1,rfl⟩:=cV ag
   rw[e] at hx
   simp only[aj] at hx
   obtain⟨us,hu,hv⟩:=hx
   obtain⟨c,h2,h3⟩:=hv.get h1
   refine⟨rfl,aB hr.aN ?_ h3⟩
   simp only[execOp,ho]
   refine bM ?_
   have CY:us[i]? =some c:=by simpa using h2
   simp[Instr.extract,hu,CY]
 · exact absurd ag aq
theorem wF {f:FuncId} {first caps:Array Operand} {n:Nat} {cs:List aI} (hr:Rel X T a μ) (ho:o.op= .makeFunc (.func f) first caps) (Y6:first.isEmpty=true)
   (hn:X.ig f=some n) (ht:nZ X caps.toList=some cs) (ag: (au E (.fy n cs)).run C ⟨T,μ.O⟩=some (v,σ')):σ'.T=T∧b4 X o a μ σ'.O v:=by
 simp only[au,oh] at ag
 obtain⟨rfl,rfl⟩:=aK ag
 have hx:=oi hr μ.O ht
 obtain rfl:first= #[]:=by simpa using Y6
 refine⟨rfl,aB (val:= .func (.func f) #[] (caps.map a.eval)) hr.aN ?_ ?_⟩
 · simp[execOp,ho,Instr.makeFunc,Sem.run_bind]
 · simp only[aj]
   exact⟨f,_,rfl,hn,by simpa using hx⟩
theorem pC {t:TypeId} {x:Operand} {n:Nat} {y:aI} (hr:Rel X T a μ) (ho:o.op= .makeInterface t x) (hn:X.gq t=some n) (ht:cm X x=some y)
   (hd: ∃d,aR X t=some d∧ ∀ms,d≠ .interface ms) (ag: (au E (.gG n y)).run C ⟨T,μ.O⟩=some (v,σ')):σ'.T=T∧b4 X o a μ σ'.O v:=by
 simp only[au,aV] at ag
 obtain⟨rfl,rfl⟩:=aK ag
 have hx:=aG hr ht μ.O
 obtain⟨d,yK,s7⟩:=hd
 refine⟨rfl,aB (val:= .iface t (a.eval x)) hr.aN ?_ ?_⟩
 · simp only[execOp,ho]
   refine bM ?_
   simp only[Instr.makeInterface,Sem.run_bind,run_underlying yK,Result.andThen_ok]
   cases d<;>first| rfl| exact absurd rfl (s7 _)
 · simp only[aj]
   exact⟨t,_,rfl,hn,hx⟩
theorem CZ {t:TypeId} {x:Operand} {i:Nat} {y:aI} {fs:Array Field} {f:Field} {g:Bool} {sz:Nat} (hr:Rel X T a μ) (ho:o.op= .field t x i) (ht:cm X x=some y)
   (hd:aR X t=some (.struct fs)) (hf:fs[i]? =some f) (hg:eX X f.type=some g) (hn:ba X f.type=some sz)
   (ag: (au E (.field g f.offset sz y)).run C ⟨T,μ.O⟩=some (v,σ')):σ'.T=T∧b4 X o a μ σ'.O v:=by
 simp only[au,aV] at ag
 split at ag
 case isFalse=>exact absurd ag aq
 rename_i A5
 obtain⟨hp,rfl⟩:=cV ag
 have hx:=aG hr ht μ.O
 obtain⟨inf,pt,yS⟩: ∃inf,X.P.info? f.type=some inf∧inf.size=sz:=by simpa [ba,info] using hn
 have b5:X.P.cellsOf f.type=sz:=by simp[Program.cellsOf,pt,yS]
 obtain⟨d,Cd⟩: ∃d,X.P.underlying f.type=some d:=by
   simp only[eX,aR,Option.map_eq_some_iff] at hg
   obtain⟨d,h1,_⟩:=hg;exact⟨d,h1⟩
 have C0: (isAgg f.type).run X.P μ.w= .ok g μ.w:=by
   simp only[eX,aR,Cd,Option.map_some,Option.some.injEq] at hg
   simp only[isAgg,Sem.run_bind,run_underlying Cd,Result.andThen_ok]
   subst hg
   cases d<;>rfl
 cases g with
 | true=>
   obtain⟨cs,hc,hle,hv⟩:=jR hx hp
   refine⟨rfl,aB hr.aN ?_ hv⟩
   simp only[execOp,ho]
   refine bM ?_
   simp[Instr.field,Sem.run_bind,run_underlying hd,hf,part,C0,hc,asAgg,run_sizeOf (w:=μ.w) pt,b5,Go.part]
 | false=>
   obtain⟨_,c,hc,hv⟩:=jf hx hp
   cases hy:aQ ⟨T,μ.O⟩ y<;>rw[hy] at A5<;>simp[V.isAgg] at A5
   rw[hy] at hx
   simp only[aj] at hx
   obtain⟨_,cs,jc,_⟩:=hx
   rw[jc] at hc
   refine⟨rfl,aB hr.aN ?_ hv⟩
   simp only[execOp,ho]
   refine bM ?_
   have ye:cs[f.offset]? =some c:=by simpa [Value.cells] using hc
   simp[Instr.field,Sem.run_bind,run_underlying hd,hf,C0,jc,asAgg,Go.part,ye]
end
end Go.AM
namespace Go.AM
open Go Go.RowKit
theorem lR {X:Ctx} {t:TypeId} {g:Bool} (hg:eX X t=some g) (w:World): (isAgg t).run X.P w= .ok g w:=by
 simp only[eX,aR,Option.map_eq_some_iff] at hg
 obtain⟨d,Cd,hg⟩:=hg
 simp only[isAgg,Sem.run_bind,run_underlying Cd,Result.andThen_ok]
 subst hg
 cases d<;>rfl
theorem cA {X:Ctx} {t:TypeId} {sz:Nat} (hn:ba X t=some sz) (w:World): (sizeOf t).run X.P w= .ok sz w:=by
 obtain⟨inf,pt,yS⟩: ∃inf,X.P.info? t=some inf∧inf.size=sz:=by simpa [ba,info] using hn
 have b5:X.P.cellsOf t=sz:=by simp[Program.cellsOf,pt,yS]
 rw[run_sizeOf (w:=w) pt,b5]
theorem oo {X:Ctx} {t:TypeId} {sz:Nat} (hg:eX X t=some true) (hn:ba X t=some sz) (cs:Array Value) (off:Nat) (w:World):
  (Go.part t cs off).run X.P w= .ok (.agg (cs.extract off (off+sz))) w:=by
 simp[Go.part,Sem.run_bind,lR hg,cA hn]
theorem eu {X:Ctx} {t:TypeId} (hg:eX X t=some false) (cs:Array Value) (off:Nat) (c:Value) (hc:cs[off]? =some c) (w:World):
  (Go.part t cs off).run X.P w= .ok c w:=by
 simp[Go.part,Sem.run_bind,lR hg,hc]
theorem rS: ∀ (ks:List Nat) {F3:List Nat} {cs ds:List V} {b:Bool},dH (ks++F3) cs ds=some b→
   ∃b1 b2,dH ks (cs.take ks.length) (ds.take ks.length)=some b1∧dH F3 (cs.drop ks.length) (ds.drop ks.length)=some b2∧b=(b1 &&b2)
 | [],F3,cs,ds,b,h=> ⟨true,b,by simp[dH],by simpa using h,by simp⟩
 | k::ks,F3,[],_,b,h=>by simp[dH] at h
 | k::ks,F3,_::_,[],b,h=>by simp[dH] at h
 | k::ks,F3,c::cs,d::ds,b,h=>by
   simp only[List.cons_append,dH] at h
   split at h
   · rename_i x y hx hy
     injection h with h;subst h
     obtain⟨b1,b2,h1,h2,h3⟩:=rS ks hy
     refine⟨x &&b1,b2,?_,by simpa using h2,by rw[h3,Bool.and_assoc]⟩
     simp[dH,hx,h1]
   · simp at h
theorem qb: ∀ {ks:List Nat} {cs ds:List V} {b:Bool},dH ks cs ds=some b→cs.length=ks.length∧ds.length=ks.length
 | [],[],[],_,_=> ⟨rfl,rfl⟩
 | [],[],_::_,_,h=>by simp[dH] at h
 | [],_::_,_,_,h=>by simp[dH] at h
 | _::_,[],_,_,h=>by simp[dH] at h
 | _::_,_::_,[],_,h=>by simp[dH] at h
 | k::ks,c::cs,d::ds,b,h=>by
   simp only[dH] at h
   split at h
   · rename_i x y hx hy
     obtain⟨h1,h2⟩:=qb hy
     simp[h1,h2]
   · simp at h
theorem Aa {X:Ctx} {μ:Mu} {t:TypeId} {m k:Nat} {c e:V} {x y:Value} {b:Bool} {D:TypeDesc} (hd:aR X t=some D)
   (hk: (k=0∧D= .bool)∨(k=1∧ ∃q,D= .int q)∨(k=2∧D= .string))
   (hc:aj X μ c x) (he:aj X μ e y) (hb:s6 k c e=some b) (w:World): (Op.equalIn (m+1) t x y).run X.P w= .ok b w:=by
 unfold s6 at hb
 split at hb
 · injection hb with hb;subst hb
   simp only[aj] at hc he
   subst hc;subst he
   rcases hk with⟨_,rfl⟩ | ⟨h,_⟩ | ⟨h,_⟩
   · exact run_equalIn_bool' w m t _ _ hd
   · cases h
   · cases h
 · split at hb
   · injection hb with hb;subst hb
     simp only[aj] at hc he
     subst hc;subst he
     rename_i Y7
     subst Y7
     rcases hk with⟨h,_⟩ | ⟨_,q,rfl⟩ | ⟨h,_⟩
     · cases h
     · exact run_equalIn_int w m t _ _ _ _ hd
     · cases h
   · simp at hb
 · injection hb with hb;subst hb
   simp only[aj] at hc he
   obtain⟨p,rfl,hp⟩:=hc
   obtain⟨q,rfl,hq⟩:=he
   rcases hk with⟨h,_⟩ | ⟨h,_⟩ | ⟨_,rfl⟩
   · cases h
   · cases h
   · rw[run_equalIn_string w m t _ _ hd]
     congr 1
     rw[ByteArray.toList_eq,ByteArray.toList_eq,hp,hq]
     rw[Bool.eq_iff_iff];simp
 · simp at hb
theorem qc {X:Ctx} {μ:Mu} (w:World) {e:TypeId} {k m:Nat} (hg:eX X e=some false) (h1:X.P.cellsOf e=1)
   (ih: ∀c f x y b,aj X μ c x→aj X μ f y→s6 k c f=some b→(Op.equalIn m e x y).run X.P w= .ok b w):
   ∀ (n off:Nat) (cs ds:List V) (xs ys:List Value) (b:Bool),ah X μ cs xs→ah X μ ds ys→dH (List.replicate n k) (cs.drop off) (ds.drop off)=some b→
     (Op.eqItems m e (X.P.cellsOf e) xs.toArray ys.toArray (List.range' off n)).run X.P w= .ok b w
 | 0,off,cs,ds,xs,ys,b,hx,hy,hb=>by
   cases hc:cs.drop off<;>cases he:ds.drop off<;>rw[hc,he] at hb<;>simp[dH] at hb
   subst hb
   simp[Op.eqItems]
 | n+1,off,cs,ds,xs,ys,b,hx,hy,hb=>by
   rw[List.replicate_succ] at hb
   cases hc:cs.drop off with
   | nil=>rw[hc] at hb;simp[dH] at hb
   | cons c cj=>
     cases he:ds.drop off with
     | nil=>rw[hc,he] at hb;simp[dH] at hb
     | cons f Y8=>
       rw[hc,he] at hb
       simp only[dH] at hb
       split at hb
       · rename_i p q hp hq
         injection hb with hb;subst hb
         have gc:cs[off]? =some c:=by
          have:=congrArg (fun l=>l[0]?) hc
          simpa using this
         have gf:ds[off]? =some f:=by
          have:=congrArg (fun l=>l[0]?) he
          simpa using this
         obtain⟨x,gx,rx⟩:=hx.get gc
         obtain⟨y,gy,ry⟩:=hy.get gf
         have s9:cs.drop (off+1)=cj:=by
          have:=congrArg (List.drop 1) hc
          simpa [List.drop_drop] using this
         have VE:ds.drop (off+1)=Y8:=by
          have:=congrArg (List.drop 1) he
          simpa [List.drop_drop] using this
         have rest:=qc w hg h1 ih n (off+1) cs ds xs ys q hx hy (by rw[s9,VE];exact hq)
         have px:xs.toArray[off*X.P.cellsOf e]? =some x:=by rw[h1];simpa using gx
         have py:ys.toArray[off*X.P.cellsOf e]? =some y:=by rw[h1];simpa using gy
         rw[List.range'_succ]
         simp only[Op.eqItems,Sem.run_bind,eu hg _ _ _ px,eu hg _ _ _ py,Result.andThen_ok,ih c f x y p rx ry hp]
         cases p
         · simp
         · simpa using rest
       · simp at hb
theorem K9 {   X:Ctx} {μ:Mu} (w:World): ∀d:Nat,
   (∀t ks cs ds xs ys b m,je X d t=some ks→d≤m→ah X μ cs xs→ah X μ ds ys→dH ks cs ds=some b→
     ba X t=some ks.length∧((eX X t=some true∧(Op.equalIn m t (.agg xs.toArray) (.agg ys.toArray)).run X.P w= .ok b w)∨
       (eX X t=some false∧ks.length=1∧ ∃x y,xs=[x]∧ys=[y]∧(Op.equalIn m t x y).run X.P w= .ok b w)))∧
   (∀fs off ks cs ds xs ys b m,pB X d fs off=some ks→d≤m→ah X μ cs xs→ah X μ ds ys→dH ks (cs.drop off) (ds.drop off)=some b→
     (Op.eqFields m xs.toArray ys.toArray fs).run X.P w= .ok b w):=by
 intro d
 induction d with
 | zero=>exact⟨fun _ _ _ _ _ _ _ _ h=>by simp[je] at h,fun _ _ _ _ _ _ _ _ _ h=>by simp[pB] at h⟩
 | succ d ih=>
   refine⟨fun t ks cs ds xs ys b m hk hm hx hy hb=> ?_,fun fs off ks cs ds xs ys b m hk hm hx hy hb=> ?_⟩
   · obtain⟨ m,rfl⟩: ∃m',m=m'+1:=⟨m - 1,by omega⟩
     have scalar: ∀ (D:TypeDesc) (k:Nat),aR X t=some D→((k=0∧D= .bool)∨(k=1∧ ∃q,D= .int q)∨(k=2∧D= .string))→ba X t=some 1→ks=[k]→
         ba X t=some ks.length∧((eX X t=some true∧(Op.equalIn (m+1) t (.agg xs.toArray) (.agg ys.toArray)).run X.P w= .ok b w)∨
       (eX X t=some false∧ks.length=1∧ ∃x y,xs=[x]∧ys=[y]∧(Op.equalIn (m+1) t x y).run X.P w= .ok b w)):=by
       intro D k hd hD hs e
       subst e
       obtain⟨l1,l2⟩:=qb hb
       have lx:=hx.length
       have ly:=hy.length
       match cs,ds,xs,ys,l1,l2,lx,ly with
       | [c],[e],[x],[y],_,_,_,_=>
         simp only[ah,and_true] at hx hy
         simp only[dH,Bool.and_true] at hb
         have p9:s6 k c e=some b:=by
           cases hq:s6 k c e<;>rw[hq] at hb<;>simp at hb;rw[hb]
         refine⟨by simpa using hs,.inr ⟨?_,rfl,x,y,rfl,rfl,Aa hd hD hx hy p9 w⟩⟩
         simp only[eX,hd,Option.map_some]
         rcases hD with⟨_,rfl⟩ | ⟨_,q,rfl⟩ | ⟨_,rfl⟩ <;>rfl
     simp only[je] at hk
     split at hk
     · split at hk<;>simp at hk
       rename_i hd hs
       exact scalar _ 0 hd (by simp) hs hk.symm
     · split at hk<;>simp at hk
       rename_i hd hs
       exact scalar _ 1 hd (by simp) hs hk.symm
     · split at hk<;>simp at hk
       rename_i hd hs
       exact scalar _ 2 hd (by simp) hs hk.symm
     · rename_i fs hd
       split at hk
       · rename_i kM
         split at hk
         · rename_i F3 Y9
           split at hk
           · rename_i hs
             injection hk with hk;subst hk
             refine⟨hs,.inl ⟨by simp[eX,hd],?_⟩⟩
             have Ce:X.P.fieldsOf t=fs:=by
               have lZ:X.P.underlying t=some (.struct fs):=hd
               simp[Program.fieldsOf,lZ]
             rw[run_equalIn_struct w m t _ _ (by rw[Ce];exact hd) kM,Ce]
             exact ih.2 _ 0 _ cs ds xs ys b m Y9 (by omega) hx hy (by simpa using hb)
           · simp at hk
         · simp at hk
       · simp at hk
     · rename_i n e hd
       split at hk
       · rename_i qd
         obtain⟨qd,b5⟩:=qd
         split at hk
         · rename_i k vl
           injection hk with hk;subst hk
           refine⟨by rw[List.length_replicate];exact b5,.inl ⟨by simp[eX,hd],?_⟩⟩
           have qE:ba X e=some 1:=by
             cases d with
             | zero=>simp[je] at vl
             | succ d=>
               simp only[je] at vl
               split at vl<;> (try (split at vl<;>simp at vl<;>assumption)) <;> (try (rename_i Za;simp[eX,Za] at qd)) <;>simp at vl
           obtain⟨inf,pt,yS⟩: ∃inf,X.P.info? e=some inf∧inf.size=1:=by simpa [ba,info] using qE
           have s8:X.P.cellsOf e=1:=by simp[Program.cellsOf,pt,yS]
           rw[run_equalIn_array w m _ _ hd pt,List.range_eq_range']
           refine qc w qd s8 (fun c f x y b' rx ry p9=> ?_) n 0 cs ds xs ys b hx hy (by simpa using hb)
           obtain⟨_,hq⟩:=ih.1 e [k] [c] [f] [x] [y] b' m vl (by omega) (by simp only[ah,and_true];exact rx) (by simp only[ah,and_true];exact ry) (by simp[dH,p9])
           rcases hq with⟨hq,_⟩ | ⟨_,_,x',y',oU,Hj,hq⟩
           · rw[qd] at hq;cases hq
           · obtain rfl:x=x':=by simpa using oU
             obtain rfl:y=y':=by simpa using Hj
             exact hq
         · simp at hk
       · simp at hk
     · simp at hk
   · obtain⟨ m,rfl⟩: ∃m',m=m'+1:=⟨m - 1,by omega⟩
     cases fs with
     | nil=>
       simp only[pB,Option.some.injEq] at hk
       subst hk
       cases hc:cs.drop off<;>cases he:ds.drop off<;>rw[hc,he] at hb<;>simp[dH] at hb
       subst hb
       simp[Op.eqFields]
     | cons f fs=>
       simp only[pB] at hk
       split at hk
       · rename_i hn
         split at hk
         · rename_i k1 vQ
           split at hk
           · rename_i k2 Cc
             injection hk with hk;subst hk
             obtain⟨b1,b2,e1,e2,e3⟩:=rS k1 hb
             obtain⟨hs,ha⟩:=ih.1 f.type k1 _ _ _ _ b1 (m+1) vQ (by omega) (ah.take k1.length (ah.drop off hx)) (ah.take k1.length (ah.drop off hy)) e1
             have wG:=ih.2 fs (off+k1.length) k2 cs ds xs ys b2 (m+1) Cc (by omega) hx hy (by simpa [List.drop_drop] using e2)
             have F7:=hn.2
             have head: (do let a ←Go.part f.type xs.toArray f.offset;let c ←Go.part f.type ys.toArray f.offset;Op.equalIn (m+1) f.type a c:Sem Bool).run X.P w= .ok b1 w:=by
               rcases ha with⟨hg,hq⟩ | ⟨hg,h1,x,y,Uj,Zb,hq⟩
               · simp only[Sem.run_bind,oo hg hs,Result.andThen_ok,F7]
                 rw[←hq]
                 congr 3 <;> (apply Array.ext';simp[Array.toList_extract,List.extract_eq_take_drop])
               · have gx:xs.toArray[f.offset]? =some x:=by
                  have:=congrArg (fun l=>l[0]?) Uj
                  simpa [List.getElem?_take,h1,F7] using this
                 have gy:ys.toArray[f.offset]? =some y:=by
                  have:=congrArg (fun l=>l[0]?) Zb
                  simpa [List.getElem?_take,h1,F7] using this
                 simp only[Sem.run_bind,eu hg _ _ _ gx,eu hg _ _ _ gy,Result.andThen_ok]
                 exact hq
             simp only[Op.eqFields,Sem.run_ite,if_pos hn.1]
             simp only[Sem.run_bind] at head ⊢
             generalize (Go.part f.type xs.toArray f.offset).run X.P w=r1 at head ⊢
             cases r1 with
             | halt _ _=>simp[Result.andThen] at head
             | ok a1 w1=>
               simp only[Result.andThen_ok] at head ⊢
               generalize (Go.part f.type ys.toArray f.offset).run X.P w1=r2 at head ⊢
               cases r2 with
               | halt _ _=>simp[Result.andThen] at head
               | ok a2 w2=>
                 simp only[Result.andThen_ok] at head ⊢
                 rw[head]
                 simp only[Result.andThen_ok,Sem.run_ite]
                 subst e3
                 cases b1
                 · simp
                 · simpa using wG
           · simp at hk
         · simp at hk
       · simp at hk
end Go.AM
namespace Go.AM
open Go Go.RowKit
theorem C1 {X:Ctx} {μ:Mu} {T:Nat→V} {a:Go.Act} {x:Option Operand} {y:Option aI} (hr:Rel X T a μ) (h:pA X x=some y) (O:Nat→Obj):
   (x=none∧y=none)∨ ∃x' y',x=some x'∧y=some y'∧aj X μ (aQ ⟨T,O⟩ y') (a.eval x'):=by
 cases x with
 | none=>simp[pA] at h;exact .inl ⟨rfl,h.symm⟩
 | some x=>
   simp only[pA,Option.map_eq_some_iff] at h
   obtain⟨c,h1,rfl⟩:=h
   exact .inr ⟨x,c,rfl,rfl,aG hr h1 O⟩
section
variable {X:Ctx} {E:Env} {C:aO} {o:Oper} {a:Go.Act} {T:Nat→V} {μ:Mu} {v:V} {σ':St}
theorem C2 {op:BinOp} {t:TypeId} {x y:V} {xv yv:Value} {u:V} (hx:aj X μ x xv) (hy:aj X μ y yv) (h:bH op x y=some u) (p q:Operand):
   ∃val,(do eqGuard op t p q xv yv;Go.binOp op t xv yv:Sem Value).run X.P μ.w= .ok val μ.w∧aj X μ u val:=by
 unfold bH at h
 split at h
 · rename_i k n k' n'
   simp only[aj] at hx hy
   subst hx;subst hy
   have hg: (eqGuard op t p q (.int k n) (.int k' n')).run X.P μ.w= .ok () μ.w:=by
     cases op<;>simp[eqGuard]
   simp only[Sem.run_bind,hg,Result.andThen_ok]
   cases op with
   | shl=>
     simp only at h
     split at h<;>simp at h
     subst h
     rename_i hb
     exact⟨.int k (k.wrap (n*2 ^ min n'.toNat k.bits)),by simp[Go.binOp,Op.shift,hb],by simp[aj]⟩
   | shr=>
     simp only at h
     split at h<;>simp at h
     subst h
     rename_i hb
     exact⟨.int k (n.fdiv (2 ^ min n'.toNat k.bits)),by simp[Go.binOp,Op.shift,hb],by simp[aj]⟩
   | quo=>
     simp only at h
     split at h
     · rename_i hk;subst hk
       split at h<;>simp at h
       subst h
       rename_i hb
       exact⟨.int k (k.wrap (n.tdiv n')),by simp[Go.binOp,Op.intDiv,hb],by simp[aj]⟩
     · simp at h
   | rem=>
     simp only at h
     split at h
     · rename_i hk;subst hk
       split at h<;>simp at h
       subst h
       rename_i hb
       exact⟨.int k (n.tmod n'),by simp[Go.binOp,Op.intDiv,hb],by simp[aj]⟩
     · simp at h
   | _=>
     simp only at h
     split at h
     · rename_i hk;subst hk
       simp only[iL,cN,Option.some.injEq] at h
       subst h
       exact⟨_,by simp[Go.binOp,Op.intArith,Op.intBits,Op.intCmp];rfl,by simp[aj]⟩
     · simp at h
 · rename_i s s'
   simp only[aj] at hx hy
   obtain⟨bs,rfl,rfl⟩:=hx
   obtain⟨cs,rfl,rfl⟩:=hy
   have hg: (eqGuard op t p q (.string bs) (.string cs)).run X.P μ.w= .ok () μ.w:=by
     cases op<;>simp[eqGuard]
   simp only[Sem.run_bind,hg,Result.andThen_ok]
   have he: (bs.toList==cs.toList)=decide (bs.data.toList=cs.data.toList):=by
     rw[ByteArray.toList_eq,ByteArray.toList_eq,Bool.eq_iff_iff];simp
   cases op with
   | add=>
     simp only at h
     split at h<;>simp at h
     subst h
     rename_i hl
     have yI: ¬ ((bs.size+cs.size:Nat):Int) >IntKind.i64.max:=by
       have hm:IntKind.i64.max=9223372036854775807:=by decide
       have h1:bs.data.toList.length=bs.size:=by rw[Array.length_toList];rfl
       have h2:cs.data.toList.length=cs.size:=by rw[Array.length_toList];rfl
       rw[hm];rw[h1,h2] at hl;omega
     refine⟨.string (bs++cs),by simp only[Go.binOp,Op.stringOp];rw[if_neg yI];rfl,?_⟩
     simp[aj,ByteArray.data_append]
   | _=>
     simp only[Option.some.injEq,reduceCtorEq] at h
     try (subst h;refine⟨_,by simp only[Go.binOp,Op.stringOp];rfl,?_⟩;simp only[aj,he] <;>simp only[ByteArray.toList_eq])
 · simp at h
theorem yU {op:BinOp} {t t2:TypeId} {x y:Operand} {x' y':aI} (hr:Rel X T a μ) (ho:o.op= .binOp op t x y t2) (h1:cm X x=some x') (h2:cm X y=some y')
  (ag: (au E (.bin op x' y')).run C ⟨T,μ.O⟩=some (v,σ')):σ'.T=T∧b4 X o a μ σ'.O v:=by
 simp only[au,aV] at ag
 obtain⟨hb,rfl⟩:=cV ag
 obtain⟨val,hv,bz⟩:=C2 (t:=t) (aG hr h1 μ.O) (aG hr h2 μ.O) hb x y
 refine⟨rfl,aB hr.aN ?_ bz⟩
 simp only[execOp,ho]
 exact bM hv
theorem La {op:BinOp} {t t2:TypeId} {x y:Operand} {x' y':aI} (hr:Rel X T a μ) (ho:o.op= .binOp op t x y t2) (cZ:op= .eql∨op= .neq) (hd:aR X t=some .bool)
   (h1:cm X x=some x') (h2:cm X y=some y') {neg:Bool} (hn:neg=eL op)
   (ag: (au E (.MW neg x' y')).run C ⟨T,μ.O⟩=some (v,σ')):σ'.T=T∧b4 X o a μ σ'.O v:=by
 simp only[au,aV] at ag
 have hx:=aG hr h1 μ.O
 have hy:=aG hr h2 μ.O
 split at ag
 · rename_i p q e1 e2
   obtain⟨rfl,rfl⟩:=aK ag
   rw[e1] at hx;rw[e2] at hy
   simp only[aj] at hx hy
   refine⟨rfl,aB (val:= .bool ((p==q) !=neg)) hr.aN ?_ (by simp[aj])⟩
   simp only[execOp,ho]
   refine bM ?_
   have heq: (Op.equal t (.bool p) (.bool q)).run X.P μ.w= .ok (p==q) μ.w:=run_equalIn_bool' μ.w 9999 t p q hd
   rcases cZ with rfl| rfl
   · subst hn
     simp[eqGuard,hx,hy,Go.binOp,Sem.run_bind,heq,eL]
   · subst hn
     simp[eqGuard,hx,hy,Go.binOp,Sem.run_bind,heq,eL]
 · exact absurd ag aq
theorem C3 {op:BinOp} {t t2:TypeId} {x y:Operand} {x' y':aI} {ks:List Nat} (hr:Rel X T a μ) (ho:o.op= .binOp op t x y t2) (cZ:op= .eql∨op= .neq)
   (hg:X.P.eqGuardType X.P.depth t=false) (hk:je X 100 t=some ks) (A5:eX X t=some true)
   (h1:cm X x=some x') (h2:cm X y=some y') {neg:Bool} (hn:neg=eL op)
   (ag: (au E (.yy neg ks x' y')).run C ⟨T,μ.O⟩=some (v,σ')):σ'.T=T∧b4 X o a μ σ'.O v:=by
 simp only[au,aV] at ag
 have hx:=aG hr h1 μ.O
 have hy:=aG hr h2 μ.O
 split at ag
 · rename_i p q e1 e2
   split at ag
   · rename_i b hb
     obtain⟨rfl,rfl⟩:=aK ag
     rw[e1] at hx;rw[e2] at hy
     simp only[aj] at hx hy
     obtain⟨_,xs,zO,Zc⟩:=hx
     obtain⟨_,ys,Zd,Ze⟩:=hy
     refine⟨rfl,aB (val:= .bool (b !=neg)) hr.aN ?_ (by simp[aj])⟩
     simp only[execOp,ho]
     refine bM ?_
     obtain⟨_,hh⟩:=(K9 (X:=X) (μ:=μ) μ.w 100).1 t ks p q _ _ b 10000 hk (by omega) Zc Ze hb
     rcases hh with⟨_,hh⟩ | ⟨hh,_⟩
     · have heq: (Op.equal t (.agg xs) (.agg ys)).run X.P μ.w= .ok b μ.w:=by simpa [Op.equal,Op.maxDepth] using hh
       have yV: (eqGuard op t x y (.agg xs) (.agg ys)).run X.P μ.w= .ok () μ.w:=run_eqGuard_agg μ.w op t x y xs ys hg
       rw[zO,Zd]
       rcases cZ with rfl| rfl
       · subst hn
         simp only[Sem.run_bind,yV,Result.andThen_ok,Go.binOp,heq,eL];simp
       · subst hn
         simp only[Sem.run_bind,yV,Result.andThen_ok,Go.binOp,heq,eL];simp
     · rw[A5] at hh;cases hh
   · exact absurd ag aq
 · exact absurd ag aq
theorem rT {t k:Nat}: ∀ {ks:List (Nat×Nat)},mO t ks=some k→(t,k) ∈ ks
 | [],h=>by simp[mO] at h
 | (t',k')::ks,h=>by
   simp only[mO] at h
   cases hb:Nat.beq t' t with
   | true=>
     have:=Nat.eq_of_beq_eq_true hb
     rw[hb] at h
     simp at h;subst h;subst this;simp
   | false=>
     rw[hb] at h
     exact List.mem_cons_of_mem _ (rT h)
theorem wH {X:TrEnv} {t k:Nat} (h: (t,k) ∈ qW X): ∃T i D,X.gq T=some t∧X.P.info? T=some i∧i.comparable=true∧aR X T=some D∧
   ((k=0∧D= .bool)∨(k=1∧ ∃q,D= .int q)∨(k=2∧D= .string)):=by
 simp only[qW,List.mem_filterMap] at h
 obtain⟨T,_,h⟩:=h
 split at h
 · rename_i h1 h2 h3
   simp only[Option.map_eq_some_iff] at h2
   obtain⟨i,hi,hc⟩:=h2
   simp at h;obtain⟨rfl,rfl⟩:=h
   exact⟨T,i,_,h1,hi,hc,h3,.inl ⟨rfl,rfl⟩⟩
 · rename_i h1 h2 h3
   simp only[Option.map_eq_some_iff] at h2
   obtain⟨i,hi,hc⟩:=h2
   simp at h;obtain⟨rfl,rfl⟩:=h
   exact⟨T,i,_,h1,hi,hc,h3,.inr (.inl ⟨rfl,_,rfl⟩)⟩
 · rename_i h1 h2 h3
   simp only[Option.map_eq_some_iff] at h2
   obtain⟨i,hi,hc⟩:=h2
   simp at h;obtain⟨rfl,rfl⟩:=h
   exact⟨T,i,_,h1,hi,hc,h3,.inr (.inr ⟨rfl,rfl⟩)⟩
 · simp at h
theorem oq {P:Program} {w:World} (d:Nat) {ti tp:TypeId} {ms:Array (String×TypeId)} {i:TypeInfo} {u v:Value} {b:Bool} (hi:P.underlying ti=some (.interface ms)) (Q4:P.info? tp=some i) (Q5:i.comparable=true)
  (h: (Op.equalIn d tp u v).run P w= .ok b w): (Op.equalIn (d+1) ti (.iface tp u) (.iface tp v)).run P w= .ok b w:=by
 simp[Op.equalIn,run_underlying hi,typeInfo,Q4,Q5,h]
theorem rU {P:Program} {w:World} (d:Nat) {ti tp:TypeId} {ms:Array (String×TypeId)} {u:Value} (hi:P.underlying ti=some (.interface ms)):
  (Op.equalIn (d+1) ti .nilIface (.iface tp u)).run P w= .ok false w:=by
 simp[Op.equalIn,run_underlying hi]
theorem rV {P:Program} {w:World} (d:Nat) {ti tp:TypeId} {ms:Array (String×TypeId)} {u:Value} (hi:P.underlying ti=some (.interface ms)):
  (Op.equalIn (d+1) ti (.iface tp u) .nilIface).run P w= .ok false w:=by
 simp[Op.equalIn,run_underlying hi]
theorem Lb {op:BinOp} {t t2:TypeId} {x y:Operand} {x' y':aI} (hr:Rel X T a μ) (ho:o.op= .binOp op t x y t2) (cZ:op= .eql∨op= .neq) (hd: ∃ms,aR X t=some (.interface ms))
   (kl: ∀t1 t2 k,X.gq t1=some k→X.gq t2=some k→t1=t2)
   (h1:cm X x=some x') (h2:cm X y=some y') {neg:Bool} (hn:neg=eL op)
   (ag: (au E (.MX neg (qW X) x' y')).run C ⟨T,μ.O⟩=some (v,σ')):σ'.T=T∧b4 X o a μ σ'.O v:=by
 simp only[au,aV] at ag
 have hx:=aG hr h1 μ.O
 have hy:=aG hr h2 μ.O
 obtain⟨ms,hd⟩:=hd
 have fin: ∀b,(Op.equal t (a.eval x) (a.eval y)).run X.P μ.w= .ok b μ.w→(eqGuard op t x y (a.eval x) (a.eval y)).run X.P μ.w= .ok () μ.w→
     (∀k1 k2 m1 m2,¬ (a.eval x= .int k1 m1∧a.eval y= .int k2 m2))→
     (Go.binOp op t (a.eval x) (a.eval y)).run X.P μ.w= .ok (.bool (b !=neg)) μ.w→b4 X o a μ μ.O (.bool (b !=neg)):=fun b heq yV _ hb=>by
   refine aB (val:= .bool (b !=neg)) hr.aN ?_ (by simp[aj])
   simp only[execOp,ho]
   refine bM ?_
   simp only[Sem.run_bind,yV,Result.andThen_ok,hb]
 split at ag
 · rename_i s p s' q e1 e2
   rw[e1] at hx;rw[e2] at hy
   simp only[aj] at hx hy
   obtain⟨T1,u1,hx,FT,hp⟩:=hx
   obtain⟨T2,u2,hy,QK,hq⟩:=hy
   split at ag
   · rename_i VF
     subst VF
     split at ag
     · rename_i k hk
       split at ag
       · rename_i b hb
         obtain⟨rfl,rfl⟩:=aK ag
         obtain⟨T0,i,D,k1,k2,k3,k4,k5⟩:=wH (rT hk)
         obtain rfl:=kl T1 T0 _ FT k1
         obtain rfl:=kl T2 T1 _ QK k1
         have heq: (Op.equal t (.iface T2 u1) (.iface T2 u2)).run X.P μ.w= .ok b μ.w:=
           oq 9999 hd k2 k3 (Aa (m:=9998) k4 k5 hp hq hb μ.w)
         refine⟨rfl,fin b (by rw[hx,hy];exact heq) (by rw[hx,hy];rcases cZ with rfl| rfl<;>simp[eqGuard]) (by simp[hx]) ?_⟩
         rw[hx,hy]
         rcases cZ with rfl| rfl
         · subst hn
           simp[Go.binOp,Sem.run_bind,heq,eL]
         · subst hn
           simp[Go.binOp,Sem.run_bind,heq,eL]
       · exact absurd ag aq
     · exact absurd ag aq
   · exact absurd ag aq
 · rename_i s p e1 e2
   rw[e1] at hx;rw[e2] at hy
   simp only[aj] at hx hy
   obtain⟨T2,u2,hy,QK,hq⟩:=hy
   obtain⟨rfl,rfl⟩:=aK ag
   have heq: (Op.equal t .nilIface (.iface T2 u2)).run X.P μ.w= .ok false μ.w:=rU 9999 hd
   refine⟨rfl,?_⟩
   have:=fin false (by rw[hx,hy];exact heq) (by rw[hx,hy];rcases cZ with rfl| rfl<;>simp[eqGuard]) (by simp[hx]) (by
     rw[hx,hy]
     rcases cZ with rfl| rfl
     · subst hn
       simp[Go.binOp,Sem.run_bind,heq,eL]
     · subst hn
       simp[Go.binOp,Sem.run_bind,heq,eL])
   simpa using this
 · rename_i s p e1 e2
   rw[e1] at hx;rw[e2] at hy
   simp only[aj] at hx hy
   obtain⟨T2,u2,hx,QK,hq⟩:=hx
   obtain⟨rfl,rfl⟩:=aK ag
   have heq: (Op.equal t (.iface T2 u2) .nilIface).run X.P μ.w= .ok false μ.w:=rV 9999 hd
   refine⟨rfl,?_⟩
   have:=fin false (by rw[hx,hy];exact heq) (by rw[hx,hy];rcases cZ with rfl| rfl<;>simp[eqGuard]) (by simp[hx]) (by
     rw[hx,hy]
     rcases cZ with rfl| rfl
     · subst hn
       simp[Go.binOp,Sem.run_bind,heq,eL]
     · subst hn
       simp[Go.binOp,Sem.run_bind,heq,eL])
   simpa using this
 · exact absurd ag aq
theorem ik {P:Program} {w:World} (d:Nat) {t e:TypeId} (q:Option Addr) (hi:P.underlying t=some (.pointer e)):
  (Op.equalIn (d+1) t (.pointer none) (.pointer q)).run P w= .ok q.isNone w:=by
 simp[Op.equalIn,run_underlying hi]
theorem kN {P:Program} {w:World} (d:Nat) {t e:TypeId} (p:Addr) (hi:P.underlying t=some (.pointer e)):
  (Op.equalIn (d+1) t (.pointer (some p)) (.pointer none)).run P w= .ok false w:=by
 simp[Op.equalIn,run_underlying hi]
theorem rW {P:Program} {w:World} (d:Nat) {t e:TypeId} {inf:TypeInfo} {n:Nat} {b o o':Nat} (hi:P.underlying t=some (.pointer e)) (pt:P.info? e=some inf) (VG:P.cellsOf e=n+1):
  (Op.equalIn (d+1) t (.pointer (some ⟨b,o,none⟩)) (.pointer (some ⟨b,o',none⟩))).run P w= .ok (o==o') w:=by
 have hq: ((⟨b,o,none⟩:Addr)==⟨b,o',none⟩)=(o==o'):=by
  rw[Bool.eq_iff_iff]
  simp only[beq_iff_eq,Addr.mk.injEq,true_and,and_true]
 simp[Op.equalIn,run_underlying hi,Sem.run_bind,run_sizeOf (w:=w) pt,VG,sameAddr,hq]
theorem Lc {op:BinOp} {t e t2:TypeId} {n:Nat} {x y:Operand} {x' y':aI} (hr:Rel X T a μ) (ho:o.op= .binOp op t x y t2) (cZ:op= .eql∨op= .neq) (hd:aR X t=some (.pointer e)) (b5:ba X e=some (n+1))
  (h1:cm X x=some x') (h2:cm X y=some y') {neg:Bool} (hn:neg=eL op)
  (ag: (au E (.HQ neg x' y')).run C ⟨T,μ.O⟩=some (v,σ')):σ'.T=T∧b4 X o a μ σ'.O v:=by
 simp only[au,aV] at ag
 have hx:=aG hr h1 μ.O
 have hy:=aG hr h2 μ.O
 obtain⟨hb,rfl⟩:=cV ag
 rw[Option.map_eq_some_iff] at hb
 obtain⟨b,hb,rfl⟩:=hb
 have lZ:X.P.underlying t=some (.pointer e):=hd
 obtain⟨inf,pt,yS⟩: ∃inf,X.P.info? e=some inf∧inf.size=n+1:=by simpa [ba,info] using b5
 have VG:X.P.cellsOf e=n+1:=by simp[Program.cellsOf,pt,yS]
 have key: ∃p q,a.eval x= .pointer p∧a.eval y= .pointer q∧(Op.equal t (.pointer p) (.pointer q)).run X.P μ.w= .ok b μ.w:=by
  unfold zR at hb
  split at hb
  · rename_i e1 e2
    rw[e1] at hx;rw[e2] at hy
    simp only[aj] at hx hy
    simp only[Option.some.injEq] at hb;subst hb
    exact⟨_,_,hx,hy,ik 9999 none lZ⟩
  · rename_i e1 e2
    rw[e1] at hx;rw[e2] at hy
    simp only[aj] at hx hy
    simp only[Option.some.injEq] at hb;subst hb
    obtain⟨_,_,_,_,_,_,hy,_⟩:=hy
    exact⟨_,_,hx,hy,ik 9999 _ lZ⟩
  · rename_i e1 e2
    rw[e1] at hx;rw[e2] at hy
    simp only[aj] at hx hy
    simp only[Option.some.injEq] at hb;subst hb
    obtain⟨_,_,_,hy,_⟩:=hy
    exact⟨_,_,hx,hy,ik 9999 _ lZ⟩
  · rename_i e1 e2
    rw[e1] at hx;rw[e2] at hy
    simp only[aj] at hx hy
    simp only[Option.some.injEq] at hb;subst hb
    obtain⟨_,_,_,_,_,_,hx,_⟩:=hx
    exact⟨_,_,hx,hy,kN 9999 _ lZ⟩
  · rename_i e1 e2
    rw[e1] at hx;rw[e2] at hy
    simp only[aj] at hx hy
    simp only[Option.some.injEq] at hb;subst hb
    obtain⟨_,_,_,hx,_⟩:=hx
    exact⟨_,_,hx,hy,kN 9999 _ lZ⟩
  · rename_i i z e0 i' z' e0' e1 e2
    rw[e1] at hx;rw[e2] at hy
    simp only[aj] at hx hy
    split at hb<;>simp only[Option.some.injEq,reduceCtorEq] at hb
    rename_i hz
    obtain⟨rfl,Mt⟩:=hz
    subst hb
    obtain⟨_,_,_,hx,_⟩:=hx
    obtain⟨_,_,_,hy,_⟩:=hy
    refine⟨_,_,hx,hy,?_⟩
    have hq: (X.tok.2+i*z+0==X.tok.2+i'*z+0)=(i==i'):=by
     rw[Bool.eq_iff_iff]
     simp only[beq_iff_eq]
     constructor
     · intro h
       have:i*z=i'*z:=by omega
       exact Nat.eq_of_mul_eq_mul_right Mt this
     · rintro rfl;rfl
    exact(rW 9999 lZ pt VG).trans (by rw[hq])
  · simp at hb
 obtain⟨p,q,hp,hq,heq⟩:=key
 refine⟨rfl,aB (val:= .bool (b !=neg)) hr.aN ?_ (by simp[aj])⟩
 simp only[execOp,ho,hp,hq]
 refine bM ?_
 subst hn
 rcases cZ with rfl| rfl<;>simp[eqGuard,Go.binOp,Sem.run_bind,heq,eL]
theorem Q6 {op:UnOp} {t:TypeId} {x:Operand} {x':aI} (hr:Rel X T a μ) (ho:o.op= .unOp op t x) (h1:cm X x=some x')
  (ag: (au E (.un op x')).run C ⟨T,μ.O⟩=some (v,σ')):σ'.T=T∧b4 X o a μ σ'.O v:=by
 simp only[au,aV] at ag
 obtain⟨hb,rfl⟩:=cV ag
 have hx:=aG hr h1 μ.O
 have: ∃val,(Op.unary op (a.eval x)).run X.P μ.w= .ok val μ.w∧aj X μ v val:=by
  unfold yt at hb
  split at hb
  · rename_i k n e
    simp at hb;subst hb
    rw[e] at hx;simp only[aj] at hx
    exact⟨.int k (k.wrap (0 - n)),by simp[hx,Op.unary,Op.intArith],by simp[aj]⟩
  · rename_i b e
    simp at hb;subst hb
    rw[e] at hx;simp only[aj] at hx
    exact⟨.bool (!b),by simp[hx,Op.unary],by simp[aj]⟩
  · rename_i k n e
    simp only[iL,Option.some.injEq] at hb;subst hb
    rw[e] at hx;simp only[aj] at hx
    exact⟨_,by simp[hx,Op.unary,Op.intBits];rfl,by simp[aj]⟩
  · simp at hb
 obtain⟨val,h2,h3⟩:=this
 refine⟨rfl,aB hr.aN ?_ h3⟩
 simp only[execOp,ho]
 exact bM h2
theorem yW {s d:TypeId} {x:Operand} {x':aI} {k k0:IntKind} (hr:Rel X T a μ) (ho:o.op= .convert s d x) (hs:aR X s=some (.int k0)) (hd:aR X d=some (.int k))
   (h1:cm X x=some x') (ag: (au E (.c8 k x')).run C ⟨T,μ.O⟩=some (v,σ')):σ'.T=T∧b4 X o a μ σ'.O v:=by
 simp only[au,aV] at ag
 have hx:=aG hr h1 μ.O
 split at ag
 · rename_i k1 n1 e
   obtain⟨rfl,rfl⟩:=aK ag
   rw[e] at hx;simp only[aj] at hx
   refine⟨rfl,aB (val:= .int k (k.wrap n1)) hr.aN ?_ (by simp[aj])⟩
   simp only[execOp,ho]
   refine bM ?_
   simp[convert,Sem.run_bind,run_underlying hs,run_underlying hd,hx,Conv.intToInt]
 · exact absurd ag aq
theorem A6 {s d:TypeId} {x:Operand} {x':aI} {k0:IntKind} (hr:Rel X T a μ) (ho:o.op= .convert s d x) (hs:aR X s=some (.int k0)) (hd:aR X d=some (.float .f64))
   (h1:cm X x=some x') (ag: (au E (.pf x')).run C ⟨T,μ.O⟩=some (v,σ')):σ'.T=T∧b4 X o a μ σ'.O v:=by
 simp only[au,aV] at ag
 have hx:=aG hr h1 μ.O
 split at ag
 · rename_i k1 n1 e
   obtain⟨rfl,rfl⟩:=aK ag
   rw[e] at hx;simp only[aj] at hx
   refine⟨rfl,aB (val:= .float .f64 (FloatKind.f64.nearest n1)) hr.aN ?_ (by simp[aj])⟩
   simp only[execOp,ho]
   refine bM ?_
   simp[convert,Sem.run_bind,run_underlying hs,run_underlying hd,hx,Conv.intToFloat]
 · exact absurd ag aq
theorem A7 {s d:TypeId} {x:Operand} {x':aI} {k:IntKind} (hr:Rel X T a μ) (ho:o.op= .convert s d x) (hs:aR X s=some (.float .f64)) (hd:aR X d=some (.int k))
   (h1:cm X x=some x') (ag: (au E (.pg k x')).run C ⟨T,μ.O⟩=some (v,σ')):σ'.T=T∧b4 X o a μ σ'.O v:=by
 simp only[au,aV] at ag
 have hx:=aG hr h1 μ.O
 split at ag
 · rename_i b e
   split at ag
   · rename_i n hn
     split at ag
     · rename_i hle
       obtain⟨rfl,rfl⟩:=aK ag
       rw[e] at hx;simp only[aj] at hx
       refine⟨rfl,aB (val:= .int k n) hr.aN ?_ (by simp[aj])⟩
       simp only[execOp,ho]
       refine bM ?_
       simp[convert,Sem.run_bind,run_underlying hs,run_underlying hd,hx,Conv.floatToInt,hn,hle]
     · exact absurd ag aq
   · exact absurd ag aq
 · exact absurd ag aq
theorem yX {s d:TypeId} {x:Operand} {x':aI} (hr:Rel X T a μ) (ho:o.op= .convert s d x) (hs:aR X s=some .string) (hd:aR X d=some .string)
   (h1:cm X x=some x') (ag: (au E (.nK x')).run C ⟨T,μ.O⟩=some (v,σ')):σ'.T=T∧b4 X o a μ σ'.O v:=by
 simp only[au,aV] at ag
 have hx:=aG hr h1 μ.O
 split at ag
 · rename_i b e
   obtain⟨rfl,rfl⟩:=aK ag
   rw[e] at hx;simp only[aj] at hx
   obtain⟨bs,yY,rfl⟩:=hx
   refine⟨rfl,aB (val:= .string bs) hr.aN ?_ (by simp[aj])⟩
   simp only[execOp,ho]
   refine bM ?_
   simp[convert,Sem.run_bind,run_underlying hs,run_underlying hd,yY]
 · exact absurd ag aq
theorem dr {c:Call} {b:Builtin} {val:Value} {w w':World} (ho:o.op= .call c) (hc:c.callee= .builtin b)
  (h: (builtin b c.argTypes o.type (c.args.map fun| .const _=>true| _=>false) (c.args.map a.eval)).run X.P w= .ok (.value val) w'):
  (execOp a.eval o).run X.P w= .ok (.value val) w':=by
 simp only[execOp,ho,resolve,hc,Sem.run_bind,Sem.run_pure,Result.andThen_ok,invoke]
 exact h
theorem Ld {c:Call} {x:Operand} {t e:TypeId} {x':aI} (hr:Rel X T a μ) (ho:o.op= .call c) (hc:c.callee= .builtin .len) (ha:c.args= #[x]) (ht:c.argTypes= #[t])
  (hd:aR X t=some (.slice e)) (h1:cm X x=some x') (ag: (au E (.len x')).run C ⟨T,μ.O⟩=some (v,σ')):
  σ'.T=T∧b4 X o a μ σ'.O v:=by
 simp only[au,aV] at ag
 obtain⟨hb,rfl⟩:=cV ag
 have hx:=aG hr h1 μ.O
 have key: ∃n:Nat,(Builtin.len_ #[t] o.type #[a.eval x]).run X.P μ.w= .ok (goInt n) μ.w∧v= .int .i64 n:=by
  cases hy:aQ ⟨T,μ.O⟩ x'<;>rw[hy] at hb hx<;>simp[lX] at hb
  · simp only[aj] at hx
    obtain⟨p,hp⟩:=hx
    exact⟨0,by simp[Builtin.len_,Sem.run_bind,run_underlying hd,hp],hb.symm⟩
  · simp only[aj] at hx
    obtain⟨_,_,p,cap,vs,hp,_⟩:=hx
    exact⟨_,by simp[Builtin.len_,Sem.run_bind,run_underlying hd,hp],hb.symm⟩
  · simp only[aj] at hx
    obtain⟨p,cap,hp,_⟩:=hx
    exact⟨_,by simp[Builtin.len_,Sem.run_bind,run_underlying hd,hp],hb.symm⟩
  · simp only[aj] at hx
    obtain⟨_,_,p,cap,vs,hp,_⟩:=hx
    exact⟨_,by simp[Builtin.len_,Sem.run_bind,run_underlying hd,hp],hb.symm⟩
 obtain⟨n,h2,rfl⟩:=key
 refine⟨rfl,aB (val:=goInt n) hr.aN ?_ (by simp[aj,goInt])⟩
 refine dr ho hc ?_
 simp only[builtin,ha,ht]
 refine bM ?_
 simpa using h2
theorem A8 {c:Call} {x:Operand} {t:TypeId} {x':aI} (hr:Rel X T a μ) (ho:o.op= .call c) (hc:c.callee= .builtin .len) (ha:c.args= #[x]) (ht:c.argTypes= #[t])
   (hd:aR X t=some .string) (h1:cm X x=some x') (ag: (au E (.rC x')).run C ⟨T,μ.O⟩=some (v,σ')):
   σ'.T=T∧b4 X o a μ σ'.O v:=by
 simp only[au,aV] at ag
 have hx:=aG hr h1 μ.O
 split at ag
 · rename_i s e
   obtain⟨rfl,rfl⟩:=aK ag
   rw[e] at hx;simp only[aj] at hx
   obtain⟨bs,yY,rfl⟩:=hx
   refine⟨rfl,aB (val:=goInt bs.size) hr.aN ?_ (by simp only[aj,goInt];rw[Array.length_toList];rfl)⟩
   refine dr ho hc ?_
   simp only[builtin,ha,ht]
   refine bM ?_
   simp[Builtin.len_,Sem.run_bind,run_underlying hd,yY]
 · exact absurd ag aq
theorem A9 {c:Call} {x:Operand} {t e:TypeId} {n:Nat} (hr:Rel X T a μ) (ho:o.op= .call c) (hc:c.callee= .builtin .len) (ha:c.args= #[x]) (ht:c.argTypes= #[t])
  (hd:aR X t=some (.array n e)) (ag: (au E (.move (.const (.int .i64 n)))).run C ⟨T,μ.O⟩=some (v,σ')):
  σ'.T=T∧b4 X o a μ σ'.O v:=by
 simp only[au,aV,aQ] at ag
 obtain⟨rfl,rfl⟩:=aK ag
 refine⟨rfl,aB (val:=goInt n) hr.aN ?_ (by simp[aj,goInt])⟩
 refine dr ho hc ?_
 simp only[builtin,ha,ht]
 refine bM ?_
 simp[Builtin.len_,Sem.run_bind,run_underlying hd]
theorem tU {w:World}: ∀ {xs:List V} {x:V} {u:V} {xv:Value} {vs:List Value},aj X μ x xv→ah X μ xs vs→fo min2 (x::xs)=some u→
   ∃val,(vs.foldlM Builtin.min2 xv).run X.P w= .ok val w∧aj X μ u val
 | [],x,u,xv,[],hx,_,h=>by simp[fo,eT] at h;subst h;exact⟨xv,by simp,hx⟩
 | [],_,_,_,_::_,_,hv,_=>by simp[ah] at hv
 | _::_,_,_,_,[],_,hv,_=>by simp[ah] at hv
 | y::ys,x,u,xv,yv::vs,hx,hv,h=>by
   simp only[ah] at hv
   simp only[fo,eT] at h
   split at h
   · rename_i z hz
     have: ∃zv,(Builtin.min2 xv yv).run X.P w= .ok zv w∧aj X μ z zv:=by
      unfold min2 at hz
      split at hz
      · split at hz<;>simp at hz
        rename_i hk;subst hk;subst hz
        have h1:=hv.1
        simp only[aj] at hx h1
        subst hx;subst h1
        exact⟨_,by simp[Builtin.min2];rfl,by simp[aj]⟩
      · simp at hz
     obtain⟨zv,h1,h2⟩:=this
     obtain⟨val,h3,h4⟩:=tU (w:=w) h2 hv.2 h
     exact⟨val,by simp[List.foldlM_cons,Sem.run_bind,h1,h3],h4⟩
   · simp at h
theorem tV {w:World}: ∀ {xs:List V} {x:V} {u:V} {xv:Value} {vs:List Value},aj X μ x xv→ah X μ xs vs→fo max2 (x::xs)=some u→
   ∃val,(vs.foldlM Builtin.max2 xv).run X.P w= .ok val w∧aj X μ u val
 | [],x,u,xv,[],hx,_,h=>by simp[fo,eT] at h;subst h;exact⟨xv,by simp,hx⟩
 | [],_,_,_,_::_,_,hv,_=>by simp[ah] at hv
 | _::_,_,_,_,[],_,hv,_=>by simp[ah] at hv
 | y::ys,x,u,xv,yv::vs,hx,hv,h=>by
   simp only[ah] at hv
   simp only[fo,eT] at h
   split at h
   · rename_i z hz
     have: ∃zv,(Builtin.max2 xv yv).run X.P w= .ok zv w∧aj X μ z zv:=by
      unfold max2 at hz
      split at hz
      · split at hz<;>simp at hz
        rename_i hk;subst hk;subst hz
        have h1:=hv.1
        simp only[aj] at hx h1
        subst hx;subst h1
        exact⟨_,by simp[Builtin.max2];rfl,by simp[aj]⟩
      · simp at hz
     obtain⟨zv,h1,h2⟩:=this
     obtain⟨val,h3,h4⟩:=tV (w:=w) h2 hv.2 h
     exact⟨val,by simp[List.foldlM_cons,Sem.run_bind,h1,h3],h4⟩
   · simp at h
theorem Lf {c:Call} {xs:List aI} (hr:Rel X T a μ) (ho:o.op= .call c) (hc:c.callee= .builtin .min) (h1:nZ X c.args.toList=some xs)
   (ag: (au E (.min xs)).run C ⟨T,μ.O⟩=some (v,σ')):σ'.T=T∧b4 X o a μ σ'.O v:=by
 simp only[au,oh] at ag
 obtain⟨hb,rfl⟩:=cV ag
 have hx:=oi hr μ.O h1
 generalize hq:xs.map (aQ ⟨T,μ.O⟩)=us at hb hx
 generalize hp:c.args.toList.map a.eval=vs at hx
 match us,vs,hx,hb with
 | [],_,_,hb=>simp[fo,eT] at hb
 | u::us,[],hx,_=>simp[ah] at hx
 | u::us,y::vs,hx,hb=>
   simp only[ah] at hx
   obtain⟨val,h2,h3⟩:=tU (w:=μ.w) hx.1 hx.2 hb
   refine⟨rfl,aB (val:=val) hr.aN (dr ho hc ?_) h3⟩
   simp only[builtin]
   refine bM ?_
   simp only[Builtin.min_,Array.toList_map,hp]
   exact h2
theorem Lg {c:Call} {xs:List aI} (hr:Rel X T a μ) (ho:o.op= .call c) (hc:c.callee= .builtin .max) (h1:nZ X c.args.toList=some xs)
   (ag: (au E (.max xs)).run C ⟨T,μ.O⟩=some (v,σ')):σ'.T=T∧b4 X o a μ σ'.O v:=by
 simp only[au,oh] at ag
 obtain⟨hb,rfl⟩:=cV ag
 have hx:=oi hr μ.O h1
 generalize hq:xs.map (aQ ⟨T,μ.O⟩)=us at hb hx
 generalize hp:c.args.toList.map a.eval=vs at hx
 match us,vs,hx,hb with
 | [],_,_,hb=>simp[fo,eT] at hb
 | u::us,[],hx,_=>simp[ah] at hx
 | u::us,y::vs,hx,hb=>
   simp only[ah] at hx
   obtain⟨val,h2,h3⟩:=tV (w:=μ.w) hx.1 hx.2 hb
   refine⟨rfl,aB (val:=val) hr.aN (dr ho hc ?_) h3⟩
   simp only[builtin]
   refine bM ?_
   simp only[Builtin.max_,Array.toList_map,hp]
   exact h2
end
end Go.AM
namespace Go.AM
open Go Go.RowKit
theorem dY (b q n:Nat): (⟨b,q,none⟩:Addr).add n=⟨b,q+n,none⟩:=by unfold Addr.add;split<;>simp_all
theorem kP: ∀ {xs:List V} {i:Nat} {x:V},V.al xs=true→xs[i]? =some x→V.aw x=true
 | [],_,_,_,h=>by simp at h
 | y::ys,0,x,hp,h=>by simp[V.al] at hp;simp at h;rw[←h];exact hp.1
 | y::ys,i+1,x,hp,h=>by simp[V.al] at hp;simp at h;exact kP hp.2 h
theorem ot: ∀ {xs:List V} (n:Nat),V.al xs=true→V.al (xs.take n)=true
 | _,0,_=>by simp[V.al]
 | [],n+1,_=>by simp[V.al]
 | y::ys,n+1,h=>by simp[V.al] at h ⊢;exact⟨h.1,ot n h.2⟩
theorem ou: ∀ {xs:List V} (n:Nat),V.al xs=true→V.al (xs.drop n)=true
 | _,0,h=>by simpa using h
 | [],n+1,_=>by simp[V.al]
 | y::ys,n+1,h=>by simp[V.al] at h;simpa using ou n h.2
theorem gQ {p:V→Bool} {xs:List V} (n:Nat) (h:xs.all p=true): (xs.take n).all p=true:=by
 simp only[List.all_eq_true] at h ⊢
 exact fun x hx=>h x (List.mem_of_mem_take hx)
theorem jm {p:V→Bool} {xs:List V} (n:Nat) (h:xs.all p=true): (xs.drop n).all p=true:=by
 simp only[List.all_eq_true] at h ⊢
 exact fun x hx=>h x (List.mem_of_mem_drop hx)
theorem cH.drop {w:World} {b off sz:Nat} {vs:List Value} (h:cH w b off sz vs) (n:Nat):cH w b (off+n*sz) sz (vs.drop n):=by
 intro i v hv
 simp only[List.getElem?_drop] at hv
 obtain⟨h1,h2⟩:=h (n+i) v hv
 refine⟨h1,fun j c hc=> ?_⟩
 rw[←h2 j c hc]
 congr 2
 rw[Nat.add_mul];omega
theorem cH.take {w:World} {b off sz:Nat} {vs:List Value} (h:cH w b off sz vs) (n:Nat):cH w b off sz (vs.take n):=by
 intro i v hv
 rw[List.getElem?_take] at hv
 split at hv
 · exact h i v hv
 · simp at hv
section
variable {X:Ctx} {E:Env} {C:aO} {o:Oper} {a:Go.Act} {T:Nat→V} {μ:Mu} {v:V} {σ':St}
theorem lS {t:TypeId} {e u:V} {x:Value} {off sz:Nat} {agg:Bool} {w:World} {b q:Nat} (hx:aj X μ e x) (hp:part agg off sz e=some u)
   (hg:eX X t=some agg) (hn:ba X t=some sz) (hm: ∀j c,x.cells[j]? =some c→w.cell? ⟨b,q+j,none⟩=some c):
   ∃val,(loadVar t ⟨b,q+off,none⟩).run X.P w= .ok val w∧aj X μ u val:=by
 cases agg with
 | true=>
   obtain⟨cs,rfl,hle,hv⟩:=jR hx hp
   refine⟨_,?_,hv⟩
   have hl: (cs.extract off (off+sz)).toList.length=sz:=by simp;omega
   have:=run_loadCells_list (P:=X.P) w ⟨b,q+off,none⟩ (cs.extract off (off+sz)).toList (fun j c hc=>by
    rw[dY]
    have ye:cs[off+j]? =some c:=by
     rw[Array.toList_extract,List.extract_eq_take_drop,List.getElem?_take] at hc
     split at hc
     · simpa using hc
     · simp at hc
    have:=hm (off+j) c (by simpa [Value.cells] using ye)
    rwa [←Nat.add_assoc] at this)
   rw[hl,Array.toArray_toList] at this
   simp[loadVar,Sem.run_bind,lR hg,cA hn,this]
 | false=>
   obtain⟨_,c,hc,hv⟩:=jf hx hp
   refine⟨c,?_,hv⟩
   have:=hm off c hc
   simp[loadVar,Sem.run_bind,lR hg,this]
theorem wI (ho:aS X μ) {r idx:Nat} {es:List V} {e:V} (bp: (μ.O r).es=some es) (he:es[idx]? =some e) (h0:0 < (μ.O r).sz):
   ∃x,aj X μ e x∧(μ.φ r).cap≠0∧ ∀j c,x.cells[j]? =some c→μ.w.cell? ⟨(μ.φ r).cD,(μ.φ r).base+idx*(μ.O r).sz+j,none⟩=some c:=by
 obtain⟨_,h2,_,h4⟩:=ho.row r es bp h0
 have bJ:idx<es.length:=(List.getElem?_eq_some_iff.1 he).1
 have hc: (μ.φ r).cap≠0:=by omega
 rcases h4 with h4| ⟨c,T',vs,_,_,hv,dn⟩
 · exact absurd h4 hc
 · obtain⟨x,hx,hr⟩:=hv.get he
   exact⟨x,hr,hc,(dn idx x hx).2⟩
theorem Ab {t:TypeId} {x:Operand} {x':aI} {agg:Bool} {sz:Nat} (hr:Rel X T a μ) (ho:o.op= .load t x) (h1:cm X x=some x') (hg:eX X t=some agg) (hn:ba X t=some sz)
   (ag: (au E (.load agg sz x')).run C ⟨T,μ.O⟩=some (v,σ')):σ'.T=T∧b4 X o a μ σ'.O v:=by
 simp only[au,aV] at ag
 have hx:=aG hr h1 μ.O
 have fin: ∀ (p:Addr),a.eval x= .pointer (some p)→ ∀val,(loadVar t p).run X.P μ.w= .ok val μ.w→(execOp a.eval o).run X.P μ.w= .ok (.value val) μ.w:=fun p hp val hv=>by
   simp only[execOp,ho]
   refine bM ?_
   simp[Instr.loadAt,Instr.sureAddr,Sem.run_bind,hp,hv]
 split at ag
 · rename_i r g idx off e
   simp only[Act.run] at ag
   split at ag
   · rename_i es bp
     split at ag
     · rename_i bU
       split at ag
       · rename_i el oV
         obtain⟨hp,rfl⟩:=cV ag
         rw[e] at hx
         simp only[aj] at hx
         obtain⟨p,Hk,_,b9⟩:=hx
         obtain⟨xv,qe,_,il⟩:=wI hr.aN bp oV (b9 bU).1
         obtain⟨val,hl,bz⟩:=lS qe hp hg hn il
         refine⟨rfl,aB hr.aN (fin p Hk val ?_) bz⟩
         rw[(b9 bU).2];exact hl
       · exact absurd ag aq
     · exact absurd ag aq
   · exact absurd ag aq
 · rename_i el off e
   obtain⟨hp,rfl⟩:=cV ag
   rw[e] at hx
   simp only[aj] at hx
   obtain⟨_,_,b,q,sz',xv,Hk,_,_,qe,dn⟩:=hx
   obtain⟨val,hl,bz⟩:=lS (w:=μ.w) (b:=b) (q:=q) qe hp hg hn (fun j c hc=>by simpa using (dn 0 xv (by simp)).2 j c hc)
   exact⟨rfl,aB hr.aN (fin _ Hk val hl) bz⟩
 · rename_i i z el off e
   obtain⟨hp,rfl⟩:=cV ag
   rw[e] at hx
   simp only[aj] at hx
   obtain⟨_,_,xv,Hk,_,_,qe,dn⟩:=hx
   obtain⟨val,hl,bz⟩:=lS (w:=μ.w) (b:=X.tok.1) (q:=X.tok.2+i*z) qe hp hg hn (fun j c hc=>by simpa using (dn 0 xv (by simp)).2 j c hc)
   exact⟨rfl,aB hr.aN (fin _ Hk val hl) bz⟩
 · exact absurd ag aq
theorem Ba {ks:List Nat} {agg:Bool} {sz:Nat} {x:aI} {σ:St} (h: (au E (.rD ks agg sz x)).run C σ=some (v,σ')): ∃v0,(au E (.load agg sz x)).run C σ=some (v0,σ')∧v=AM.yf ks v0:=by
 simp only[au,aV] at h ⊢
 have fin: ∀ (p:Option V),(cp (p.map (AM.yf ks))).run C σ=some (v,σ')→ ∃v0,(cp p).run C σ=some (v0,σ')∧v=AM.yf ks v0:=by
   intro p hp
   cases p with
   | none=>exact absurd hp aq
   | some v0=>
     obtain⟨h1,h2⟩:=cV hp
     simp only[Option.map_some,Option.some.injEq] at h1
     exact⟨v0,by simp only[cp,Act.run,h2],h1.symm⟩
 split at h
 · rename_i r g idx off e
   simp only[Act.run] at h ⊢
   split at h
   · rename_i es bp
     split at h
     · rename_i hg
       split at h
       · rename_i el oV
         rw[if_pos hg]
         exact fin _ h
       · exact absurd h aq
     · exact absurd h aq
   · exact absurd h aq
 · exact fin _ h
 · exact fin _ h
 · exact absurd h aq
theorem C4 {t:TypeId} {x:Operand} {x':aI} {agg:Bool} {sz:Nat} (ks:List Nat) (hr:Rel X T a μ) (ho:o.op= .load t x) (h1:cm X x=some x') (hg:eX X t=some agg) (hn:ba X t=some sz)
  (ag: (au E (.rD ks agg sz x')).run C ⟨T,μ.O⟩=some (v,σ')):σ'.T=T∧b4 X o a μ σ'.O v:=by
 obtain⟨v0,h2,rfl⟩:=Ba ag
 obtain⟨h3,val,w',φ',h4,h5,h6,h7⟩:=Ab hr ho h1 hg hn h2
 exact⟨h3,val,w',φ',h4,aj.yf ks h5,h6,h7⟩
theorem vn { t e:TypeId} {x i:Operand} {x' i':aI} {sz:Nat} (hr:Rel X T a μ) (ho:o.op= .indexAddr t x i) (hd:aR X t=some (.slice e)) (hn:ba X e=some sz)
   (h1:cm X x=some x') (h2:cm X i=some i') (ag: (au E (.indexAddr sz x' i')).run C ⟨T,μ.O⟩=some (v,σ')):σ'.T=T∧b4 X o a μ σ'.O v:=by
 simp only[au,aV] at ag
 have hx:=aG hr h1 μ.O
 have hi:=aG hr h2 μ.O
 have fin: ∀ (p:Addr) (len cap:Nat) (k:IntKind) (n:Int),a.eval x= .slice (some p) len cap→a.eval i= .int k n→0≤n→n<len→
     (execOp a.eval o).run X.P μ.w= .ok (.value (.pointer (some (p.add (n.toNat*sz))))) μ.w:=fun p len cap k n hp hq Lh Mv=>by
   simp only[execOp,ho]
   refine bM ?_
   simp[Instr.indexAt,Sem.run_bind,hp,hq,asIntOf,run_underlying hd,Lh,Mv,cA hn]
 split at ag
 · rename_i r g off len k n e1 e2
   simp only[Act.run] at ag
   split at ag
   · rename_i hc
     obtain⟨rfl,rfl⟩:=aK ag
     rw[e1] at hx;rw[e2] at hi
     simp only[aj] at hx hi
     obtain⟨p,cap,hp,Uk,qd,b9⟩:=hx
     obtain⟨q0,q1,q2⟩:=b9 hc.2.2.2
     have cP:cap≠0:=by omega
     have tW:=q2.resolve_left cP
     rw[tW] at hp
     refine⟨rfl,aB hr.aN (fin _ len cap k n hp hi hc.1 hc.2.1) ?_⟩
     simp only[aj]
     refine⟨_,rfl,qd,fun _=> ⟨q0,?_⟩⟩
     rw[dY,hc.2.2.1]
     simp only[Addr.mk.injEq,true_and,and_true]
     rw[Nat.add_mul];omega
   · exact absurd ag aq
 · rename_i sz' xs k n e1 e2
   split at ag
   · rename_i hc
     split at ag
     · rename_i el oV
       obtain⟨rfl,rfl⟩:=aK ag
       rw[e1] at hx;rw[e2] at hi
       simp only[aj] at hx hi
       obtain⟨jS,wx,p,cap,vs,hp,Uk,nn,il⟩:=hx
       have bJ:n.toNat<xs.length:=(List.getElem?_eq_some_iff.1 oV).1
       rcases il with il| ⟨b,q,Q7,ef,yY,dn⟩
       · subst il;simp at bJ
       · rw[Q7] at hp
         obtain⟨xv,qe,bz⟩:=nn.get oV
         refine⟨rfl,aB hr.aN (fin _ xs.length cap k n hp hi hc.1 (by omega)) ?_⟩
         simp only[aj]
         refine⟨kP jS oV,?_,b,q+n.toNat*sz,sz,xv,by rw[dY];simp,ef,yY,bz,?_⟩
         · simp only[List.all_eq_true] at wx
           exact wx el (List.mem_of_getElem? oV)
         · have:=(dn.drop n.toNat).take 1
           rw[hc.2] at this
           have yK: (vs.drop n.toNat).take 1=[xv]:=by
            have zZ:n.toNat<vs.length:=(List.getElem?_eq_some_iff.1 qe).1
            rw[List.drop_eq_getElem_cons zZ,List.take_succ_cons,List.take_zero]
            rw[List.getElem?_eq_getElem zZ] at qe
            injection qe with qe;rw[qe]
           rwa [yK] at this
     · exact absurd ag aq
   · exact absurd ag aq
 · rename_i sz' xs k n e1 e2
   split at ag
   · rename_i hc
     split at ag
     · rename_i el oV
       obtain⟨rfl,rfl⟩:=aK ag
       rw[e1] at hx;rw[e2] at hi
       simp only[aj] at hx hi
       obtain⟨jS,wx,p,cap,vs,hp,Uk,nn,il⟩:=hx
       have bJ:n.toNat<xs.length:=(List.getElem?_eq_some_iff.1 oV).1
       rcases il with il| ⟨Q7,ef,yY,dn⟩
       · subst il;simp at bJ
       · rw[Q7] at hp
         obtain⟨xv,qe,bz⟩:=nn.get oV
         refine⟨rfl,aB hr.aN (fin _ xs.length cap k n hp hi hc.1 (by omega)) ?_⟩
         simp only[aj]
         refine⟨kP jS oV,?_,xv,by rw[dY];simp,ef,yY,bz,?_⟩
         · simp only[List.all_eq_true] at wx
           exact wx el (List.mem_of_getElem? oV)
         · have:=(dn.drop n.toNat).take 1
           rw[hc.2.1] at this
           have yK: (vs.drop n.toNat).take 1=[xv]:=by
            have zZ:n.toNat<vs.length:=(List.getElem?_eq_some_iff.1 qe).1
            rw[List.drop_eq_getElem_cons zZ,List.take_succ_cons,List.take_zero]
            rw[List.getElem?_eq_getElem zZ] at qe
            injection qe with qe;rw[qe]
           rwa [yK] at this
     · exact absurd ag aq
   · exact absurd ag aq
 · exact absurd ag aq
theorem wJ {t e:TypeId} {x i:Operand} {x' i':aI} {n sz:Nat} (hr:Rel X T a μ) (ho:o.op= .indexAddr t x i) (hd:aR X t=some (.array n e)) (hn:ba X e=some sz)
   (h1:cm X x=some x') (h2:cm X i=some i') (ag: (au E (.aW n sz x' i')).run C ⟨T,μ.O⟩=some (v,σ')):σ'.T=T∧b4 X o a μ σ'.O v:=by
 simp only[au,aV] at ag
 have hx:=aG hr h1 μ.O
 have hi:=aG hr h2 μ.O
 have fin: ∀ (p:Addr) (k:IntKind) (j:Int),a.eval x= .pointer (some p)→a.eval i= .int k j→0≤j→j<n→
     (execOp a.eval o).run X.P μ.w= .ok (.value (.pointer (some (p.add (j.toNat*sz))))) μ.w:=fun p k j hp hq Lh Mv=>by
   simp only[execOp,ho]
   refine bM ?_
   simp[Instr.indexAt,Sem.run_bind,hp,hq,asIntOf,run_underlying hd,Lh,Mv,cA hn,Instr.sureAddr]
 split at ag
 · rename_i r g idx off k j e1 e2
   split at ag
   · rename_i hc
     obtain⟨rfl,rfl⟩:=aK ag
     rw[e1] at hx;rw[e2] at hi
     simp only[aj] at hx hi
     obtain⟨p,hp,qd,b9⟩:=hx
     refine⟨rfl,aB hr.aN (fin p k j hp hi hc.1 hc.2) ?_⟩
     simp only[aj]
     refine⟨_,rfl,qd,fun hg=> ⟨(b9 hg).1,?_⟩⟩
     rw[(b9 hg).2,dY];simp[Nat.add_assoc]
   · exact absurd ag aq
 · rename_i el off k j e1 e2
   split at ag
   · rename_i hc
     obtain⟨rfl,rfl⟩:=aK ag
     rw[e1] at hx;rw[e2] at hi
     simp only[aj] at hx hi
     obtain⟨XE,yi,b,q,sz',xv,hp,wG⟩:=hx
     refine⟨rfl,aB hr.aN (fin _ k j hp hi hc.1 hc.2) ?_⟩
     simp only[aj]
     exact⟨XE,yi,b,q,sz',xv,by rw[dY];simp[Nat.add_assoc],wG⟩
   · exact absurd ag aq
 · exact absurd ag aq
theorem wK {t:TypeId} {x i:Operand} {x' i':aI} (hr:Rel X T a μ) (ho:o.op= .index t x i) (hd:aR X t=some .string)
   (h1:cm X x=some x') (h2:cm X i=some i') (ag: (au E (.ib x' i')).run C ⟨T,μ.O⟩=some (v,σ')):σ'.T=T∧b4 X o a μ σ'.O v:=by
 simp only[au,aV] at ag
 have hx:=aG hr h1 μ.O
 have hi:=aG hr h2 μ.O
 split at ag
 · rename_i s k n e1 e2
   split at ag
   · rename_i hc
     split at ag
     · rename_i b hb
       obtain⟨rfl,rfl⟩:=aK ag
       rw[e1] at hx;rw[e2] at hi
       simp only[aj] at hx hi
       obtain⟨bs,yY,rfl⟩:=hx
       refine⟨rfl,aB (val:= .int .u8 b.toNat) hr.aN ?_ (by simp[aj])⟩
       simp only[execOp,ho]
       refine bM ?_
       have p9:bs[n.toNat]? =some b:=by
        have bJ:=(List.getElem?_eq_some_iff.1 hb).1
        have hv:=(List.getElem?_eq_some_iff.1 hb).2
        have b5:n.toNat<bs.size:=by rw[Array.length_toList] at bJ;exact bJ
        rw[getElem?_pos bs n.toNat b5]
        congr 1
       simp[Instr.index,Sem.run_bind,yY,hi,asIntOf,run_underlying hd,hc,p9]
     · exact absurd ag aq
   · exact absurd ag aq
 · exact absurd ag aq
theorem wL {t e:TypeId} {x i:Operand} {x' i':aI} {agg:Bool} {n sz:Nat} (hr:Rel X T a μ) (ho:o.op= .index t x i) (hd:aR X t=some (.array n e)) (hg:eX X e=some agg)
   (hn:ba X e=some sz) (h1:cm X x=some x') (h2:cm X i=some i') (ag: (au E (.ky agg n sz x' i')).run C ⟨T,μ.O⟩=some (v,σ')):σ'.T=T∧b4 X o a μ σ'.O v:=by
 simp only[au,aV] at ag
 have hx:=aG hr h1 μ.O
 have hi:=aG hr h2 μ.O
 split at ag
 · rename_i k j e2
   split at ag
   · rename_i hc
     obtain⟨hp,rfl⟩:=cV ag
     rw[e2] at hi
     simp only[aj] at hi
     cases hy:aQ ⟨T,μ.O⟩ x'<;>rw[hy] at hc hx hp<;>simp[V.isAgg] at hc
     cases agg with
     | true=>
       obtain⟨cs,jc,hle,hv⟩:=jR hx hp
       refine⟨rfl,aB hr.aN ?_ hv⟩
       simp only[execOp,ho]
       refine bM ?_
       simp[Instr.index,Sem.run_bind,jc,hi,asIntOf,run_underlying hd,hc,cA hn,oo hg hn]
     | false=>
       obtain⟨_,c,Mw,hv⟩:=jf hx hp
       simp only[aj] at hx
       obtain⟨_,cs,jc,_⟩:=hx
       rw[jc] at Mw
       refine⟨rfl,aB hr.aN ?_ hv⟩
       simp only[execOp,ho]
       refine bM ?_
       simp[Instr.index,Sem.run_bind,jc,hi,asIntOf,run_underlying hd,hc,cA hn,eu hg cs _ c (by simpa [Value.cells] using Mw)]
   · exact absurd ag aq
 · exact absurd ag aq
end
end Go.AM
namespace Go.AM
open Go Go.RowKit
def F8 (X:Ctx) (μ:Mu) (x:Option V) (v:Option Value):Prop:=(x=none∧v=none)∨ ∃x' v',x=some x'∧v=some v'∧aj X μ x' v'
theorem jn {X:Ctx} {μ:Mu} {T:Nat→V} {a:Go.Act} {x:Option Operand} {y:Option aI} (hr:Rel X T a μ) (h:pA X x=some y) (O:Nat→Obj):
  F8 X μ (y.map (aQ ⟨T,O⟩)) (x.map a.eval):=by
 rcases C1 hr h O with⟨rfl,rfl⟩ | ⟨x',y',rfl,rfl,bz⟩
 · exact .inl ⟨rfl,rfl⟩
 · exact .inr ⟨_,_,rfl,rfl,bz⟩
section
variable {X:Ctx} {E:Env} {C:aO} {o:Oper} {a:Go.Act} {T:Nat→V} {μ:Mu} {v:V} {σ':St}
theorem run_sliceBound {d l y:Nat} {x:V} {xv:Value} {code:BoundsCode} {w:World} (h:aj X μ x xv) (hb:bl d (some x)=some l) (hle:l≤y):
  (Instr.sliceBound xv y code).run X.P w= .ok l w:=by
 cases x<;>simp[bl] at hb
 obtain⟨h0,rfl⟩:=hb
 simp only[aj] at h
 subst h
 rename_i k n
 have:n≤(y:Int):=by omega
 simp[Instr.sliceBound,asIntOf,Sem.run_bind,h0,this]
theorem eh {isSlice:Bool} {len cap l h:Nat} {lo hi:Option V} {Mx My:Option Value} {w:World} (h1:F8 X μ lo Mx) (h2:F8 X μ hi My)
   (hl:bl 0 lo=some l) (hh:bl len hi=some h) (Mz:l≤h) (cP:h≤cap):
   (Instr.sliceBounds isSlice len cap Mx My none).run X.P w= .ok (l,h,cap) w:=by
 rcases h1 with⟨rfl,rfl⟩ | ⟨lx,lv,rfl,rfl,yH⟩ <;>rcases h2 with⟨rfl,rfl⟩ | ⟨hx,hv,rfl,rfl,XF⟩
 · simp[bl] at hl hh;subst hl;subst hh
   simp[Instr.sliceBounds,Sem.run_bind]
 · simp[bl] at hl;subst hl
   simp[Instr.sliceBounds,Sem.run_bind,run_sliceBound XF hh cP]
 · have XG:=hh
   simp[bl] at XG;subst XG
   simp[Instr.sliceBounds,Sem.run_bind,run_sliceBound yH hl Mz]
 · simp[Instr.sliceBounds,Sem.run_bind,run_sliceBound yH hl Mz,run_sliceBound XF hh cP]
theorem fE {isSlice:Bool} {len cap l h m:Nat} {lo:Option V} {hi mx:V} {Mx:Option Value} {My VH:Value} {w:World} (h1:F8 X μ lo Mx) (h2:aj X μ hi My) (h3:aj X μ mx VH)
   (hl:bl 0 lo=some l) (hh:bl len (some hi)=some h) (hm:bl 0 (some mx)=some m) (Mz:l≤h) (XH:h≤m) (cP:m≤cap):
   (Instr.sliceBounds isSlice len cap Mx (some My) (some VH)).run X.P w= .ok (l,h,m) w:=by
 rcases h1 with⟨rfl,rfl⟩ | ⟨lx,lv,rfl,rfl,yH⟩
 · simp[bl] at hl;subst hl
   simp[Instr.sliceBounds,Sem.run_bind,run_sliceBound h3 hm cP,run_sliceBound h2 hh XH]
 · simp[Instr.sliceBounds,Sem.run_bind,run_sliceBound h3 hm cP,run_sliceBound h2 hh XH,run_sliceBound yH hl Mz]
theorem wM {t:TypeId} {x:Operand} {lo hi:Option Operand} {x':aI} {Hl wN:Option aI} (hr:Rel X T a μ) (ho:o.op= .slice t x lo hi none) (hd:aR X t=some .string)
   (h1:cm X x=some x') (h2:pA X lo=some Hl) (h3:pA X hi=some wN) (ag: (au E (.ia x' Hl wN)).run C ⟨T,μ.O⟩=some (v,σ')):σ'.T=T∧b4 X o a μ σ'.O v:=by
 simp only[au,aV,z9] at ag
 obtain⟨hb,rfl⟩:=cV ag
 have hx:=aG hr h1 μ.O
 cases hy:aQ ⟨T,μ.O⟩ x'<;>rw[hy] at hb hx<;>simp only[dE,reduceCtorEq] at hb
 rename_i s
 split at hb
 · rename_i l h hl hh
   split at hb<;>simp at hb
   rename_i hle
   subst hb
   simp only[aj] at hx
   obtain⟨bs,yY,XI⟩:=hx
   have b5:s.length=bs.size:=by rw[←XI,Array.length_toList];rfl
   have VI:=eh (isSlice:=false) (len:=bs.size) (cap:=bs.size) (w:=μ.w) (jn hr h2 μ.O) (jn hr h3 μ.O) hl (by rw[←b5];exact hh) hle.1 (by omega)
   refine⟨rfl,aB (val:= .string (bs.extract l h)) hr.aN ?_ ?_⟩
   · simp only[execOp,ho]
     refine bM ?_
     have lZ:X.P.underlying t=some .string:=hd
     simp only[Instr.sliceAt,Sem.run_bind,run_underlying lZ,Result.andThen_ok,Instr.slice,yY]
     have hn: (Option.map a.eval (none:Option Operand))=none:=rfl
     simp only[hn,Option.isSome_none,Bool.false_eq_true,if_false,Sem.run_bind,VI,Result.andThen_ok,Sem.run_pure]
   · simp only[aj]
     refine⟨_,rfl,?_⟩
     rw[ByteArray.data_extract,Array.toList_extract,List.extract_eq_take_drop,XI]
 · simp at hb
theorem C5 {     t e:TypeId} {x:Operand} {lo hi mx:Option Operand} {x':aI} {Hl wN Ul:Option aI} {sz:Nat} (hr:Rel X T a μ) (ho:o.op= .slice t x lo hi mx) (hd:aR X t=some (.slice e))
   (hn:ba X e=some sz) (h1:cm X x=some x') (h2:pA X lo=some Hl) (h3:pA X hi=some wN) (h4:pA X mx=some Ul)
   (ag: (au E (.slice sz x' Hl wN Ul)).run C ⟨T,μ.O⟩=some (v,σ')):σ'.T=T∧b4 X o a μ σ'.O v:=by
 simp only[au,aV,z9] at ag
 have hx:=aG hr h1 μ.O
 have rl:=jn hr h2 μ.O
 have rh:=jn hr h3 μ.O
 have rm:=jn hr h4 μ.O
 generalize Hl.map (aQ ⟨T,μ.O⟩)=Mx at ag rl
 generalize wN.map (aQ ⟨T,μ.O⟩)=My at ag rh
 generalize Ul.map (aQ ⟨T,μ.O⟩)=VH at ag rm
 have lZ:X.P.underlying t=some (.slice e):=hd
 have fin: ∀ (p:Option Addr) (len cap l h m:Nat),a.eval x= .slice p len cap→(Instr.sliceBounds true len cap (lo.map a.eval) (hi.map a.eval) (mx.map a.eval)).run X.P μ.w= .ok (l,h,m) μ.w→
     (execOp a.eval o).run X.P μ.w= .ok (.value (.slice (if m=l then p else p.map (·.add (l*sz))) (h - l) (m - l))) μ.w:=fun p len cap l h m hp hb=>by
   simp only[execOp,ho]
   refine bM ?_
   simp only[Instr.sliceAt,Sem.run_bind,run_underlying lZ,Result.andThen_ok,Instr.slice,hp,hb,cA hn,Sem.run_pure]
 split at ag
 · rename_i r g off len ey
   rw[ey] at hx
   simp only[aj] at hx
   obtain⟨p,cap,hp,Uk,qd,b9⟩:=hx
   simp only[Act.run] at ag
   split at ag
   · rename_i es bp
     split at ag
     · rename_i wO
       obtain⟨q0,q1,q2⟩:=b9 wO.1
       have VJ:es.length≤(μ.φ r).cap:=(hr.aN.row r es bp q0).2.1
       split at ag
       ·
         rename_i _ l h hl hh
         split at ag
         · rename_i hle
           obtain⟨rfl,rfl⟩:=aK ag
           have VK:mx.map a.eval=none:=by
             rcases rm with⟨h5,h6⟩ | ⟨_,_,h5,_⟩
             · exact h6
             · cases h5
           have hb:=eh (isSlice:=true) (len:=len) (cap:=cap) (w:=μ.w) rl rh hl hh hle.1 (by omega)
           refine⟨rfl,aB hr.aN (fin p len cap l h cap hp (by rw[VK];exact hb)) ?_⟩
           simp only[aj]
           refine⟨_,_,rfl,by omega,qd,fun _=> ⟨q0,by omega,?_⟩⟩
           by_cases sV:cap=l
           · left;omega
           · right
             rw[if_neg sV]
             have:cap≠0:=by omega
             rw[q2.resolve_left this,Option.map_some,dY,wO.2]
             congr 2
             rw[Nat.add_mul];omega
         · exact absurd ag aq
       ·
         rename_i _ l h' m hl hh
         split at ag
         · rename_i _ _ h m' EI
           split at ag
           · rename_i hle
             obtain⟨rfl,rfl⟩:=aK ag
             rcases rm with⟨h5,_⟩ | ⟨XJ,Q8,h5,h6,wP⟩
             · cases h5
             · injection h5 with h5;subst h5
               rcases rh with⟨h7,_⟩ | ⟨XK,Q9,h7,h8,wQ⟩
               · cases h7
               · injection h7 with h7;subst h7
                 have hb:=fE (isSlice:=true) (len:=len) (cap:=cap) (w:=μ.w) rl wQ wP hl hh EI hle.1 hle.2.1 (by omega)
                 refine⟨rfl,aB hr.aN (fin p len cap l h' m' hp (by rw[h6,h8];exact hb)) ?_⟩
                 split
                 · rename_i Li
                   simp only[aj]
                   have e1:h' - l=0:=by omega
                   have e2:m' - l=0:=by omega
                   exact⟨_,by rw[e1,e2]⟩
                 · simp[aj]
           · exact absurd ag aq
         · exact absurd ag aq
       · exact absurd ag aq
     · exact absurd ag aq
   · exact absurd ag aq
 · obtain⟨ te,rfl⟩:=cV ag
   refine⟨rfl,?_⟩
   generalize aQ ⟨T,μ.O⟩ x'=y at te hx
   cases y<;>simp only[gU,reduceCtorEq] at te
   ·
     simp only[aj] at hx
     obtain⟨p,hp⟩:=hx
     split at te
     · rename_i l h m hl hh hm
       split at te<;>simp at te
       rename_i hle
       subst te
       have e1:l=0:=by omega
       have e2:h=0:=by omega
       have e3:m=0:=by omega
       subst e1;subst e2;subst e3
       have hb: ∃m',(Instr.sliceBounds true 0 0 (lo.map a.eval) (hi.map a.eval) (mx.map a.eval)).run X.P μ.w= .ok (0,0,m') μ.w∧m'=0:=by
         rcases rm with⟨rfl,h6⟩ | ⟨XJ,Q8,rfl,h6,wP⟩
         · rw[h6];exact⟨_,eh (isSlice:=true) (len:=0) (cap:=0) (w:=μ.w) rl rh hl hh (Nat.le_refl _) (Nat.le_refl _),rfl⟩
         · rcases rh with⟨rfl,h8⟩ | ⟨XK,Q9,rfl,h8,wQ⟩
           · simp at hle
           · rw[h6,h8];exact⟨_,fE (isSlice:=true) (len:=0) (cap:=0) (w:=μ.w) rl wQ wP hl hh hm (Nat.le_refl _) (Nat.le_refl _) (Nat.le_refl _),rfl⟩
       obtain⟨m',hb,rfl⟩:=hb
       refine aB hr.aN (fin p 0 0 0 0 0 hp hb) ?_
       simp[aj]
     · simp at te
   ·
     rename_i sz' xs
     simp only[aj] at hx
     obtain⟨jS,wx,p,cap,vs,hp,Uk,nn,il⟩:=hx
     split at te
     · rename_i Rb
       subst Rb
       split at te
       · rename_i l h hl hh
         split at te<;>simp at te
         rename_i hle
         subst te
         obtain⟨_,VK⟩: (none:Option V)=none∧mx.map a.eval=none:=by
           rcases rm with⟨h5,h6⟩ | ⟨_,_,h5,_⟩
           · exact⟨rfl,h6⟩
           · cases h5
         have hb:=eh (isSlice:=true) (len:=xs.length) (cap:=cap) (w:=μ.w) rl rh hl hh hle.1 (by omega)
         refine aB hr.aN (fin p xs.length cap l h cap hp (by rw[VK];exact hb)) ?_
         have mj: (aF xs l (h - l)).length=h - l:=by simp[aF];omega
         simp only[aj]
         refine⟨ot _ (ou _ jS),gQ _ (jm _ wx),_,_,(vs.drop l).take (h - l),by rw[mj],by rw[mj];omega,ah.take _ (ah.drop _ nn),?_⟩
         by_cases Mz:l=h
         · left;simp[aF,Mz]
         · right
           rcases il with il| ⟨b,q,Q7,ef,yY,dn⟩
           · subst il;simp at hle;omega
           · have: ¬cap=l:=by omega
             rw[if_neg this,Q7,Option.map_some,dY]
             exact⟨b,q+l*sz',rfl,ef,yY,(dn.drop l).take _⟩
       · rename_i l h m hl hh
         split at te
         · rename_i hi0 m' EI
           split at te<;>simp at te
           rename_i hle
           subst te
           rcases rm with⟨h5,_⟩ | ⟨XJ,Q8,h5,h6,wP⟩
           · cases h5
           · injection h5 with h5;subst h5
             rcases rh with⟨h7,_⟩ | ⟨XK,Q9,h7,h8,wQ⟩
             · cases h7
             · injection h7 with h7;subst h7
               have hb:=fE (isSlice:=true) (len:=xs.length) (cap:=cap) (w:=μ.w) rl wQ wP hl hh EI hle.1 hle.2.1 (by omega)
               refine aB hr.aN (fin p xs.length cap l h m' hp (by rw[h6,h8];exact hb)) ?_
               split
               · simp only[aj]
                 have e1:h - l=0:=by omega
                 have e2:m' - l=0:=by omega
                 exact⟨_,by rw[e1,e2]⟩
               · simp[aj]
         · simp at te
       · simp at te
     · simp at te
end
end Go.AM
namespace Go.AM
open Go Go.RowKit
def b6 {α:Type} (L:List α) (p:Nat) (m:List α):List α:=L.take p++m++L.drop (p+m.length)
theorem dF {α:Type} {L m:List α} {p:Nat} (h:p+m.length≤L.length): (b6 L p m).length=L.length:=by
 simp[b6];omega
theorem dy {α:Type} {L m:List α} {p:Nat} (h:p+m.length≤L.length) (q:Nat):
   (b6 L p m)[q]? =if q<p then L[q]? else if q<p+m.length then m[q - p]? else L[q]? :=by
 unfold b6
 rw[List.append_assoc,List.getElem?_append]
 have hl: (L.take p).length=p:=by simp;omega
 rw[hl]
 split
 · rename_i hq
   rw[List.getElem?_take];simp[hq]
 · rename_i hq
   rw[List.getElem?_append]
   split
   · rename_i hm
     rw[if_pos (by omega)]
   · rename_i hm
     rw[if_neg (by omega),List.getElem?_drop]
     congr 1;omega
def cQ (c:List Value) (base sz:Nat) (vs:List Value):Prop:=
 ∀i v,vs[i]? =some v→v.cells.size=sz∧ ∀j x,v.cells[j]? =some x→c[base+i*sz+j]? =some x
def flat (us:List Value):List Value:=us.flatMap fun v=>v.cells.toList
theorem eM {us:List Value} {sz:Nat} (h: ∀v ∈ us,v.cells.size=sz): (flat us).length=us.length*sz:=by
 induction us with
 | nil=>simp[flat]
 | cons u us ih=>
   have h1:=h u (by simp)
   have h2:=ih fun v hv=>h v (by simp[hv])
   simp only[flat,List.flatMap_cons,List.length_append,List.length_cons] at h2 ⊢
   rw[h2,Array.length_toList,h1,Nat.add_mul];omega
theorem ov {us:List Value} {sz:Nat} (h: ∀v ∈ us,v.cells.size=sz) {i j:Nat} {v x:Value} (hv:us[i]? =some v) (hx:v.cells[j]? =some x):
   (flat us)[i*sz+j]? =some x:=by
 induction us generalizing i with
 | nil=>simp at hv
 | cons u us ih=>
   have h1:=h u (by simp)
   simp only[flat,List.flatMap_cons]
   cases i with
   | zero=>
     simp at hv;subst hv
     have hj:j<u.cells.size:=(Array.getElem?_eq_some_iff.1 hx).1
     rw[List.getElem?_append_left (by rw[Array.length_toList];omega)]
     simpa using hx
   | succ i=>
     simp at hv
     have:=ih (fun v hv=>h v (by simp[hv])) hv
     rw[List.getElem?_append_right (by rw[Array.length_toList,h1,Nat.add_mul];omega)]
     rw[Array.length_toList,h1]
     have e: (i+1)*sz+j - sz=i*sz+j:=by rw[Nat.add_mul];omega
     rw[e];exact this
theorem qX {sz i j k:Nat} (hj:j<sz) (Bb:i<k):i*sz+j<k*sz:=by
 have: (i+1)*sz≤k*sz:=Nat.mul_le_mul_right _ (by omega)
 rw[Nat.add_mul] at this;omega
theorem vp {sz i j k:Nat} (Bb:k≤i):k*sz≤i*sz+j:=by
 have:k*sz≤i*sz:=Nat.mul_le_mul_right _ Bb
 omega
theorem cQ.write {c:List Value} {base sz k:Nat} {vs us:List Value} (h:cQ c base sz vs) (hk:k≤vs.length) (C6: ∀v ∈ us,v.cells.size=sz)
   (tT:base+k*sz+us.length*sz≤c.length):
   cQ (b6 c (base+k*sz) (flat us)) base sz (vs.take k++us++vs.drop (k+us.length)):=by
 have vR:=eM C6
 intro i v hv
 have bJ: (vs.take k).length=k:=by simp;omega
 rw[List.append_assoc,List.getElem?_append,bJ] at hv
 split at hv
 · rename_i hi
   rw[List.getElem?_take] at hv
   simp only[hi,if_true] at hv
   obtain⟨h1,h2⟩:=h i v hv
   refine⟨h1,fun j x hx=> ?_⟩
   have hj:j<sz:=h1 ▸ (Array.getElem?_eq_some_iff.1 hx).1
   rw[dy (by rw[vR];omega),if_pos (by have:=qX hj hi;omega)]
   exact h2 j x hx
 · rename_i hi
   rw[List.getElem?_append] at hv
   split at hv
   · rename_i yS
     have XL:=List.mem_of_getElem? hv
     refine⟨C6 v XL,fun j x hx=> ?_⟩
     have hj:j<sz:=C6 v XL ▸ (Array.getElem?_eq_some_iff.1 hx).1
     have qd:=vp (sz:=sz) (j:=j) (show k≤i by omega)
     have jd:=qX (k:=k+us.length) hj (show i<k+us.length by omega)
     rw[Nat.add_mul] at jd
     rw[dy (by rw[vR];omega),if_neg (by omega),if_pos (by rw[vR];omega)]
     have e:base+i*sz+j - (base+k*sz)=(i - k)*sz+j:=by
      rw[Nat.sub_mul]
      have:=Nat.mul_le_mul_right sz (show k≤i by omega)
      omega
     rw[e]
     exact ov C6 hv hx
   · rename_i yS
     rw[List.getElem?_drop] at hv
     have e:k+us.length+(i - k - us.length)=i:=by omega
     rw[e] at hv
     obtain⟨h1,h2⟩:=h i v hv
     refine⟨h1,fun j x hx=> ?_⟩
     have qd:=vp (sz:=sz) (j:=j) (show k+us.length≤i by omega)
     rw[Nat.add_mul] at qd
     rw[dy (by rw[vR];omega),if_neg (by omega),if_neg (by rw[vR];omega)]
     exact h2 j x hx
theorem cQ.take {c:List Value} {base sz:Nat} {vs:List Value} (h:cQ c base sz vs) (n:Nat):cQ c base sz (vs.take n):=by
 intro i v hv
 rw[List.getElem?_take] at hv
 split at hv
 · exact h i v hv
 · simp at hv
theorem cQ.drop {c:List Value} {base sz:Nat} {vs:List Value} (h:cQ c base sz vs) (n:Nat):cQ c (base+n*sz) sz (vs.drop n):=by
 intro i v hv
 rw[List.getElem?_drop] at hv
 obtain⟨h1,h2⟩:=h (n+i) v hv
 refine⟨h1,fun j x hx=> ?_⟩
 rw[←h2 j x hx,Nat.add_mul]
 congr 1;omega
theorem cQ.put {c:List Value} {base sz idx off:Nat} {vs m:List Value} {x x':Value} (h:cQ c base sz vs) (hx:vs[idx]? =some x)
   (tT:base+(idx+1)*sz≤c.length) (hm:off+m.length≤sz) (oU:x'.cells.toList=b6 x.cells.toList off m):
   cQ (b6 c (base+idx*sz+off) m) base sz (vs.set idx x'):=by
 have b5:=(h idx x hx).1
 rw[Nat.add_mul] at tT
 have fk:base+idx*sz+off+m.length≤c.length:=by omega
 have Lj:off+m.length≤x.cells.toList.length:=by have:x.cells.toList.length=x.cells.size:=Array.length_toList;omega
 intro i v hv
 rw[List.getElem?_set] at hv
 split at hv
 · rename_i e;subst e
   have bJ:idx<vs.length:=(List.getElem?_eq_some_iff.1 hx).1
   simp only[bJ,if_true,Option.some.injEq] at hv
   subst hv
   have F9:x'.cells.size=sz:=by rw[←Array.length_toList,oU,dF Lj,Array.length_toList];exact b5
   refine⟨F9,fun j y hy=> ?_⟩
   have hj:j<sz:=F9 ▸ (Array.getElem?_eq_some_iff.1 hy).1
   have Hj: (b6 x.cells.toList off m)[j]? =some y:=by rw[←oU];simpa using hy
   rw[dy Lj] at Hj
   rw[dy fk]
   have e2:base+idx*sz+j - (base+idx*sz+off)=j - off:=by omega
   split at Hj
   · rw[if_pos (by omega)]
     exact(h idx x hx).2 j y (by simpa using Hj)
   · split at Hj
     · rw[if_neg (by omega),if_pos (by omega),e2];exact Hj
     · rw[if_neg (by omega),if_neg (by omega)]
       exact(h idx x hx).2 j y (by simpa using Hj)
 · rename_i cB
   obtain⟨h1,h2⟩:=h i v hv
   refine⟨h1,fun j y hy=> ?_⟩
   have hj:j<sz:=h1 ▸ (Array.getElem?_eq_some_iff.1 hy).1
   rw[dy fk]
   by_cases bJ:i<idx
   · have:=qX hj bJ
     rw[if_pos (by omega)];exact h2 j y hy
   · have:=vp (sz:=sz) (j:=j) (show idx+1≤i by omega)
     rw[Nat.add_mul] at this
     rw[if_neg (by omega),if_neg (by omega)];exact h2 j y hy
theorem fS {w:World} {b base sz:Nat} {vs:List Value} {c:Array Value} {T:TypeId} {fr:Nat×Nat} (hb:w.heap[b]? =some (.cells c T fr))
  (h:cH w b base sz vs):cQ c.toList base sz vs:=by
 intro i v hv
 obtain⟨h1,h2⟩:=h.CW hb i v hv
 exact⟨h1,fun j x hx=>by simpa using h2 j x hx⟩
theorem pD {P:Program} {w:World} {b q sz n:Nat} {vs:List Value} (h:cH w b q sz vs) (hn:n≤vs.length):
  (loadCells ⟨b,q,none⟩ (n*sz)).run P w= .ok (flat (vs.take n)).toArray w:=by
 have hs: ∀v ∈ vs.take n,v.cells.size=sz:=fun v hv=>by
  obtain⟨i,hi⟩:=List.getElem?_of_mem (List.mem_of_mem_take hv)
  exact(h i v hi).1
 have hl: (flat (vs.take n)).length=n*sz:=by rw[eM hs,List.length_take,Nat.min_eq_left hn]
 rw[←hl]
 refine run_loadCells_list w ⟨b,q,none⟩ _ fun p x hx=> ?_
 rw[dY]
 have hp:p<n*sz:=by rw[←hl];exact(List.getElem?_eq_some_iff.1 hx).1
 have b5:0 <sz:=by
  rcases Nat.eq_zero_or_pos sz with e| e
  · subst e;simp at hp
  · exact e
 have hi:p / sz<n:=Nat.div_lt_of_lt_mul (by rw[Nat.mul_comm];exact hp)
 have tW:p / sz*sz+p % sz=p:=by rw[Nat.mul_comm];exact Nat.div_add_mod p sz
 have VL:p / sz<vs.length:=by omega
 have hv:vs[p / sz]? =some vs[p / sz]:=List.getElem?_eq_getElem VL
 have Zf: (vs.take n)[p / sz]? =some vs[p / sz]:=by rw[List.getElem?_take];simp[hi,hv]
 obtain⟨h1,h2⟩:=h _ _ hv
 have hm:p % sz< (vs[p / sz]).cells.size:=by rw[h1];exact Nat.mod_lt _ b5
 have hc: (vs[p / sz]).cells[p % sz]? =some (vs[p / sz]).cells[p % sz]:=Array.getElem?_eq_getElem hm
 have g1:=ov hs Zf hc
 rw[tW,hx] at g1
 injection g1 with g1
 have g2:=h2 _ _ hc
 rw[Nat.add_assoc,tW,←g1] at g2
 exact g2
end Go.AM
namespace Go.AM
open Go Go.RowKit
theorem bK {v:V} {sz:Nat} (h:aH v sz=true):v.cw=true∧v.cells.length=sz:=by
 simp[aH] at h;exact⟨h.2,h.1⟩
theorem fe {X:Ctx} {t:TypeId} {z:V} (h:dq X t=some z) (w:World): ∃zv,(zeroValue t).run X.P w= .ok zv w∧rL zv=some z:=by
 simp only[dq,info,Option.bind_eq_some_iff] at h
 obtain⟨i,h1,zv,h2,h3⟩:=h
 exact⟨zv,by simp[zeroValue,Sem.run_bind,run_typeInfo w h1,h2],h3⟩
theorem ah.pE {X:Ctx} {μ:Mu} {ys:List V} {us:List Value} {sz:Nat} (h:ah X μ ys us) (hb:ys.all (aH · sz)=true):
   (∀u ∈ us,u.cells.size=sz)∧ ∀c ∈ flat us,c.oneCell'=true:=by
 have hh: ∀u ∈ us,∃y,y ∈ ys∧aj X μ y u:=fun u hu=>by
   obtain⟨i,hi⟩:=List.getElem?_of_mem hu
   have bJ:i<ys.length:=by rw[h.length];exact(List.getElem?_eq_some_iff.1 hi).1
   obtain⟨u',h1,h2⟩:=h.get (List.getElem?_eq_getElem bJ)
   rw[hi] at h1;injection h1 with h1;subst h1
   exact⟨_,List.getElem_mem bJ,h2⟩
 simp only[List.all_eq_true] at hb
 refine⟨fun u hu=> ?_,fun c hc=> ?_⟩
 · obtain⟨y,hy,hr⟩:=hh u hu
   obtain⟨h1,h2⟩:=bK (hb y hy)
   rw[hr.dc h1,h2]
 · simp only[flat,List.mem_flatMap] at hc
   obtain⟨u,hu,Zg⟩:=hc
   obtain⟨y,hy,hr⟩:=hh u hu
   obtain⟨h1,h2⟩:=bK (hb y hy)
   obtain⟨j,hj⟩:=List.getElem?_of_mem Zg
   have jc:=hr.cells h1
   have bJ:j<y.cells.length:=by rw[jc.length];exact(List.getElem?_eq_some_iff.1 hj).1
   obtain⟨u',g1,g2⟩:=jc.get (List.getElem?_eq_getElem bJ)
   rw[hj] at g1;injection g1 with g1;subst g1
   have Hm:=hr.gL h1
   simp only[List.all_eq_true] at Hm
   exact(g2.jP (Hm _ (List.getElem_mem bJ))).1
theorem fU {P:Program} {w:World} {g q:Nat} {cur:Array Value} {T:TypeId} (hg:w.heap[g]? =some (.cells cur T (0,0))) (m:List Value) (hl:q+m.length≤cur.size)
  (h1: ∀v ∈ m,v.oneCell'=true): (storeCells ⟨g,q,none⟩ m).run P w= .ok () (w.setRow g (b6 cur.toList q m).toArray):=by
 have:=run_storeCells_at (P:=P) g q T m 0 cur w hg (by simpa using hl) h1
 simpa [b6] using this
section
variable {X:Ctx} {E:Env} {C:aO} {o:Oper} {a:Go.Act} {T:Nat→V} {μ:Mu} {v:V} {σ':St}
theorem wR (hr:Rel X T a μ) {r sz:Nat} {arr:Bool} {es:List V} {vs:List Value} {c:Array Value} {t:TypeId} {val:Value} (b5:0 <sz) (cap:Nat)
  (cP:es.length≤cap) (jQ:es.all (aH · sz)=true) (bz:ah X μ es vs) (hc:cap*sz≤c.size) (dn:cQ c.toList 0 sz vs)
  (ag: (execOp a.eval o).run X.P μ.w= .ok (.value val) (μ.w.alloc (.cells c t (0,0))))
  (hv:let μ':Mu:=⟨μ.w.alloc (.cells c t (0,0)),cW μ.φ r ⟨μ.w.heap.size,0,cap⟩,cW μ.O r {gen:=(μ.O r).gen+1,sz:=sz,arr:=arr,fz:=false,es:=some es}⟩;aj X μ' v val):
  b4 X o a μ (cW μ.O r {gen:=(μ.O r).gen+1,sz:=sz,arr:=arr,fz:=false,es:=some es}) v:=by
 obtain⟨h1,h2⟩:=vj (X:=X) hr.aN r sz cap arr (es:=es) (vs:=vs) (c:=c) t b5 cP jQ bz hc (fun i u hu=>by
  obtain⟨k1,k2⟩:=dn i u hu
  exact⟨k1,fun j x hx=>by simpa using k2 j x hx⟩)
 exact⟨val,_,_,.inl ag,hv,h1,h2⟩
theorem yZ {x:Value}:cQ x.cells.toList 0 x.cells.size [x]:=by
 intro i v hv
 cases i with
 | zero=>simp at hv;subst hv;exact⟨rfl,fun j y hy=>by simpa using hy⟩
 | succ i=>simp at hv
theorem C7 {t:TypeId} {x':aI} {r sz:Nat} {xv:Value} (hr:Rel X T a μ) (hx:aj X μ (aQ ⟨T,μ.O⟩ x') xv)
   (Rc: (execOp a.eval o).run X.P μ.w= .ok (.value (.pointer (some ⟨μ.w.heap.size,0,none⟩))) (μ.w.alloc (.cells xv.cells t (0,0))))
   (ag: (au E (.new r sz x')).run C ⟨T,μ.O⟩=some (v,σ')):σ'.T=T∧b4 X o a μ σ'.O v:=by
 simp only[au,aV] at ag
 split at ag
 · rename_i hb
   simp only[Bool.and_eq_true,decide_eq_true_eq] at hb
   simp only[Act.run,Option.some.injEq,Prod.mk.injEq] at ag
   obtain⟨rfl,rfl⟩:=ag
   obtain⟨hl,sV⟩:=bK hb.1
   have b5:xv.cells.size=sz:=by rw[hx.dc hl,sV]
   refine⟨rfl,wR hr (cap:=1) (es:=[aQ ⟨T,μ.O⟩ x']) (vs:=[xv]) (c:=xv.cells) hb.2 (by simp) (by simp[hb.1]) (by simp[ah,hx]) (by omega) (b5 ▸ yZ) Rc ?_⟩
   simp only[aj,av]
   exact⟨_,rfl,Nat.le_refl _,fun _=> ⟨hb.2,by simp⟩⟩
 · exact absurd ag aq
theorem C8 {t:TypeId} {r sz:Nat} {z:V} (ks:List Nat) (hr:Rel X T a μ) (ho:o.op= .alloc t) (hz:dq X t=some z)
  (ag: (au E (.new r sz (.const (yf ks z)))).run C ⟨T,μ.O⟩=some (v,σ')):σ'.T=T∧b4 X o a μ σ'.O v:=by
 obtain⟨zv,h1,h2⟩:=fe hz μ.w
 refine C7 (t:=t) (xv:=zv) hr (aj.yf ks (dx h2).1) ?_ ag
 simp only[execOp,ho]
 refine bM ?_
 simp[Instr.alloc,Sem.run_bind,h1,newVar,newRow]
theorem Lk {t:TypeId} {r sz:Nat} {x:Operand} {x':aI} (ks:List Nat) (hr:Rel X T a μ) (ho:o.op= .box t x) (h1:cm X x=some x')
  (ag: (au E (.new r sz (Hg ks x'))).run C ⟨T,μ.O⟩=some (v,σ')):σ'.T=T∧b4 X o a μ σ'.O v:=by
 refine C7 (t:=t) (xv:=a.eval x) hr (aj.Hg ks (aG hr h1 μ.O)) ?_ ag
 simp only[execOp,ho]
 refine bM ?_
 simp[Instr.box,Sem.run_bind,newVar,newRow]
theorem qf {zv:Value} {sz n:Nat} (hz:zv.cells.size=sz):
  ((Array.range (n*sz)).map (fun i=>zv.cells[i % zv.cells.size]!)).size=n*sz∧
    cQ ((Array.range (n*sz)).map (fun i=>zv.cells[i % zv.cells.size]!)).toList 0 sz (List.replicate n zv):=by
 refine⟨by simp,fun i v hv=> ?_⟩
 rw[List.getElem?_replicate] at hv
 split at hv<;>simp at hv
 rename_i hi
 subst hv
 refine⟨hz,fun j x hx=> ?_⟩
 have hj:j<sz:=hz ▸ (Array.getElem?_eq_some_iff.1 hx).1
 have bJ:=qX hj hi
 have hm: (i*sz+j) % sz=j:=by rw[Nat.mul_comm,Nat.mul_add_mod];exact Nat.mod_eq_of_lt hj
 have hr: (Array.range (n*sz))[i*sz+j]? =some (i*sz+j):=by simp[bJ]
 simp only[Nat.zero_add,Array.toList_map,List.getElem?_map]
 rw[Array.getElem?_toList,hr]
 simp only[Option.map_some,hz,hm]
 rw[getElem!_def,hx]
theorem ah.replicate {z:V} {zv:Value} (h:aj X μ z zv): ∀n,ah X μ (List.replicate n z) (List.replicate n zv)
 | 0=>by simp[ah]
 | n+1=>by simp only[List.replicate_succ,ah];exact⟨h,ah.replicate h n⟩
theorem vq {t e:TypeId} {x y:Operand} {x' y':aI} {r sz:Nat} {i:TypeInfo} {z:V} (hr:Rel X T a μ) (ho:o.op= .makeSlice t x y) (hd:aR X t=some (.slice e)) (hn:ba X e=some sz)
   (hi:info X e=some i) (hz:dq X e=some z) (h1:cm X x=some x') (h2:cm X y=some y')
   (ag: (au E (.makeSlice r sz i.bytes z x' y')).run C ⟨T,μ.O⟩=some (v,σ')):σ'.T=T∧b4 X o a μ σ'.O v:=by
 simp only[au,aV] at ag
 have hx:=aG hr h1 μ.O
 have hy:=aG hr h2 μ.O
 split at ag
 · rename_i k n k' m e1 e2
   split at ag
   · rename_i hc
     obtain⟨s8,s9,MA,Cf,Zh,hc6⟩:=hc
     simp only[Act.run,Option.some.injEq,Prod.mk.injEq] at ag
     obtain⟨rfl,rfl⟩:=ag
     rw[e1] at hx;rw[e2] at hy
     simp only[aj] at hx hy
     obtain⟨zv,sW,tX⟩:=fe hz μ.w
     obtain⟨rX,Hn⟩:=dx (X:=X) (μ:=μ) tX
     have Ga:zv.cells.size=sz:=by rw[rX.dc Hn,(bK Cf).2]
     obtain⟨VM,sU⟩:=qf (n:=m.toNat) Ga
     have QP:IntKind.i64.wrap n=n:=IntWalk.i64_in _ (by omega)
     have yh:IntKind.i64.wrap m=m:=IntWalk.i64_in _ (by omega)
     have Cd:X.P.underlying t=some (.slice e):=hd
     have Zi:X.P.info? e=some i:=hi
     have CN: ¬ (((decide (m< 0) || decide ((i.bytes:Int)*m >2 ^ 48)) || decide (n< 0) || decide (n >m))=true):=by
       simp only[Bool.or_eq_true,decide_eq_true_eq,not_or]
       have: (i.bytes:Int)*m=m*i.bytes:=Int.mul_comm _ _
       have h48: (2:Int) ^ 48=281474976710656:=by decide
       refine⟨⟨⟨by omega,by omega⟩,by omega⟩,by omega⟩
     refine⟨rfl,wR hr (cap:=m.toNat) (es:=List.replicate m.toNat z) (vs:=List.replicate m.toNat zv) (val:= .slice (some ⟨μ.w.heap.size,0,none⟩) n.toNat m.toNat) Zh (by simp) ?_ (ah.replicate rX _) (by rw[VM];exact Nat.le_refl _) sU (t:=e) ?_ ?_⟩
     · simp only[List.all_eq_true,List.mem_replicate]
       rintro q ⟨_,rfl⟩;exact Cf
     · simp only[execOp,ho]
       refine bM ?_
       simp only[Instr.makeSlice,Sem.run_bind,run_underlying Cd,Result.andThen_ok,hx,hy,asInt,asIntOf,Sem.run_pure,run_typeInfo μ.w Zi,QP,yh]
       rw[if_neg CN]
       simp only[Sem.run_bind,run_askRoom,Result.andThen_ok,cA hn]
       by_cases Bd:m.toNat*sz=0
       · rw[if_pos Bd]
         simp only[Sem.run_pure,Result.andThen_ok,newRow,Sem.run_bind,run_newObj]
         have MB:Array.range 0= #[]:=rfl
         rw[Bd,MB]
         simp
       · rw[if_neg Bd]
         simp only[Sem.run_bind,sW,Result.andThen_ok,Sem.run_pure,newRow,run_newObj]
         simp
     · simp only[aj,av]
       exact⟨_,_,rfl,by omega,Nat.le_refl _,fun _=> ⟨by omega,by simp,by simp⟩⟩
   · exact absurd ag aq
 · exact absurd ag aq
theorem mn {      c:V} {k:V→Act} {val:Value} {O:Nat→Obj} {p:V×St} (ho:aS X ⟨μ.w,μ.φ,O⟩) (hv:aj X ⟨μ.w,μ.φ,O⟩ c val) (ag: (bN c k).run C ⟨T,O⟩=some p):
   ∃c' O',(k c').run C ⟨T,O'⟩=some p∧aj X ⟨μ.w,μ.φ,O'⟩ c' val∧Le ⟨μ.w,μ.φ,O⟩ ⟨μ.w,μ.φ,O'⟩∧aS X ⟨μ.w,μ.φ,O'⟩∧(c.aC=true→c'.aC=true):=by
 have same: (bN c k).run C ⟨T,O⟩=(k c).run C ⟨T,O⟩→_:=fun e=> (⟨c,O,e ▸ ag,hv,Le.refl _,ho,id⟩: ∃c' O',(k c').run C ⟨T,O'⟩=some p∧aj X ⟨μ.w,μ.φ,O'⟩ c' val∧Le ⟨μ.w,μ.φ,O⟩ ⟨μ.w,μ.φ,O'⟩∧aS X ⟨μ.w,μ.φ,O'⟩∧(c.aC=true→c'.aC=true))
 cases c with
 | mp r g=>
   simp only[bN,Act.run] at ag
   split at ag
   · rename_i es bp
     split at ag
     · rename_i hc
       obtain⟨s8,s9,MA,Cf⟩:=hc
       simp only[Act.run] at ag
       obtain⟨le,uX⟩:=mW (μ:=⟨μ.w,μ.φ,O⟩) ho r
       refine⟨_,_,ag,?_,le,uX,fun _=>rfl⟩
       simp only[aj] at hv
       obtain⟨a,rfl,h1,h2⟩:=hv
       obtain⟨k0,rfl⟩:=h2 s8
       have ox:=uX.ents r es (by simp[av,bp]) (by simp[av,s9])
       rcases ox with⟨cP,ents,clock,hm,bz,jo⟩ | ⟨_,s,pos,_,rfl⟩ | ⟨kG,rfl⟩
       rotate_left
       · simp[V.isTuple] at Cf
       · simp[V.isTuple] at Cf
       simp only[aj]
       refine⟨MA,.inr ⟨_,ents,clock,rfl,?_,(Array.getElem?_eq_some_iff.1 hm).1,⟨hm,jo⟩,bz⟩⟩
       rintro(⟨r',h1,h2,h3,h4⟩ | Ll)
       · by_cases e:r'=r
         · subst e;simp[av] at h2
         · exact uX.inj r' r e h1 (by simp[av,bp]) h3 cP h4
       · exact uX.p8 r (by simp[av,bp]) cP Ll
     · exact absurd ag aq
   · exact absurd ag aq
 | sl r g off len=>
   simp only[bN,Act.run] at ag
   split at ag
   · rename_i es bp
     split at ag
     · rename_i hc
       obtain⟨s8,s9,MA,Cf⟩:=hc
       simp only[Act.run] at ag
       obtain⟨le,uX⟩:=mW (μ:=⟨μ.w,μ.φ,O⟩) ho r
       refine⟨_,_,ag,?_,le,uX,fun _=>rfl⟩
       have mj: (aF es off len).length=len:=by simp[aF];omega
       have yj:=aj.mono le hv
       simp only[aj,av] at yj
       obtain⟨a0,cap,rfl,hle,_,b9⟩:=yj
       obtain⟨k0,k1,k2⟩:=b9 s8
       obtain⟨q1,q2,q3,q4⟩:=uX.row r es (by simp[av,bp]) (by simpa [av] using k0)
       simp only[av] at q1 q2 q3 q4
       simp only[aj]
       refine⟨Cf,?_,a0,cap,?_⟩
       · simp only[List.all_eq_true] at q3 ⊢
         exact fun x hx=> (bK (q3 x (List.mem_of_mem_drop (List.mem_of_mem_take hx)))).1
       · by_cases cP:cap=0
         · have:len=0:=by omega
           subst this
           refine⟨[],by rw[mj],by rw[mj];omega,?_,.inl ?_⟩
           · simp[aF,ah]
           · simp[aF]
         · have kK: (μ.φ r).cap≠0:=by omega
           rcases q4 with q4| ⟨cc,TT,vs,p1,p2,p3,p4⟩
           · exact absurd q4 kK
           · refine⟨(vs.drop off).take len,by rw[mj],by rw[mj];omega,ah.take _ (ah.drop _ p3),.inr ⟨_,_,k2.resolve_left cP,?_,(Array.getElem?_eq_some_iff.1 p1).1,(p4.drop off).take len⟩⟩
             rintro(⟨r',h1,h2,h3,h4⟩ | Ll)
             · by_cases e:r'=r
               · subst e;simp[av] at h2
               · have:=uX.inj r' r e h1 (by simp[av,bp]) h3 kK
                 exact this h4
             · exact uX.p8 r (by simp[av,bp]) kK Ll
     · exact absurd ag aq
   · exact absurd ag aq
 | own _ _=>exact absurd ag aq
 | msl _ _ _ _=>exact absurd ag aq
 | mptr _ _ _ _=>exact absurd ag aq
 | any=>exact absurd ag aq
 | it _ _=>exact absurd ag aq
 | _=>exact same rfl
theorem kQ: ∀ {cs:List V} {k:List V→Act} {vals:List Value} {O:Nat→Obj} {p:V×St},aS X ⟨μ.w,μ.φ,O⟩→ah X ⟨μ.w,μ.φ,O⟩ cs vals→(dj cs k).run C ⟨T,O⟩=some p→
   ∃cj O',(k cj).run C ⟨T,O'⟩=some p∧ah X ⟨μ.w,μ.φ,O'⟩ cj vals∧Le ⟨μ.w,μ.φ,O⟩ ⟨μ.w,μ.φ,O'⟩∧aS X ⟨μ.w,μ.φ,O'⟩∧(cs.all V.aC=true→cj.all V.aC=true)
 | [],k,[],O,p,ho,_,ag=> ⟨[],O,ag,by simp[ah],Le.refl _,ho,id⟩
 | [],_,_::_,_,_,_,h,_=>by simp[ah] at h
 | _::_,_,[],_,_,_,h,_=>by simp[ah] at h
 | c::cs,k,v::vals,O,p,ho,h,ag=>by
   simp only[ah] at h
   obtain⟨c',O1,h1,h2,h3,h4,h5⟩:=mn ho h.1 ag
   obtain⟨cj,O2,k1,k2,k3,k4,k5⟩:=kQ h4 (ah.mono h3 h.2) h1
   refine⟨c'::cj,O2,k1,?_,h3.trans k3,k4,?_⟩
   · simp only[ah];exact⟨aj.mono k3 h2,k2⟩
   · intro hh
     simp only[List.all_cons,Bool.and_eq_true] at hh ⊢
     exact⟨h5 hh.1,k5 hh.2⟩
theorem jq {c:V} {k:V→Act} {val:Value} {O:Nat→Obj} {p:V×St} (ho:aS X ⟨μ.w,μ.φ,O⟩) (hv:aj X ⟨μ.w,μ.φ,O⟩ c val) (ag: (rq c k).run C ⟨T,O⟩=some p):
   ∃c' O',(k c').run C ⟨T,O'⟩=some p∧aj X ⟨μ.w,μ.φ,O'⟩ c' val∧Le ⟨μ.w,μ.φ,O⟩ ⟨μ.w,μ.φ,O'⟩∧aS X ⟨μ.w,μ.φ,O'⟩:=by
 unfold rq at ag
 split at ag
 · exact⟨c,O,ag,hv,Le.refl _,ho⟩
 · split at ag
   · simp only[aj] at hv
     obtain⟨h0,vs,rfl,nn⟩:=hv
     obtain⟨cj,O',h1,h2,h3,h4,h5⟩:=kQ ho nn ag
     exact⟨_,O',h1,by simp only[aj];exact⟨h5 h0,vs,rfl,h2⟩,h3,h4⟩
   · obtain⟨c',O',h1,h2,h3,h4,_⟩:=mn ho hv ag
     exact⟨c',O',h1,h2,h3,h4⟩
theorem mq: ∀ {cs:List V} {k:List V→Act} {vals:List Value} {O:Nat→Obj} {p:V×St},aS X ⟨μ.w,μ.φ,O⟩→ah X ⟨μ.w,μ.φ,O⟩ cs vals→(gF.go cs k).run C ⟨T,O⟩=some p→
   ∃cj O',(k cj).run C ⟨T,O'⟩=some p∧ah X ⟨μ.w,μ.φ,O'⟩ cj vals∧Le ⟨μ.w,μ.φ,O⟩ ⟨μ.w,μ.φ,O'⟩∧aS X ⟨μ.w,μ.φ,O'⟩
 | [],k,[],O,p,ho,_,ag=> ⟨[],O,ag,by simp[ah],Le.refl _,ho⟩
 | [],_,_::_,_,_,_,h,_=>by simp[ah] at h
 | _::_,_,[],_,_,_,h,_=>by simp[ah] at h
 | c::cs,k,v::vals,O,p,ho,h,ag=>by
   simp only[ah] at h
   obtain⟨c',O1,h1,h2,h3,h4⟩:=jq ho h.1 ag
   obtain⟨cj,O2,k1,k2,k3,k4⟩:=mq h4 (ah.mono h3 h.2) h1
   refine⟨c'::cj,O2,k1,?_,h3.trans k3,k4⟩
   simp only[ah];exact⟨aj.mono k3 h2,k2⟩
theorem rY {cs:List V} {k:List V→Act} {vals:List Value} {O:Nat→Obj} {p:V×St} (ho:aS X ⟨μ.w,μ.φ,O⟩) (hv:ah X ⟨μ.w,μ.φ,O⟩ cs vals) (ag: (gF cs k).run C ⟨T,O⟩=some p):
  ∃cj O',(k cj).run C ⟨T,O'⟩=some p∧ah X ⟨μ.w,μ.φ,O'⟩ cj vals∧Le ⟨μ.w,μ.φ,O⟩ ⟨μ.w,μ.φ,O'⟩∧aS X ⟨μ.w,μ.φ,O'⟩:=by
 unfold gF at ag
 split at ag
 · exact⟨cs,O,ag,hv,Le.refl _,ho⟩
 · exact mq ho hv ag
end
end Go.AM
namespace Go.AM
open Go Go.RowKit
theorem mr {α:Type} (L:List α) (p:Nat) (x:α) (h:p<L.length):L.set p x=b6 L p [x]:=by
 apply List.ext_getElem?
 intro q
 rw[dy (by simp;omega),List.getElem?_set]
 by_cases hq:q<p
 · simp[hq];omega
 · by_cases EJ:p=q
   · subst EJ;simp[h]
   · have: ¬q<p+1:=by omega
     simp[hq,EJ,this]
theorem bG {α:Type} (xs:Array α):xs.toList.length=xs.size:=Array.length_toList
section
variable {X:Ctx} {E:Env} {C:aO} {o:Oper} {a:Go.Act} {T:Nat→V} {μ:Mu} {v:V} {σ':St}
theorem wS {agg:Bool} {off sz:Nat} {e u e':V} {x val:Value} (he:aj X μ e x) (hl:e.cw=true) (hu:aj X μ u val) (h:cC agg off sz e u=some e'):
   ∃x',aj X μ e' x'∧e'.cw=true∧e'.cells.length=e.cells.length∧val.cells.size=sz∧off+sz≤x.cells.size∧x'.cells.toList=b6 x.cells.toList off val.cells.toList∧
     ∀c ∈ val.cells.toList,c.oneCell'=true:=by
 unfold cC at h
 split at h
 · split at h
   · rename_i cs vs
     split at h<;>simp at h
     rename_i hc
     subst h
     simp only[aj] at he hu
     obtain⟨h0,xs,rfl,hx⟩:=he
     obtain⟨k0,ys,rfl,hy⟩:=hu
     have l1:=hx.length
     have l2:=hy.length
     rw[bG xs] at l1
     rw[bG ys] at l2
     refine⟨.agg (b6 xs.toList off ys.toList).toArray,?_,rfl,?_,?_,?_,?_,?_⟩
     · simp only[aj]
       refine⟨?_,_,rfl,?_⟩
       · have t1:=gQ (p:=V.aC) off h0
         have t2:=jm (p:=V.aC) (off+sz) h0
         simp only[List.all_append,t1,k0,t2,Bool.and_self]
       · have:=((ah.take off hx).append hy).append (ah.drop (off+sz) hx)
         simpa [b6,←l2,hc.1] using this
     · simp[V.cells];omega
     · simp only[Value.cells];omega
     · simp only[Value.cells];omega
     · simp[Value.cells]
     · intro c Um
       simp only[Value.cells] at Um
       obtain⟨j,hj⟩:=List.getElem?_of_mem Um
       have bJ:j<vs.length:=by rw[hy.length];exact(List.getElem?_eq_some_iff.1 hj).1
       obtain⟨c',g1,g2⟩:=hy.get (List.getElem?_eq_getElem bJ)
       rw[hj] at g1;injection g1 with g1;subst g1
       simp only[List.all_eq_true] at k0
       exact(g2.jP (k0 _ (List.getElem_mem bJ))).1
   · simp at h
 · split at h
   · rename_i im
     obtain⟨Be,jc⟩:=hu.jP im.1
     have Ac: ∀c ∈ val.cells.toList,c.oneCell'=true:=by rw[jc];simpa using Be
     split at h
     · rename_i cs
       split at h<;>simp at h
       rename_i F7
       subst h
       simp only[aj] at he
       obtain⟨h0,xs,rfl,hx⟩:=he
       have l1:=hx.length
       rw[bG xs] at l1
       refine⟨.agg (xs.toList.set off val).toArray,?_,rfl,?_,?_,?_,?_,Ac⟩
       · simp only[aj]
         refine⟨?_,_,rfl,by simpa using ah.set hx off hu⟩
         simp only[List.all_eq_true] at h0 ⊢
         intro c Um
         rcases List.mem_or_eq_of_mem_set Um with hm| rfl
         · exact h0 c hm
         · exact im.1
       · simp[V.cells]
       · rw[jc,im.2];rfl
       · simp only[Value.cells];omega
       · rw[jc]
         simp only[Value.cells]
         rw[mr _ _ _ (by rw[Array.length_toList];omega)]
     · split at h<;>simp at h
       rename_i cB kK
       subst h
       obtain⟨_,XM⟩:=he.jP kK.1
       refine⟨val,hu,by simp[V.cw,im.1],?_,?_,?_,?_,Ac⟩
       · rw[V.eC im.1,V.eC kK.1];rfl
       · rw[jc,im.2];rfl
       · rw[XM,im.2,kK.2];simp
       · rw[jc,XM,kK.2];simp[b6]
   · simp at h
theorem vr {t:TypeId} {w:World} {g q sz:Nat} {cur:Array Value} {T0:TypeId} {val:Value} (hn:ba X t=some sz) (hg:w.heap[g]? =some (.cells cur T0 (0,0)))
  (hs:val.cells.size=sz) (hl:q+sz≤cur.size) (h1: ∀c ∈ val.cells.toList,c.oneCell'=true):
  (storeVar t ⟨g,q,none⟩ val).run X.P w= .ok () (w.setRow g (b6 cur.toList q val.cells.toList).toArray):=by
 have:=fU (P:=X.P) hg val.cells.toList (by rw[Array.length_toList,hs];exact hl) h1
 simp[storeVar,Sem.run_bind,cA hn,hs,this]
theorem wT {    t:TypeId} {agg:Bool} {sz r g idx off:Nat} {u:V} {val:Value} {O:Nat→Obj} (ho:aS X ⟨μ.w,μ.φ,O⟩) (hu:aj X ⟨μ.w,μ.φ,O⟩ u val) (hn:ba X t=some sz) (h0:0 < (O r).sz)
   (ag: (au.iJ agg sz r g idx off u).run C ⟨T,O⟩=some (v,σ')):
   σ'.T=T∧v= .tuple []∧ ∃w' φ',(storeVar t ⟨(μ.φ r).cD,(μ.φ r).base+idx*(O r).sz+off,none⟩ val).run X.P μ.w= .ok () w'∧Le ⟨μ.w,μ.φ,O⟩ ⟨w',φ',σ'.O⟩∧aS X ⟨w',φ',σ'.O⟩:=by
 simp only[au.iJ,Act.run] at ag
 split at ag
 · rename_i es bp
   split at ag
   · rename_i hc
     split at ag
     · rename_i e he
       split at ag
       · rename_i e' hp
         simp only[Act.run,Option.some.injEq,Prod.mk.injEq] at ag
         obtain⟨rfl,rfl⟩:=ag
         obtain⟨k1,k2,k3,k4⟩:=ho.row r es bp h0
         simp only at k1 k2 k3 k4
         have bJ:idx<es.length:=(List.getElem?_eq_some_iff.1 he).1
         have kK: (μ.φ r).cap≠0:=by omega
         rcases k4 with k4| ⟨c,T0,vs,hb,tT,nn,dn⟩
         · exact absurd k4 kK
         · obtain⟨x,hx,bz⟩:=nn.get he
           have jQ:aH e (O r).sz=true:=by
            simp only[List.all_eq_true] at k3
            exact k3 e (List.mem_of_getElem? he)
           obtain⟨jr,sV⟩:=bK jQ
           obtain⟨x',p1,p2,p3,p4,p5,p6,p7⟩:=wS bz jr hu hp
           have zO:x.cells.size=(O r).sz:=by rw[bz.dc jr,sV]
           have sU:cQ c.toList (μ.φ r).base (O r).sz vs:=fS hb dn
           have hmul: (idx+1)*(O r).sz≤(μ.φ r).cap*(O r).sz:=Nat.mul_le_mul_right _ (by omega)
           have Lm: (μ.φ r).base+(idx+1)*(O r).sz≤c.toList.length:=by rw[Array.length_toList];omega
           have qF:=sU.put (x':=x') hx Lm (m:=val.cells.toList) (by rw[Array.length_toList,p4];omega) p6
           have kM:=vr (X:=X) (t:=t) (q:=(μ.φ r).base+idx*(O r).sz+off) (val:=val) hn hb p4 (by rw[Nat.add_mul] at hmul;omega) p7
           have hw:=lQ (μ:=⟨μ.w,μ.φ,O⟩) ho r bp hc.2 hb kK (c':=(b6 c.toList ((μ.φ r).base+idx*(O r).sz+off) val.cells.toList).toArray)
            (by
              have: (b6 c.toList ((μ.φ r).base+idx*(O r).sz+off) val.cells.toList).length=c.toList.length:=dF (by
               rw[Array.length_toList,Array.length_toList,p4];rw[Nat.add_mul] at hmul;omega)
              simpa using this)
            (O r).gen (μ.φ r).base (μ.φ r).cap (es':=es.set idx e') (vs':=vs.set idx x') (.inl ⟨rfl,rfl,rfl⟩) kK (by simpa using k2)
            (by
              simp only[List.all_eq_true] at k3 ⊢
              intro y hy
              rcases List.mem_or_eq_of_mem_set hy with hm| rfl
              · exact k3 y hm
              · simp[aH,p2,p3,sV])
            (ah.set nn idx p1) tT (fun i y hy=>by
              obtain⟨q1,q2⟩:=qF i y hy
              exact⟨q1,fun j z hz=>by simpa using q2 j z hz⟩)
           refine⟨rfl,rfl,_,_,kM,hw.1,hw.2⟩
       · exact absurd ag aq
     · exact absurd ag aq
   · exact absurd ag aq
 · exact absurd ag aq
theorem C9 {t:TypeId} {x y:Operand} {x' y':aI} {agg:Bool} {sz:Nat} (hr:Rel X T a μ) (ho:o.op= .store t x y) (h1:cm X x=some x') (h2:cm X y=some y')
   (hn:ba X t=some sz) (ag: (au E (.store agg sz x' y')).run C ⟨T,μ.O⟩=some (v,σ')):σ'.T=T∧b4 X o a μ σ'.O v:=by
 simp only[au,aV] at ag
 have hx:=aG hr h1 μ.O
 have hy:=aG hr h2 μ.O
 split at ag
 · rename_i r g idx off e
   rw[e] at hx
   simp only[aj] at hx
   obtain⟨p,hp,qd,b9⟩:=hx
   have fin: ∀w',(storeVar t p (a.eval y)).run X.P μ.w= .ok () w'→(execOp a.eval o).run X.P μ.w= .ok .skip w':=fun w' hw=>by
     simp only[execOp,ho]
     refine CX ?_
     simp[Instr.storeAt,Instr.sureAddr,Sem.run_bind,hp,hw]
   have main: ∀ {O:Nat→Obj} {u:V},Le μ ⟨μ.w,μ.φ,O⟩→aS X ⟨μ.w,μ.φ,O⟩→aj X ⟨μ.w,μ.φ,O⟩ u (a.eval y)→(au.iJ agg sz r g idx off u).run C ⟨T,O⟩=some (v,σ')→
       σ'.T=T∧b4 X o a μ σ'.O v:=by
     intro O u le ew hu qF
     have hgO: (O r).gen=g:=by
       simp only[au.iJ,Act.run] at qF
       split at qF
       · split at qF
         · rename_i hc;exact hc.1
         · exact absurd qF aq
       · exact absurd qF aq
     have VN:=le.gen r
     simp only at VN
     have XN: (μ.O r).gen=g:=by omega
     obtain⟨_,Gb⟩:=le.row r (by simp only;omega)
     obtain⟨q1,q2,w',φ',q3,q4,q5⟩:=wT (t:=t) ew hu hn (by simp only at Gb;rw[Gb];exact(b9 XN).1) qF
     refine⟨q1,undef,w',φ',.inr ⟨fin w' ?_,rfl⟩,?_,le.trans q4,q5⟩
     · rw[(b9 XN).2]
       simp only at Gb
       rw[←Gb];exact q3
     · rw[q2];simp only[aj];exact⟨#[],rfl,by simp[ah]⟩
   simp only[Act.run] at ag
   split at ag
   · rw[aV] at ag
     obtain⟨u,O1,k1,k2,k3,k4⟩:=jq (μ:=μ) hr.aN hy ag
     exact main k3 k4 k2 k1
   · rw[aV] at ag
     exact main (Le.refl μ) hr.aN hy ag
 · exact absurd ag aq
theorem tY {off:Nat}: ∀ (m:List Value) (k:Nat) (cs:Array Value),off+k+m.length≤cs.size→
   ((m.zipIdx k).foldl (fun cs (p:Value×Nat)=>cs.setIfInBounds (off+p.2) p.1) cs).toList=b6 cs.toList (off+k) m
 | [],k,cs,_=>by simp[b6]
 | x::m,k,cs,h=>by
   simp only[List.zipIdx_cons,List.foldl_cons]
   simp at h
   rw[tY m (k+1) _ (by simp;omega)]
   rw[Array.toList_setIfInBounds]
   apply List.ext_getElem?
   intro q
   rw[dy (by simp;omega),dy (by simp;omega),List.getElem?_set]
   by_cases h1:q<off+k
   · have:q<off+(k+1):=by omega
     have h2: ¬off+k=q:=by omega
     simp[h1,this,h2]
   · by_cases h2:q=off+k
     · subst h2
       have h3:off+k<off+(k+1):=by omega
       have h4:off+k<cs.size:=by omega
       simp[h3,h4]
     · by_cases h3:q<off+k+(m.length+1)
       · have h4: ¬q<off+(k+1):=by omega
         have h5:q<off+(k+1)+m.length:=by omega
         have h6:q - (off+k)=(q - (off+(k+1)))+1:=by omega
         simp[h1,h4,h3,h5,h6]
       · have h4: ¬q<off+(k+1):=by omega
         have h5: ¬q<off+(k+1)+m.length:=by omega
         have h6: ¬off+k=q:=by omega
         simp[h1,h4,h3,h5,h6]
theorem tZ {off:Nat} {x:Value} {cs:Array Value} (h:off+x.cells.size≤cs.size):
  (x.cells.zipIdx.foldl (fun cs (p:Value×Nat)=>cs.setIfInBounds (off+p.2) p.1) cs).toList=b6 cs.toList off x.cells.toList:=by
 rw[←Array.foldl_toList,Array.toList_zipIdx]
 have:=tY (off:=off) x.cells.toList 0 cs (by rw[Array.length_toList];omega)
 simpa using this
theorem wU {place:Nat→Option (Nat×Nat)}: ∀ {ps:List (Nat×Nat×V)} {qs:List (Nat×Value)} {cs cj:List V} {xs:Array Value},
   (ps.length=qs.length)→(∀ (i:Nat) p q,ps[i]? =some p→qs[i]? =some q→place q.1=some (p.1,p.2.1)∧aj X μ p.2.2 q.2)→ah X μ cs xs.toList→cs.all V.aC=true→
   cU cs ps=some cj→ ∃EK,Instr.fill place xs qs=some EK∧ah X μ cj EK.toList∧cj.all V.aC=true
 | [],[],cs,cj,xs,_,_,hv,hc,h=>by
   simp[cU] at h;subst h
   exact⟨xs,rfl,hv,hc⟩
 | [],_::_,_,_,_,h,_,_,_,_=>by simp at h
 | _::_,[],_,_,_,h,_,_,_,_=>by simp at h
 | (off,sz,u)::ps,(i,q)::qs,cs,cj,xs,hl,hp,hv,hc,h=>by
   simp only[cU] at h
   split at h
   · rename_i ua
     obtain⟨h1,h2,h3⟩:=ua
     obtain⟨Da,bz⟩:=hp 0 _ _ rfl rfl
     simp only at Da bz
     have Rd:q.cells.size=sz:=by rw[bz.dc h3,h1]
     have hlen:=hv.length
     rw[bG xs] at hlen
     have fk:off+q.cells.size≤xs.size:=by omega
     have ub:=tZ (x:=q) (cs:=xs) fk
     have Ad:ah X μ (cs.take off++u.cells++cs.drop (off+sz)) (q.cells.zipIdx.foldl (fun cs (p:Value×Nat)=>cs.setIfInBounds (off+p.2) p.1) xs).toList:=by
      rw[ub]
      have:=((ah.take off hv).append (bz.cells h3)).append (ah.drop (off+sz) hv)
      simpa [b6,Rd] using this
     have s9: (cs.take off++u.cells++cs.drop (off+sz)).all V.aC=true:=by
      have t1:=gQ (p:=V.aC) off hc
      have t2:=jm (p:=V.aC) (off+sz) hc
      simp only[List.all_append,t1,bz.gL h3,t2,Bool.and_self]
     obtain⟨EK,g1,g2,g3⟩:=wU (place:=place) (ps:=ps) (qs:=qs) (by simpa using hl) (fun j p q' hj Ho=>hp (j+1) p q' (by simpa using hj) (by simpa using Ho)) Ad s9 h
     refine⟨EK,?_,g2,g3⟩
     have y0: ¬ (q.cells.size≠sz∨xs.size<off+q.cells.size):=by omega
     simp only[Instr.fill,Da]
     rw[if_neg (by simpa using y0)]
     exact g1
   · simp at h
end
end Go.AM
namespace Go.AM
open Go Go.RowKit
theorem mu {α β:Type} {P:Program} {w:World} {f:α→Sem β} {g:α→β}: ∀ (l:List α),(∀x ∈ l,(f x).run P w= .ok (g x) w)→(l.mapM f).run P w= .ok (l.map g) w
 | [],_=>by simp
 | x::l,h=>by
   have h1:=h x (by simp)
   have h2:=mu (f:=f) (g:=g) l fun y hy=>h y (by simp[hy])
   simp[List.mapM_cons,Sem.run_bind,h1,h2]
theorem rZ {α β:Type} {P:Program} {w:World} {f:α→Sem β} {g:α→β} (l:Array α) (h: ∀x ∈ l.toList,(f x).run P w= .ok (g x) w): (l.mapM f).run P w= .ok (l.map g) w:=by
 have:=mu l.toList h
 rw[Array.mapM_eq_mapM_toList]
 simp only[map_eq_pure_bind,Sem.run_bind,this,Result.andThen_ok,Sem.run_pure]
 congr 1
 apply Array.ext';simp
section
variable {X:Ctx} {E:Env} {C:aO} {o:Oper} {a:Go.Act} {T:Nat→V} {μ:Mu} {v:V} {σ':St}
theorem qg: ∀ (ps:List (Nat×Nat×aI)) (k:List (Nat×Nat×V)→Act) (σ:St),(dJ ps k).run C σ=(k (ps.map fun p=> (p.1,p.2.1,aQ σ p.2.2))).run C σ
 | [],_,_=>rfl
 | (_,_,x)::ps,k,σ=>by simp only[dJ,aV,qg ps,List.map_cons]
theorem qh (hr:Rel X T a μ) (O:Nat→Obj) {place:Nat→Option (Nat×Nat)}: ∀ {ps:List (Nat×Operand)} {as:List (Nat×Nat×aI)},gK X place ps=some as→
   as.length=ps.length∧ ∀ (i:Nat) p q,as[i]? =some p→ps[i]? =some q→place q.1=some (p.1,p.2.1)∧aj X μ (aQ ⟨T,O⟩ p.2.2) (a.eval q.2)
 | [],as,h=>by simp[gK] at h;subst h;simp
 | (i,x)::ps,as,h=>by
   simp only[gK] at h
   split at h
   · rename_i off sz y Un h1 h2 h3
     injection h with h;subst h
     obtain⟨k1,k2⟩:=qh hr O h3
     refine⟨by simp[k1],fun j p q hp hq=> ?_⟩
     cases j with
     | zero=>simp at hp hq;subst hp;subst hq;exact⟨h1,aG hr h2 O⟩
     | succ j=>exact k2 j p q (by simpa using hp) (by simpa using hq)
   · simp at h
theorem r4 (ks:List Nat) (hr:Rel X T a μ) {t:TypeId} {z:List V} (hz:dq X t=some (.agg z)) {place:Nat→Option (Nat×Nat)} {parts:Array (Nat×Operand)} {as:List (Nat×Nat×aI)}
   (hp:gK X place parts.toList=some as) (ag: (au E (.build (u6 ks z) as)).run C ⟨T,μ.O⟩=some (v,σ')):
   σ'=⟨T,μ.O⟩∧ ∃zv cells,(zeroValue t).run X.P μ.w= .ok zv μ.w∧Instr.fill place zv.cells (parts.map fun (i,x)=> (i,a.eval x)).toList=some cells∧aj X μ v (.agg cells):=by
 simp only[au,qg] at ag
 obtain⟨zv,sW,tX⟩:=fe hz μ.w
 obtain⟨rX,_⟩:=dx (X:=X) (μ:=μ) tX
 simp only[aj] at rX
 obtain⟨h0,xs,rfl,zO⟩:=rX
 obtain⟨l1,l2⟩:=qh hr μ.O hp
 split at ag
 · rename_i cs jc
   obtain⟨rfl,rfl⟩:=aK ag
   have key:=wU (X:=X) (μ:=μ) (place:=place) (ps:=as.map fun p=> (p.1,p.2.1,aQ ⟨T,μ.O⟩ p.2.2)) (qs:=(parts.map fun (i,x)=> (i,a.eval x)).toList) (xs:=xs)
    (by simp[l1]) (fun j p q hp hq=>by
      simp only[List.getElem?_map,Option.map_eq_some_iff] at hp
      obtain⟨p',yk,rfl⟩:=hp
      rw[Array.toList_map,List.getElem?_map,Option.map_eq_some_iff] at hq
      obtain⟨q',Db,rfl⟩:=hq
      exact l2 j p' q' yk Db) (zO.u6 ks) (mY ks h0) jc
   obtain⟨EK,g1,g2,g3⟩:=key
   exact⟨rfl,_,EK,sW,g1,by simp only[aj];exact⟨g3,EK,rfl,g2⟩⟩
 · exact absurd ag aq
theorem Bf (ks:List Nat) {t:TypeId} {parts:Array (Nat×Operand)} {z:List V} {fs:Array Field} {as:List (Nat×Nat×aI)} (hr:Rel X T a μ) (ho:o.op= .build t parts) (hz:dq X t=some (.agg z))
  (hd:aR X t=some (.struct fs)) (nP:fs.toList.all (fun f=> (ba X f.type).isSome)=true)
  (hp:gK X (fun i=>match fs[i]? with| some f=> (ba X f.type).map fun s=> (f.offset,s) | none=>none) parts.toList=some as)
  (ag: (au E (.build (u6 ks z) as)).run C ⟨T,μ.O⟩=some (v,σ')):σ'.T=T∧b4 X o a μ σ'.O v:=by
 obtain⟨rfl,zv,cells,h1,h2,h3⟩:=r4 ks hr hz hp ag
 refine⟨rfl,aB hr.aN ?_ h3⟩
 simp only[execOp,ho]
 refine bM ?_
 have lZ:X.P.underlying t=some (.struct fs):=hd
 have hm:=rZ (P:=X.P) (w:=μ.w) (f:=fun f:Field=>do pure (f.offset,←sizeOf f.type)) (g:=fun f:Field=> (f.offset,(ba X f.type).getD 0)) fs (fun f hf=>by
  simp only[List.all_eq_true] at nP
  obtain⟨s,hs⟩:=Option.isSome_iff_exists.1 (nP f hf)
  simp[Sem.run_bind,cA hs,hs])
 have Uh: (fun (i:Nat)=> (fs.map fun (f:Field)=> (f.offset,(ba X f.type).getD 0))[i]?)=fun (i:Nat)=>match fs[i]? with| some f=> (ba X f.type).map fun s=> (f.offset,s) | none=>none:=by
  funext i
  rw[Array.getElem?_map]
  cases hf:fs[i]? with
  | none=>rfl
  | some f=>
    simp only[List.all_eq_true] at nP
    obtain⟨s,hs⟩:=Option.isSome_iff_exists.1 (nP f (by simpa using Array.mem_of_getElem? hf))
    simp[hs]
 simp only[Instr.build,Sem.run_bind,h1,Result.andThen_ok,run_underlying lZ,hm,Uh,h2,Sem.run_pure]
theorem Bg (ks:List Nat) {t e:TypeId} {n s:Nat} {parts:Array (Nat×Operand)} {z:List V} {as:List (Nat×Nat×aI)} (hr:Rel X T a μ) (ho:o.op= .build t parts) (hz:dq X t=some (.agg z))
  (hd:aR X t=some (.array n e)) (hs:ba X e=some s) (hp:gK X (fun i=>some (i*s,s)) parts.toList=some as)
  (ag: (au E (.build (u6 ks z) as)).run C ⟨T,μ.O⟩=some (v,σ')):σ'.T=T∧b4 X o a μ σ'.O v:=by
 obtain⟨rfl,zv,cells,h1,h2,h3⟩:=r4 ks hr hz hp ag
 refine⟨rfl,aB hr.aN ?_ h3⟩
 simp only[execOp,ho]
 refine bM ?_
 have lZ:X.P.underlying t=some (.array n e):=hd
 simp only[Instr.build,Sem.run_bind,h1,Result.andThen_ok,run_underlying lZ,cA hs,h2,Sem.run_pure]
theorem mw (hr:Rel X T a μ): ∀ {ps:List (Nat×Operand)} {as:List (Nat×aI)} {k:List (Nat×V)→Act} {O:Nat→Obj} {p:V×St},eY X ps=some as→Le μ ⟨μ.w,μ.φ,O⟩→aS X ⟨μ.w,μ.φ,O⟩→
   (dg as k).run C ⟨T,O⟩=some p→
   ∃vs O',(k vs).run C ⟨T,O'⟩=some p∧vs.length=ps.length∧Le ⟨μ.w,μ.φ,O⟩ ⟨μ.w,μ.φ,O'⟩∧aS X ⟨μ.w,μ.φ,O'⟩∧
     ∀ (i:Nat) q q',vs[i]? =some q→ps[i]? =some q'→q.1=q'.1∧aj X ⟨μ.w,μ.φ,O'⟩ q.2 (a.eval q'.2)
 | [],as,k,O,p,h,le,ho,ag=>by
   simp[eY] at h;subst h
   exact⟨[],O,ag,rfl,Le.refl _,ho,by simp⟩
 | (i,x)::ps,as,k,O,p,h,le,ho,ag=>by
   simp only[eY] at h
   split at h
   · rename_i y Un h1 h2
     injection h with h;subst h
     simp only[dg,aV] at ag
     have hx:aj X ⟨μ.w,μ.φ,O⟩ (aQ ⟨T,O⟩ y) (a.eval x):=by
      have:=aj.mono le (aG hr h1 O)
      exact this
     obtain⟨u,O1,k1,k2,k3,k4⟩:=jq (μ:=μ) ho hx ag
     obtain⟨vs,O2,g1,g2,g3,g4,g5⟩:=mw hr h2 (le.trans k3) k4 k1
     refine⟨(i,u)::vs,O2,g1,by simp[g2],k3.trans g3,g4,fun j q q' hq Db=> ?_⟩
     cases j with
     | zero=>simp at hq Db;subst hq;subst Db;exact⟨rfl,aj.mono g3 k2⟩
     | succ j=>exact g5 j q q' (by simpa using hq) (by simpa using Db)
   · simp at h
theorem pF {α:Type} (L:List α) (i:Nat) (x:α) (h:i<L.length):L.set i x=L.take i++[x]++L.drop (i+1):=by
 rw[mr L i x h];rfl
theorem mz {sz:Nat}: ∀ {vs:List (Nat×V)} {qs:List (Nat×Value)} {es es':List V} {us:List Value} {c:Array Value},vs.length=qs.length→
   (∀ (i:Nat) p q,vs[i]? =some p→qs[i]? =some q→p.1=q.1∧aj X μ p.2 q.2)→ah X μ es us→cQ c.toList 0 sz us→c.size=us.length*sz→es.all (aH · sz)=true→
   bL sz es vs=some es'→ ∃c' EL,Instr.fill (fun i=>some (i*sz,sz)) c qs=some c'∧ah X μ es' EL∧cQ c'.toList 0 sz EL∧c'.size=EL.length*sz∧
     es'.all (aH · sz)=true∧es'.length=es.length
 | [],[],es,es',us,c,_,_,hv,hs,hc,hb,h=>by
   simp[bL] at h;subst h
   exact⟨c,us,rfl,hv,hs,hc,hb,rfl⟩
 | [],_::_,_,_,_,_,h,_,_,_,_,_,_=>by simp at h
 | _::_,[],_,_,_,_,h,_,_,_,_,_,_=>by simp at h
 | (i,u)::vs,(i',q)::qs,es,es',us,c,hl,hp,hv,hs,hc,hb,h=>by
   simp only[bL] at h
   split at h
   · rename_i ua
     obtain⟨hi,jQ⟩:=ua
     obtain⟨e1,bz⟩:=hp 0 _ _ rfl rfl
     simp only at e1 bz
     subst e1
     obtain⟨jr,sV⟩:=bK jQ
     have Rd:q.cells.size=sz:=by rw[bz.dc jr,sV]
     have Zj:i<us.length:=by rw[←hv.length];exact hi
     have hmul: (i+1)*sz≤us.length*sz:=Nat.mul_le_mul_right _ (by omega)
     rw[Nat.add_mul] at hmul
     have fk:i*sz+q.cells.size≤c.size:=by omega
     have ub:=tZ (x:=q) (cs:=c) fk
     have Re:flat [q]=q.cells.toList:=by simp[flat]
     have hw:=hs.write (k:=i) (us:=[q]) (by omega) (by simpa using Rd) (by rw[bG];simp;omega)
     rw[Re,Nat.zero_add] at hw
     have CU:us.take i++[q]++us.drop (i+[q].length)=us.set i q:=(pF us i q Zj).symm
     rw[CU,←ub] at hw
     have b5: (q.cells.zipIdx.foldl (fun cs (p:Value×Nat)=>cs.setIfInBounds (i*sz+p.2) p.1) c).size=(us.set i q).length*sz:=by
      rw[←bG,ub,dF (by rw[bG,bG];exact fk),bG];simpa using hc
     have VO: (es.set i u).all (aH · sz)=true:=by
      simp only[List.all_eq_true] at hb ⊢
      intro y hy
      rcases List.mem_or_eq_of_mem_set hy with hm| rfl
      · exact hb y hm
      · exact jQ
     obtain⟨c',EL,g1,g2,g3,g4,g5,g6⟩:=mz (vs:=vs) (qs:=qs) (by simpa using hl) (fun j p q' hj Ho=>hp (j+1) p q' (by simpa using hj) (by simpa using Ho)) (ah.set hv i bz) hw b5 VO h
     refine⟨c',EL,?_,g2,g3,g4,g5,by simpa using g6⟩
     have y0: ¬ (q.cells.size≠sz∨c.size<i*sz+q.cells.size):=by omega
     simp only[Instr.fill]
     rw[if_neg (by simpa using y0)]
     exact g1
   · simp at h
theorem iq {t e:TypeId} {n sz r:Nat} {parts:Array (Nat×Operand)} {z:V} (hr:Rel X T a μ) (ho:o.op= .buildSlice t n parts) (hd:aR X t=some (.slice e))
   (hn:ba X e=some sz) (hz:dq X e=some z) (MC: ∃vs O',(match bL sz (List.replicate n z) vs with
     | some es=>if aH z sz &&decide (0 <sz∧n*sz≤16777216) then AM.Act.bB r fun o=>AM.Act.bg r {gen:=o.gen+1,sz,arr:=true,fz:=false,es:=some es} (.done (.sl r (o.gen+1) 0 n)) else AM.Act.fail
     | none=>AM.Act.fail).run C ⟨T,O'⟩=some (v,σ')∧vs.length=parts.toList.length∧Le μ ⟨μ.w,μ.φ,O'⟩∧aS X ⟨μ.w,μ.φ,O'⟩∧
     ∀ (i:Nat) q q',vs[i]? =some q→parts.toList[i]? =some q'→q.1=q'.1∧aj X ⟨μ.w,μ.φ,O'⟩ q.2 (a.eval q'.2)):σ'.T=T∧b4 X o a μ σ'.O v:=by
 obtain⟨vs,O1,k1,k2,k3,k4,k5⟩:=MC
 split at k1
 · rename_i es bp
   split at k1
   · rename_i hc
     simp only[Bool.and_eq_true,decide_eq_true_eq] at hc
     obtain⟨Dc,b5,wV⟩:=hc
     simp only[Act.run,Option.some.injEq,Prod.mk.injEq] at k1
     obtain⟨rfl,rfl⟩:=k1
     refine⟨rfl,?_⟩
     obtain⟨zv,sW,tX⟩:=fe hz μ.w
     obtain⟨rX,Hn⟩:=dx (X:=X) (μ:=⟨μ.w,μ.φ,O1⟩) tX
     have Ga:zv.cells.size=sz:=by rw[rX.dc Hn,(bK Dc).2]
     obtain⟨q1,q2⟩:=qf (n:=n) Ga
     have Zk: (List.replicate n z).all (aH · sz)=true:=by
       simp only[List.all_eq_true,List.mem_replicate]
       rintro y ⟨_,rfl⟩;exact Dc
     obtain⟨c',EL,g1,g2,g3,g4,g5,g6⟩:=mz (X:=X) (μ:=⟨μ.w,μ.φ,O1⟩) (sz:=sz) (vs:=vs) (qs:=(parts.map fun (i,x)=> (i,a.eval x)).toList) (by simp[k2]) (fun j p q hj hq=>by
       rw[Array.toList_map,List.getElem?_map,Option.map_eq_some_iff] at hq
       obtain⟨q',Db,rfl⟩:=hq
       exact k5 j p q' hj Db) (ah.replicate rX n) q2 (by rw[q1];simp) Zk bp
     have hlen:es.length=n:=by simpa using g6
     have qi:EL.length=n:=by rw[←g2.length];exact hlen
     obtain⟨Ln,MD⟩:=vj (X:=X) (μ:=⟨μ.w,μ.φ,O1⟩) k4 r sz n true (es:=es) (vs:=EL) (c:=c') e b5 (by omega) g5 g2 (by rw[g4,qi];exact Nat.le_refl _) (fun i u hu=>by
       obtain⟨m1,m2⟩:=g3 i u hu
       exact⟨m1,fun j x hx=>by simpa using m2 j x hx⟩)
     refine⟨.slice (some ⟨μ.w.heap.size,0,none⟩) n n,_,_,.inl ?_,?_,k3.trans Ln,MD⟩
     · simp only[execOp,ho]
       refine bM ?_
       have lZ:X.P.underlying t=some (.slice e):=hd
       have Rf: ¬n*sz >2 ^ 24:=by
         have: (2:Nat) ^ 24=16777216:=by decide
         omega
       simp only[Instr.buildSlice,Sem.run_bind,run_underlying lZ,Result.andThen_ok,cA hn]
       rw[if_neg Rf]
       have iu: ∀zero:Array Value,(n*sz=0∨zero=zv.cells)→(Array.range (n*sz)).map (fun i=>zero[i % zero.size]!)=(Array.range (n*sz)).map (fun i=>zv.cells[i % zv.cells.size]!):=by
         rintro zero (h0| rfl)
         · have MB:Array.range 0= #[]:=rfl
           rw[h0,MB];simp
         · rfl
       by_cases Bd:n*sz=0
       · rw[if_pos Bd]
         simp only[Sem.run_bind,Sem.run_pure,Result.andThen_ok]
         rw[iu #[] (.inl Bd),g1]
         simp only[newRow,Sem.run_bind,run_newObj,Result.andThen_ok,Sem.run_pure]
         rfl
       · rw[if_neg Bd]
         simp only[Sem.run_bind,sW,Result.andThen_ok,Sem.run_pure]
         rw[iu zv.cells (.inr rfl),g1]
         simp only[newRow,Sem.run_bind,run_newObj,Result.andThen_ok,Sem.run_pure]
         rfl
     · simp only[aj,av]
       exact⟨_,_,rfl,Nat.le_refl _,Nat.le_refl _,fun _=> ⟨b5,by simp,by simp⟩⟩
   · exact absurd k1 aq
 · exact absurd k1 aq
theorem mA {t e:TypeId} {n sz r:Nat} {parts:Array (Nat×Operand)} {z:V} {as:List (Nat×aI)} (hr:Rel X T a μ) (ho:o.op= .buildSlice t n parts) (hd:aR X t=some (.slice e))
  (hn:ba X e=some sz) (hz:dq X e=some z) (hp:eY X parts.toList=some as) (ag: (au E (.buildSlice r sz z n as)).run C ⟨T,μ.O⟩=some (v,σ')):σ'.T=T∧b4 X o a μ σ'.O v:=by
 simp only[au] at ag
 exact iq hr ho hd hn hz (mw hr hp (Le.refl μ) hr.aN ag)
theorem kR (hr:Rel X T a μ): ∀ {ps:List (Nat×Operand)} {as:List (Nat×aI)} {k:List (Nat×V)→Act} {p:V×St},eY X ps=some as→
   (gg as k).run C ⟨T,μ.O⟩=some p→
   ∃vs,(k vs).run C ⟨T,μ.O⟩=some p∧vs.length=ps.length∧
     ∀ (i:Nat) q q',vs[i]? =some q→ps[i]? =some q'→q.1=q'.1∧aj X μ q.2 (a.eval q'.2)
 | [],as,k,p,h,ag=>by
   simp[eY] at h;subst h
   exact⟨[],ag,rfl,by simp⟩
 | (i,x)::ps,as,k,p,h,ag=>by
   simp only[eY] at h
   split at h
   · rename_i y Un h1 h2
     injection h with h;subst h
     simp only[gg,aV] at ag
     have hx:=aG hr h1 μ.O
     obtain⟨vs,g1,g2,g5⟩:=kR hr h2 ag
     refine⟨(i,_)::vs,g1,by simp[g2],fun j q q' hq Db=> ?_⟩
     cases j with
     | zero=>simp at hq Db;subst hq;subst Db;exact⟨rfl,hx⟩
     | succ j=>exact g5 j q q' (by simpa using hq) (by simpa using Db)
   · simp at h
theorem r5 {t e:TypeId} {n sz r:Nat} {parts:Array (Nat×Operand)} {z:V} {as:List (Nat×aI)} (hr:Rel X T a μ) (ho:o.op= .buildSlice t n parts) (hd:aR X t=some (.slice e))
  (hn:ba X e=some sz) (hz:dq X e=some z) (hp:eY X parts.toList=some as) (ag: (au E (.gi r sz z n as)).run C ⟨T,μ.O⟩=some (v,σ')):σ'.T=T∧b4 X o a μ σ'.O v:=by
 simp only[au] at ag
 obtain⟨vs,g1,g2,g3⟩:=kR hr hp ag
 exact iq hr ho hd hn hz ⟨vs,μ.O,g1,g2,Le.refl μ,hr.aN,g3⟩
theorem r6 {t e:TypeId} {n sz r ix:Nat} {parts:Array (Nat×Operand)} {z:V} {as:List (Nat×aI)} (hr:Rel X T a μ) (ho:o.op= .buildSlice t n parts) (hd:aR X t=some (.slice e))
  (hn:ba X e=some sz) (hz:dq X e=some z) (hp:eY X parts.toList=some as) (ag: (au E (.gh ix r sz z n as)).run C ⟨T,μ.O⟩=some (v,σ')):σ'.T=T∧b4 X o a μ σ'.O v:=by
 have h: (match aQ ⟨T,μ.O⟩ (.tmp ix) with| .int _ j=>G6 (r+16*j.toNat) sz z n as| _=> .fail).run C ⟨T,μ.O⟩=some (v,σ'):=ag
 split at h
 · exact mA (E:=E) (r:=_) hr ho hd hn hz hp h
 · exact absurd h aq
theorem Bh {x:Operand} {t0 t:TypeId} {ok:Bool} {x':aI} {n:Nat} {z:V} (hr:Rel X T a μ) (ho:o.op= .typeAssert x t0 t ok) (kl: ∀t1 t2 k,X.gq t1=some k→X.gq t2=some k→t1=t2)
   (hn:X.gq t=some n) (h1:cm X x=some x') (hz:dq X t=some z) (hd: ∃d,aR X t=some d∧ ∀ms,d≠ .interface ms)
   (ag: (au E (.assert n ok z x')).run C ⟨T,μ.O⟩=some (v,σ')):σ'.T=T∧b4 X o a μ σ'.O v:=by
 simp only[au,aV] at ag
 have hx:=aG hr h1 μ.O
 obtain⟨d,yK,s7⟩:=hd
 have Lo:X.P.underlying t=some d:=yK
 obtain⟨zv,sW,tX⟩:=fe hz μ.w
 obtain⟨rX,_⟩:=dx (X:=X) (μ:=μ) tX
 have fin: ∀val,(Instr.typeAssert (a.eval x) t0 t ok).run X.P μ.w= .ok val μ.w→(execOp a.eval o).run X.P μ.w= .ok (.value val) μ.w:=fun val hv=>by
   simp only[execOp,ho]
   exact bM hv
 split at ag
 · rename_i e
   rw[e] at hx;simp only[aj] at hx
   split at ag
   · rename_i KV
     obtain⟨rfl,rfl⟩:=aK ag
     refine⟨rfl,aB (val:= .tuple #[zv,.bool false]) hr.aN (fin _ ?_) ?_⟩
     · simp only[Instr.typeAssert,Sem.run_bind,run_underlying Lo,Result.andThen_ok,hx]
       cases d<;>first| exact absurd rfl (s7 _) | simp[KV,Sem.run_bind,sW]
     · simp only[aj];exact⟨_,rfl,by simp[ah,aj,rX]⟩
   · exact absurd ag aq
 · rename_i t' u e
   rw[e] at hx;simp only[aj] at hx
   obtain⟨t1,y,hy,FT,bz⟩:=hx
   split at ag
   · rename_i VP
     obtain⟨rfl,rfl⟩:=aK ag
     have VQ:t1=t:=kl t1 t n (by rw[FT,VP]) hn
     refine⟨rfl,aB (val:=if ok then .tuple #[y,.bool true] else y) hr.aN (fin _ ?_) ?_⟩
     · simp only[Instr.typeAssert,Sem.run_bind,run_underlying Lo,Result.andThen_ok,hy]
       cases d<;>first| exact absurd rfl (s7 _) | simp[VQ]
     · cases ok
       · simpa using bz
       · simp only[if_true,aj];exact⟨_,rfl,by simp[ah,aj,bz]⟩
   · rename_i VP
     split at ag
     · rename_i KV
       obtain⟨rfl,rfl⟩:=aK ag
       have VQ:t1≠t:=fun e=>VP (by rw[e,hn] at FT;injection FT with FT;exact FT.symm)
       refine⟨rfl,aB (val:= .tuple #[zv,.bool false]) hr.aN (fin _ ?_) ?_⟩
       · simp only[Instr.typeAssert,Sem.run_bind,run_underlying Lo,Result.andThen_ok,hy]
         cases d<;>first| exact absurd rfl (s7 _) | simp[VQ,KV,Sem.run_bind,sW]
       · simp only[aj];exact⟨_,rfl,by simp[ah,aj,rX]⟩
     · exact absurd ag aq
 · exact absurd ag aq
end
end Go.AM
