/- Texts of the proof. -/
import Derived.Test.YtgjbecccmiehkaaGreatDefs
import Derived.Calls
import Derived.Orders
import Derived.Below
import Derived.Laws.Cells
import Derived.Laws.Rows
import Derived.Laws.Tables
import Derived.Laws.CopyRow
import Derived.ChangeKeysEq
import Derived.Laws.StructEq
import Derived.IntWalk
set_option linter.unusedSimpArgs false
set_option linter.unusedVariables false
namespace Go.AM
structure Hints where
 gU:List (Option Nat):=[]
 aY:List Nat:=[]
 name:List (Nat×Nat):=[]
 lits:List (Nat×List Nat):=[]
 vz:List (Nat×Nat×Nat):=[]
 nP:List (Nat×Nat×Nat):=[]
 dyn:List (Nat×Nat):=[]
 bR:List Nat:=[]
 deep:List Nat:=[]
 Ln:List Nat:=[]
 tag:Option (Nat×Nat):=none
 keys:List (Nat×List Nat×List Nat):=[]
 n:Nat:=0
structure TrEnv where
 P:Program
 eT:FuncId→Option Nat
 rK:TypeId→Option Nat
variable (X:TrEnv)
def nF:Value→Option V
 | .bool b=>some (.bool b)
 | .int k n=>some (.int k n)
 | .float .f64 b=>some (.float b)
 | .string s=>some (.str s.data.toList)
 | .pointer none=>some .nilp
 | .slice none 0 0=>some .nils
 | .map none=>some (.mlit [])
 | .nilFunc=>some .nilfn
 | .nilIface=>some .nili
 | _=>none
def jt:List Value→Option (List V)
 | []=>some []
 | v::vs=>match nF v,jt vs with
   | some c,some cs=>some (c::cs)
   | _,_=>none
def uF:Value→Option V
 | .agg cs=> (jt cs.toList).map .agg
 | v=>nF v
def info (t:TypeId):Option TypeInfo:=X.P.info? t
def bj (t:TypeId):Option Nat:=(info X t).map (·.size)
def bd (t:TypeId):Option TypeDesc:=X.P.underlying t
def eu (t:TypeId):Option Bool:=(bd X t).map fun| .struct _=>true| .array .. =>true| _=>false
def dU (t:TypeId):Option V:=(info X t).bind fun i=>i.zero.bind uF
def ct:Operand→Option aD
 | .tmp t=>some (.tmp t)
 | .const v=> (uF v).map .const
 | .func f=> (X.eT f).map fun n=> .const (.fn n [])
 | .global _=>none
def kK:List Operand→Option (List aD)
 | []=>some []
 | o::os=>match ct X o,kK os with
   | some a,some au=>some (a::au)
   | _,_=>none
def vE:Option Operand→Option (Option aD)
 | none=>some none
 | some o=> (ct X o).map some
mutual
def ew:Nat→TypeId→Option (List Nat)
 | 0,_=>none
 | d+1,t=>match bd X t with
   | some .bool=>if bj X t=some 1 then some [0] else none
   | some (.int _)=>if bj X t=some 1 then some [1] else none
   | some .string=>if bj X t=some 1 then some [2] else none
   | some (.struct fs)=>if X.P.stoodInHeld t=false then(match lH d fs.toList 0 with
      | some ks=>if bj X t=some ks.length then some ks else none
      | none=>none) else none
   | some (.array n e)=>if eu X e=some false∧bj X t=some n then(match ew d e with
      | some [k]=>some (List.replicate n k)
      | _=>none) else none
   | _=>none
def lH:Nat→List Field→Nat→Option (List Nat)
 | 0,_,_=>none
 | _+1,[],_=>some []
 | d+1,f::fs,off=>if f.name≠ "_" ∧f.offset=off then match ew d f.type with
    | some ks=>match lH d fs (off+ks.length) with
      | some qU=>some (ks++qU)
      | none=>none
    | none=>none
   else none
end
def iT (place:Nat→Option (Nat×Nat)):List (Nat×Operand)→Option (List (Nat×Nat×aD))
 | []=>some []
 | (i,o)::ps=>match place i,ct X o,iT place ps with
   | some (off,sz),some a,some au=>some ((off,sz,a)::au)
   | _,_,_=>none
def nG:List (Nat×Operand)→Option (List (Nat×aD))
 | []=>some []
 | (i,o)::ps=>match ct X o,nG ps with
   | some a,some au=>some ((i,a)::au)
   | _,_=>none
def jW (t:Nat):Nat:=16*(t+1)
def nameOf (h:Hints) (dst:Nat):Nat:=((h.name.find? (·.1==dst)).map (·.2)).getD (jW dst)
def KG (ks:List Nat):aD→aD
 | .const v=> .const (A0 ks v)
 | x=>x
def PB (h:Hints) (dst:Nat):Option Nat:=(h.dyn.find? (·.1==dst)).map (·.2)
def pf (h:Hints) (dst:Nat):List Nat:=((h.lits.find? (·.1==dst)).map (·.2)).getD []
def PC (h:Hints) (dst:Nat):Option (Nat×Nat):=(h.vz.find? (·.1==dst)).map (·.2)
def isNil:Operand→Bool
 | .const (.slice none 0 0)=>true
 | _=>false
def PD (h:Hints) (dst:Nat) (x:Operand):Option Nat:=match x with
 | .tmp t=> (h.nP.find? (fun p=>p.1==dst &&p.2.1==t)).map (·.2.2)
 | _=>none
def uG (h:Hints) (dst:Nat) (x:Operand):Option qS:=
 match isNil x,PC h dst with
 | true,some (r,sz)=>some (.pR r sz)
 | _,_=>match PD h dst x with
   | some r=> (ct X x).map fun y=> .QI r y
   | none=> (ct X x).map fun y=> .move (KG (pf h dst) y)
def qu (bytes:Nat):Nat:=(140737488355328 - 200*(bytes+1)) / (bytes+1)
def JF (h:Hints) (dst r sz lim:Nat) (s x:aD):qS:=
 match PB h dst with
 | some ix=> .pV ix (16000000+jW dst) sz lim s x
 | none=> .append r sz lim s x
def uH (h:Hints) (dst:Nat) (c:Call):Option qS:=
 match c.callee with
 | .value f=>match ct X f,kK X c.args.toList with
   | some f,some au=>some (.call (jW dst+(if h.bR.contains dst then 1 else 0)+(if h.deep.contains dst then 4 else 0)) (h.aY.contains dst) f au)
   | _,_=>none
 | .invoke .. =>none
 | .builtin b=>match b,c.args.toList,c.argTypes.toList with
   | .len,[x],[t]=>match ct X x,bd X t with
     | some x,some (.slice _)=>some (.len x)
     | some x,some .string=>some (.ud x)
     | some _,some (.array n _)=>some (.move (.const (.int .i64 n)))
     | _,_=>none
   | .min,xs,_=> (kK X xs).map .min
   | .max,xs,_=> (kK X xs).map .max
   | .append,[s,x],[t,t']=>match ct X s,ct X x,bd X t,bd X t' with
     | some s,some x,some (.slice e),some d=>match bj X e,info X e,dU X e,d with
       | some sz,some i,some z,.slice _| some sz,some i,some z,.string=>if aJ z sz then some (JF h dst (nameOf h dst) sz (qu i.bytes) s x) else none
       | _,_,_,_=>none
     | _,_,_,_=>none
   | .clear,[x],[t]=>match ct X x,bd X t with
     | some x,some (.slice e)=>match bj X e,dU X e with
       | some sz,some z=>some (.clear sz z x)
       | _,_=>none
     | _,_=>none
   | _,_,_=>none
def Hi:BinOp→Bool
 | .eql=>true
 | .neq=>true
 | _=>false
def sD:BinOp→Bool
 | .neq=>true
 | _=>false
def DH (op:BinOp) (t:TypeId) (x y:aD):Option qS:=
 if Hi op then match bd X t with
  | some (.int _) | some .string=>some (.bin op x y)
  | some (.pointer e)=> (match bj X e with
    | some (_+1)=>some (.Lf (sD op) x y)
    | _=>none)
  | some (.struct _)=>if X.P.eqGuardType X.P.depth t=false then(ew X 100 t).map fun ks=> .Nj (sD op) ks x y else none
  | some (.array _ _)=>if X.P.eqGuardType X.P.depth t=false then(ew X 100 t).map fun ks=> .Nj (sD op) ks x y else none
  | _=>none
 else some (.bin op x y)
def qv (kt:TypeId):Option (Option IntKind):=match bd X kt with
 | some (.int k)=>some (some k)
 | some .string=>some none
 | _=>none
def cP (kt:TypeId):Option (List Nat):=match bd X kt with
 | some (.struct _)=>ew X 100 kt
 | _=>none
def isZero:V→Bool
 | .int .i64 n=>n==0
 | _=>false
def KH (h:Hints):Operand→Bool
 | .tmp t=>h.bR.contains t
 | _=>false
def vF (h:Hints) (dst:Nat):Op→Option qS
 | .move x| .assign x=>if h.deep.contains dst then(ct X x).map .deep else if h.Ln.contains dst then(ct X x).map .FW else uG X h dst x
 | .pick c a b=>match ct X c,ct X a,ct X b with
   | some c,some a,some b=>some (.pick c a b)
   | _,_,_=>none
 | .alloc t=>match bj X t,dU X t with
   | some sz,some z=>some (.new (jW dst) sz (.const (A0 (pf h dst) z)))
   | _,_=>none
 | .box t x=>match bj X t,ct X x with
   | some sz,some x=>some (.new (jW dst) sz (KG (pf h dst) x))
   | _,_=>none
 | .build t ps=>match dU X t,bd X t with
   | some (.agg z),some (.struct fs)=>if !fs.toList.all (fun f=> (bj X f.type).isSome) then none else(iT X (fun i=>match fs[i]? with| some f=> (bj X f.type).map fun s=> (f.offset,s) | none=>none) ps.toList).map (.build (xz (pf h dst) z))
   | some (.agg z),some (.array _ e)=>match bj X e with
     | some s=> (iT X (fun i=>some (i*s,s)) ps.toList).map (.build (xz (pf h dst) z))
     | none=>none
   | _,_=>none
 | .buildSlice t n ps=>match bd X t with
   | some (.slice e)=>match bj X e,dU X e,nG X ps.toList with
     | some sz,some z,some au=>some (.buildSlice (jW dst) sz z n au)
     | _,_,_=>none
   | _=>none
 | .load t x=>match eu X t,bj X t,ct X x with
   | some a,some sz,some x=>some (if (pf h dst).isEmpty then .load a sz x else .vV (pf h dst) a sz x)
   | _,_,_=>none
 | .store t x v=>match eu X t,bj X t,ct X x,ct X v with
   | some a,some sz,some x',some v=>some (if KH h x then .uf a sz x' v else .store a sz x' v)
   | _,_,_,_=>none
 | .nilCheck x=> (ct X x).map .nilCheck
 | .binOp op t x y _=>match ct X x,ct X y with
   | some x,some y=>DH X op t x y
   | _,_=>none
 | .unOp op _ x=> (ct X x).map (.un op)
 | .convert s d x=>match bd X s,bd X d,ct X x with
   | some (.int _),some (.int k),some x=>some (.pS k x)
   | some (.int _),some (.float .f64),some x=>some (.tZ x)
   | some (.float .f64),some (.int k),some x=>some (.ua k x)
   | _,_,_=>none
 | .makeInterface _ _=>some .bad
 | .makeFunc (.func f) first caps=>if first.isEmpty then match X.eT f,kK X caps.toList with
     | some n,some cs=>some (if h.deep.contains dst then .pX n ((caps.toList.map (KH h)).zip cs) else .ub n cs)
     | _,_=>none
   else if caps.isEmpty then match X.eT f,(if h.bR.contains dst then some (first.toList.map fun _=> .const .any) else kK X first.toList) with
     | some n,some cs=>some (.pW n cs)
     | _,_=>none
   else none
 | .slice t x lo hi mx=>match bd X t,ct X x,vE X lo,vE X hi,vE X mx with
   | some (.slice e),some x,some lo,some hi,some mx=> (bj X e).map fun sz=> .slice sz x lo hi mx
   | _,_,_,_,_=>none
 | .fieldAddr s x i=>match bd X s,ct X x with
   | some (.struct fs),some x=>match fs[i]? with
     | some f=>match bj X f.type with
       | some (_+1)=>some (.fieldAddr f.offset x)
       | _=>none
     | none=>none
   | _,_=>none
 | .indexAddr t x i=>match bd X t,ct X x,ct X i with
   | some (.slice e),some x,some i=> (bj X e).map fun sz=> .indexAddr sz x i
   | some (.array n e),some x,some i=> (bj X e).map fun sz=> .mr n sz x i
   | _,_,_=>none
 | .index t x i=>match bd X t,ct X x,ct X i with
   | some .string,some x,some i=>some (.mu x i)
   | _,_,_=>none
 | .extract x i=> (ct X x).map fun x=> .extract x i
 | .makeMap _ none=>some (.mkMap (jW dst))
 | .range t x=>match bd X t,ct X x with
   | some (.map _ _),some x=>some (.mapIter (jW dst) x)
   | _,_=>none
 | .lookup t x i ok=>match bd X t,ct X x,ct X i with
   | some (.map kt et),some x,some i=>match qv X kt,dU X et with
     | some q,some z=>some (.ue q ok z x i)
     | none,some z=> (cP X kt).map fun ks=>if h.bR.contains dst && !ok &&isZero z then .iK ks x i else .ns ks ok z x i
     | _,_=>none
   | _,_,_=>none
 | .mapUpdate t m k v=>match bd X t,ct X m,ct X k,ct X v with
   | some (.map kt _),some m,some k,some v=>match qv X kt with
     | some q=>some (.rf q m k v)
     | none=> (cP X kt).map fun ks=> .nr ks m k v
   | _,_,_,_=>none
 | .mapEntry t m k=>match bd X t,ct X m,ct X k with
   | some (.map kt et),some m,some k=>match cP X kt,dU X et with
     | some ks,some z=>if h.bR.contains dst &&isZero z then some (.iL ks m k) else none
     | _,_=>none
   | _,_,_=>none
 | .entryStore _ m s v=>match ct X m,ct X s,ct X v with
   | some m,some s,some v=>some (.pU m s v)
   | _,_,_=>none
 | .insert t m k v=>match bd X t,ct X m,ct X k,ct X v with
   | some (.map kt _),some m,some k,some v=>match qv X kt with
     | some q=>some (.rf q m k v)
     | none=> (cP X kt).map fun ks=> .nr ks m k v
   | _,_,_,_=>none
 | .call c=>uH X h dst c
 | _=>none
def mL (h:Hints) (ops:Array Oper) (o:Oper):Option bC:=
 let g:Option (Option (Nat×Bool)):=match o.guard with
  | none=>some none
  | some (j,want)=>match (ops[j]?).bind (·.dst) with
    | some d=>some (some (d,want))
    | none=>none
 match g,o.dst.all (· <h.n) with
 | some g,true=>some {dst:=o.dst,op:=(vF X h (o.dst.getD 0) o.op).getD .bad,guard:=g,pre:=(o.after.toList.filter (Region.binds .any)).map (·.on)}
 | _,_=>none
def fi (h:Hints) (ops:Array Oper):List Oper→Option (List bC)
 | []=>some []
 | o::os=>match mL X h ops o,fi h ops os with
   | some a,some au=>some (a::au)
   | _,_=>none
def yd (h:Hints) (a:Code):Option (Nat×Nat×Nat×Nat×List Nat×List Nat):=
 match a with
 | .seq (.region ..) (.block id (.loop (.seq (.region _ ops false) (.seq (.cond ..) (.block _ (.seq (.region _ fM false) _))))))=>match ops[0]?,fM[0]? with
   | some o,some o5=>match o.op,o.dst,o.guard,o5.op,o5.dst,o5.guard with
     | .next (.tmp it) false,some nx,none,.entry (.tmp Xk),some ne,none=> (match h.keys.find? (·.1==nx) with
       | some k=>if nx<h.n∧ne<h.n∧Xk=it then some (it,nx,ne,id,k.2.1,k.2.2) else none
       | none=>none)
     | _,_,_,_,_,_=>none
   | _,_=>none
 | _=>none
def z7:Code→Bool
 | .seq (.region ..) _=>true
 | _=>false
def z8 (h:Hints) (a b:Code) (ta tb:aM):aM:=
 match yd h a,z7 b,ta,tb with
 | some (it,nx,ne,id,kT,kO),true,.seq tR (.block _ (.loop (.seq (.region au) (.seq tc (.block b1 (.seq (.region bs) tz)))))),.seq tS uI=> .seq tR (.seq (.keys it nx ne id kT kO (.seq (.region (au.drop 1)) tc) (.block b1 (.seq (.region (bs.drop 1)) tz)) tS) uI)
 | _,_,_,_=> .seq ta tb
def b8 (h:Hints):Code→Option aM
 | .skip=>some .skip
 | .region _ ops false=> (fi X h ops ops.toList).map fun l=> .region (l.map fun o=> {o with pre:=[]})
 | .region _ ops true=> (fi X h ops ops.toList).map .drawn
 | .seq a b=>match b8 h a,b8 h b with
   | some ta,some tb=>some (z8 h a b ta tb)
   | _,_=>none
 | .cond c a b=>match ct X c,b8 h a,b8 h b with
   | some c,some a,some b=>some (.cond c a b)
   | _,_,_=>none
 | .block id b=> (b8 h b).map (.block id)
 | .loop b=> (b8 h b).map .loop
 | .exit id=>some (.exit id)
 | .ret=>some .ret
 | .scope b=> (b8 h b).map .scope
 | .rangeFunc f ps a b=>match ct X f,b8 h a,b8 h b with
   | some f,some a,some b=>if ps.toList.all (fun p=>Nat.blt p h.n)=true then some (.mh f ps.toList a b) else none
   | _,_,_=>none
 | .label _=>some .skip
 | _=>some .bad
def qw:ResultVar→Option pI
 | .tmp t=>some (.tmp t)
 | .cell a t=>match eu X t,bj X t with
   | some g,some sz=>some (.cell a g sz)
   | _,_=>none
def iX:List ResultVar→Option (List pI)
 | []=>some []
 | r::rs=>match qw X r,iX rs with
   | some a,some au=>some (a::au)
   | _,_=>none
def xA (h:Hints) (f:Func):Option bF:=
 match f.body with
 | none=>none
 | some b=>match b8 X {h with n:=f.ntmps} b,iX X f.results.toList with
   | some c,some rs=>some {nparams:=f.params.size+f.nfree,ntmps:=f.ntmps,gU:=h.gU,results:=rs,body:=c,tag:=h.tag}
   | _,_=>none
end Go.AM
namespace Go.AM
open Go Go.RowKit
structure Ctx extends TrEnv where
 KI:Nat→Prop
 tok:Nat×Nat
instance:CoeOut Ctx TrEnv:=⟨Ctx.toTrEnv⟩
structure Row where
 bB:Nat
 base:Nat
 cap:Nat
structure Mu where
 w:World
 φ:Nat→Row
 O:Nat→Obj
def Mu.own (μ:Mu) (b:Nat):Prop:= ∃r,(μ.O r).es.isSome=true∧(μ.O r).fz=false∧(μ.φ r).cap≠0∧(μ.φ r).bB=b
def Own (X:Ctx) (μ:Mu) (b:Nat):Prop:=μ.own b∨X.KI b
def cM (w:World) (b off sz:Nat) (vs:List Value):Prop:=
 ∀i v,vs[i]? =some v→v.cells.size=sz∧ ∀j c,v.cells[j]? =some c→w.cell? ⟨b,off+i*sz+j,none⟩=some c
def im (ents:Array MapEntry) (clock:Nat):Prop:=clock=ents.size∧ents.toList.map (·.born)=List.range ents.size
theorem im.nodup {ents:Array MapEntry} {clock:Nat} (h:im ents clock): (ents.toList.map (·.born)).Nodup:=by rw[h.2];exact List.nodup_range
theorem im.lt {ents:Array MapEntry} {clock:Nat} (h:im ents clock): ∀e ∈ ents.toList,e.born<clock:=fun e he=>by
 have:e.born ∈ ents.toList.map (·.born):=ZJ.2 ⟨e,he,rfl⟩
 rw[h.2,List.mem_range] at this
 rw[h.1];exact this
theorem im.at {ents:Array MapEntry} {clock:Nat} (h:im ents clock) {j:Nat} {e:MapEntry} (he:ents[j]? =some e):e.born=j:=by
 have h2:=congrArg (fun l=>l[j]?) h.2
 have hj:=(Zu.1 he).1
 simp only[ZI,aaP,he,ZE] at h2
 rw[aa3 hj] at h2
 exact Option.some.inj h2
section
variable (X:Ctx) (μ:Mu)
mutual
def aj:V→Value→Prop
 | .bool b,v=>v= .bool b
 | .int k n,v=>v= .int k n
 | .float b,v=>v= .float .f64 b
 | .str s,v=> ∃bs:ByteArray,v= .string bs∧bs.data.toList=s
 | .agg cs,v=>cs.all V.aF=true∧ ∃vs,v= .agg vs∧ah cs vs.toList
 | .tuple cs,v=> ∃vs,v= .tuple vs∧ah cs vs.toList
 | .nilp,v=>v= .pointer none
 | .nilfn,v=>v= .nilFunc
 | .nili,v=>v= .nilIface
 | .fn f caps,v=> ∃F cv,v= .func (.func F) #[] cv∧X.eT F=some f∧ah caps cv.toList
 | .bfn f caps,v=> ∃F cv,v= .func (.func F) cv #[]∧X.eT F=some f∧ah caps cv.toList
 | .iface t x,v=> ∃T y,v= .iface T y∧X.rK T=some t∧aj x y
 | .nils,v=> ∃a,v= .slice a 0 0
 | .lit sz xs,v=>V.al xs=true∧xs.all V.cq=true∧ ∃a cap vs,v= .slice a xs.length cap∧xs.length≤cap∧ah xs vs∧
    (xs=[]∨ ∃b o,a=some ⟨b,o,none⟩∧ ¬Own X μ b∧b<μ.w.heap.size∧cM μ.w b o sz vs)
 | .own ..,_=>False
 | .sl r g off len,v=> ∃a cap,v= .slice a len cap∧len≤cap∧g≤(μ.O r).gen∧
    ((μ.O r).gen=g→0 < (μ.O r).sz∧cap+off=(μ.φ r).cap∧(cap=0∨a=some ⟨(μ.φ r).bB,(μ.φ r).base+off*(μ.O r).sz,none⟩))
 | .ptr r g idx off,v=> ∃a,v= .pointer (some a)∧g≤(μ.O r).gen∧
    ((μ.O r).gen=g→0 < (μ.O r).sz∧a=⟨(μ.φ r).bB,(μ.φ r).base+idx*(μ.O r).sz+off,none⟩)
 | .eptr e off,v=>V.aq e=true∧V.cq e=true∧ ∃b o sz x,v= .pointer (some ⟨b,o+off,none⟩)∧ ¬Own X μ b∧b<μ.w.heap.size∧aj e x∧cM μ.w b o sz [x]
 | .mp r g,v=> ∃a,v= .map (some a)∧g≤(μ.O r).gen∧((μ.O r).gen=g→(μ.O r).sz=0∧a=(μ.φ r).bB)
 | .mlit es,v=>V.al es=true∧(es=[]∧v= .map none∨ ∃a ents clock,v= .map (some a)∧ ¬Own X μ a∧a<μ.w.heap.size∧(μ.w.heap[a]? =some (.map ents clock)∧im ents clock)∧
    ah es (ents.toList.map fun e=> .tuple #[e.key,e.val]))
 | .it r g,v=> ∃a,v= .pointer (some ⟨a,0,none⟩)∧g≤(μ.O r).gen∧((μ.O r).gen=g→(μ.O r).sz=0∧a=(μ.φ r).bB)
 | .litk sz xs,v=>V.al xs=true∧xs.all V.cq=true∧ ∃a cap vs,v= .slice a xs.length cap∧xs.length≤cap∧ah xs vs∧
    (xs=[]∨a=some ⟨X.tok.1,X.tok.2,none⟩∧ ¬Own X μ X.tok.1∧X.tok.1 <μ.w.heap.size∧cM μ.w X.tok.1 X.tok.2 sz vs)
 | .epk i sz e off,v=>V.aq e=true∧V.cq e=true∧ ∃x,v= .pointer (some ⟨X.tok.1,X.tok.2+i*sz+off,none⟩)∧ ¬Own X μ X.tok.1∧X.tok.1 <μ.w.heap.size∧aj e x∧cM μ.w X.tok.1 (X.tok.2+i*sz) sz [x]
 | .msl ..,_=>False
 | .mptr ..,_=>False
 | .any,_=>True
def ah:List V→List Value→Prop
 | [],[]=>True
 | x::xs,v::vs=>aj x v∧ah xs vs
 | _,_=>False
end
end
theorem ah.length {X:Ctx} {μ:Mu}: ∀ {xs:List V} {vs:List Value},ah X μ xs vs→xs.length=vs.length
 | [],[],_=>rfl
 | [],_::_,h=>by simp[ah] at h
 | _::_,[],h=>by simp[ah] at h
 | _::_,_::_,h=>by simp only[ah] at h;simp[ah.length h.2]
theorem ah.get {X:Ctx} {μ:Mu}: ∀ {xs:List V} {vs:List Value},ah X μ xs vs→ ∀ {i:Nat} {x:V},xs[i]? =some x→ ∃v,vs[i]? =some v∧aj X μ x v
 | [],_,_,i,x,hx=>by simp at hx
 | _::_,[],h,_,_,_=>by simp[ah] at h
 | y::ys,v::vs,h,i,x,hx=>by
   simp only[ah] at h
   cases i with
   | zero=>simp at hx;subst hx;exact⟨v,Zm,h.1⟩
   | succ i=>simp at hx;simpa using ah.get h.2 hx
theorem ah.uJ {X:Ctx} {μ:Mu}: ∀ {xs:List V} {vs:List Value},xs.length=vs.length→(∀ (i:Nat) (x:V) (v:Value),xs[i]? =some x→vs[i]? =some v→aj X μ x v)→ah X μ xs vs
 | [],[],_,_=>by simp[ah]
 | [],_::_,h,_=>by simp at h
 | _::_,[],h,_=>by simp at h
 | x::xs,v::vs,h,hg=>by
   simp only[ah]
   exact⟨hg 0 x v Zm Zm,ah.uJ (by simpa using h) fun i y u hy hu=>hg (i+1) y u (by simpa using hy) (by simpa using hu)⟩
theorem ah.append {X:Ctx} {μ:Mu}: ∀ {xs ys:List V} {vs us:List Value},ah X μ xs vs→ah X μ ys us→ah X μ (xs++ys) (vs++us)
 | [],_,[],_,_,h=>by simpa using h
 | [],_,_::_,_,h,_=>by simp[ah] at h
 | _::_,_,[],_,h,_=>by simp[ah] at h
 | x::xs,ys,v::vs,us,h,h'=>by
   simp only[ah] at h
   simp only[Z2,ah]
   exact⟨h.1,ah.append h.2 h'⟩
theorem ah.take {X:Ctx} {μ:Mu}: ∀ {xs:List V} {vs:List Value} (n:Nat),ah X μ xs vs→ah X μ (xs.take n) (vs.take n)
 | _,_,0,_=>by simp[ah]
 | [],[],n+1,_=>by simp[ah]
 | [],_::_,n+1,h=>by simp[ah] at h
 | _::_,[],n+1,h=>by simp[ah] at h
 | x::xs,v::vs,n+1,h=>by
   simp only[ah] at h
   simp only[Z9,ah]
   exact⟨h.1,ah.take n h.2⟩
theorem ah.drop {X:Ctx} {μ:Mu}: ∀ {xs:List V} {vs:List Value} (n:Nat),ah X μ xs vs→ah X μ (xs.drop n) (vs.drop n)
 | _,_,0,h=>by simpa using h
 | [],[],n+1,_=>by simp[ah]
 | [],_::_,n+1,h=>by simp[ah] at h
 | _::_,[],n+1,h=>by simp[ah] at h
 | x::xs,v::vs,n+1,h=>by
   simp only[ah] at h
   simpa using ah.drop n h.2
theorem ah.set {X:Ctx} {μ:Mu} {xs:List V} {vs:List Value} (h:ah X μ xs vs) (i:Nat) {x:V} {v:Value} (hx:aj X μ x v):ah X μ (xs.set i x) (vs.set i v):=by
 refine ah.uJ (by simpa using h.length) fun j y u hy hu=> ?_
 rw[aat] at hy hu
 split at hy
 ·rename_i e
  subst e
  by_cases hl:i<xs.length
  ·have kC:i<vs.length:=by rw[←h.length];exact hl
   simp[hl] at hy;simp[kC] at hu
   subst hy hu;exact hx
  ·simp[hl] at hy
 ·rename_i e
  simp[e] at hu
  obtain⟨u',Cg,hr⟩:=h.get hy
  rw[hu] at Cg;injection Cg with Cg;subst Cg;exact hr
structure Le (μ μ':Mu):Prop where
 size:μ.w.heap.size≤μ'.w.heap.size
 bR: ∀b,b<μ.w.heap.size→ ¬μ.own b→μ'.w.heap[b]? =μ.w.heap[b]? ∧ ¬μ'.own b
 gen: ∀r,(μ.O r).gen≤(μ'.O r).gen
 row: ∀r,(μ'.O r).gen=(μ.O r).gen→μ'.φ r=μ.φ r∧(μ'.O r).sz=(μ.O r).sz
 os:μ'.w.os=μ.w.os
 output:μ'.w.output=μ.w.output
 tape:μ'.w.tape=μ.w.tape
 frozen: ∀a:Addr,a.block<μ.w.heap.size→μ'.w.frozen? a=μ.w.frozen? a
theorem Le.refl (μ:Mu):Le μ μ:=
 ⟨Zy _,fun _ _ h=> ⟨rfl,h⟩,fun _=>Zy _,fun _ _=> ⟨rfl,rfl⟩,rfl,rfl,rfl,fun _ _=>rfl⟩
theorem Le.trans {a b c:Mu} (h:Le a b) (k:Le b c):Le a c where
 size:=Z1 h.size k.size
 bR:=fun i hi ho=>by
  obtain⟨h1,h2⟩:=h.bR i hi ho
  obtain⟨k1,k2⟩:=k.bR i (ZC hi h.size) h2
  exact⟨k1.trans h1,k2⟩
 gen:=fun r=>Z1 (h.gen r) (k.gen r)
 row:=fun r e=>by
  have h1:=h.gen r
  have k1:=k.gen r
  obtain⟨a1,a2⟩:=h.row r Zl
  obtain⟨b1,b2⟩:=k.row r Zl
  exact⟨b1.trans a1,b2.trans a2⟩
 os:=k.os.trans h.os
 output:=k.output.trans h.output
 tape:=k.tape.trans h.tape
 frozen:=fun x hx=> (k.frozen x (ZC hx h.size)).trans (h.frozen x hx)
theorem cM.bR {w w':World} {b off sz:Nat} {vs:List Value} (h:cM w b off sz vs) (e:w'.heap[b]? =w.heap[b]?):cM w' b off sz vs:=by
 intro i v hv
 obtain⟨h1,h2⟩:=h i v hv
 refine⟨h1,fun j c hc=> ?_⟩
 rw[←h2 j c hc]
 simp[World.cell?,e]
mutual
theorem aj.mono {X:Ctx} {μ μ':Mu} (le:Le μ μ'): ∀ {x:V} {v:Value},aj X μ x v→aj X μ' x v
 | .bool _,_,h| .int ..,_,h| .float _,_,h| .str _,_,h| .nilp,_,h| .nilfn,_,h| .nili,_,h| .nils,_,h=>by simpa [aj] using h
 | .any,_,_=>by simp[aj]
 | .own ..,_,h| .msl ..,_,h| .mptr ..,_,h=>by simp[aj] at h
 | .agg cs,_,h=>by
   simp only[aj] at h ⊢
   obtain⟨h1,vs,rfl,h2⟩:=h
   exact⟨h1,vs,rfl,ah.mono le h2⟩
 | .tuple cs,_,h=>by
   simp only[aj] at h ⊢
   obtain⟨vs,rfl,h2⟩:=h
   exact⟨vs,rfl,ah.mono le h2⟩
 | .bfn f cs,_,h=>by
   simp only[aj] at h ⊢
   obtain⟨F,cv,rfl,h1,h2⟩:=h
   exact⟨F,cv,rfl,h1,ah.mono le h2⟩
 | .fn f cs,_,h=>by
   simp only[aj] at h ⊢
   obtain⟨F,cv,rfl,h1,h2⟩:=h
   exact⟨F,cv,rfl,h1,ah.mono le h2⟩
 | .iface t x,_,h=>by
   simp only[aj] at h ⊢
   obtain⟨T,y,rfl,h1,h2⟩:=h
   exact⟨T,y,rfl,h1,aj.mono le h2⟩
 | .lit sz xs,_,h=>by
   simp only[aj] at h ⊢
   obtain⟨h0,jJ,a,cap,vs,rfl,h1,h2,h3⟩:=h
   refine⟨h0,jJ,a,cap,vs,rfl,h1,ah.mono le h2,h3.imp id ?_⟩
   rintro⟨b,o,rfl,hb,hs,hr⟩
   obtain⟨k1,k2⟩:=le.bR b hs (fun h=>hb (.inl h))
   exact⟨b,o,rfl,(fun h=>h.elim k2 fun h=>hb (.inr h)),ZC hs le.size,hr.bR k1⟩
 | .sl r g off len,_,h=>by
   simp only[aj] at h ⊢
   obtain⟨a,cap,rfl,h1,h2,h3⟩:=h
   have hg:=le.gen r
   refine⟨a,cap,rfl,h1,Zl,fun e=> ?_⟩
   obtain⟨e1,e2⟩:=le.row r Zl
   rw[e1,e2];exact h3 Zl
 | .ptr r g idx off,_,h=>by
   simp only[aj] at h ⊢
   obtain⟨a,rfl,h2,h3⟩:=h
   have hg:=le.gen r
   refine⟨a,rfl,Zl,fun e=> ?_⟩
   obtain⟨e1,e2⟩:=le.row r Zl
   rw[e1,e2];exact h3 Zl
 | .eptr e off,_,h=>by
   simp only[aj] at h ⊢
   obtain⟨h0,jJ,b,o,sz,x,rfl,hb,hs,h1,hr⟩:=h
   obtain⟨k1,k2⟩:=le.bR b hs (fun h=>hb (.inl h))
   exact⟨h0,jJ,b,o,sz,x,rfl,(fun h=>h.elim k2 fun h=>hb (.inr h)),ZC hs le.size,aj.mono le h1,hr.bR k1⟩
 | .litk sz xs,_,h=>by
   simp only[aj] at h ⊢
   obtain⟨h0,jJ,a,cap,vs,rfl,h1,h2,h3⟩:=h
   refine⟨h0,jJ,a,cap,vs,rfl,h1,ah.mono le h2,h3.imp id ?_⟩
   rintro⟨rfl,hb,hs,hr⟩
   obtain⟨k1,k2⟩:=le.bR _ hs (fun h=>hb (.inl h))
   exact⟨rfl,(fun h=>h.elim k2 fun h=>hb (.inr h)),ZC hs le.size,hr.bR k1⟩
 | .epk i sz e off,_,h=>by
   simp only[aj] at h ⊢
   obtain⟨h0,jJ,x,rfl,hb,hs,h1,hr⟩:=h
   obtain⟨k1,k2⟩:=le.bR _ hs (fun h=>hb (.inl h))
   exact⟨h0,jJ,x,rfl,(fun h=>h.elim k2 fun h=>hb (.inr h)),ZC hs le.size,aj.mono le h1,hr.bR k1⟩
 | .mp r g,_,h=>by
   simp only[aj] at h ⊢
   obtain⟨a,rfl,h2,h3⟩:=h
   have hg:=le.gen r
   refine⟨a,rfl,Zl,fun e=> ?_⟩
   obtain⟨e1,e2⟩:=le.row r Zl
   rw[e1,e2];exact h3 Zl
 | .it r g,_,h=>by
   simp only[aj] at h ⊢
   obtain⟨a,rfl,h2,h3⟩:=h
   have hg:=le.gen r
   refine⟨a,rfl,Zl,fun e=> ?_⟩
   obtain⟨e1,e2⟩:=le.row r Zl
   rw[e1,e2];exact h3 Zl
 | .mlit es,_,h=>by
   simp only[aj] at h ⊢
   obtain⟨h0,h⟩:=h
   refine⟨h0,h.imp id ?_⟩
   rintro⟨a,ents,clock,rfl,hb,hs,h1,h2⟩
   obtain⟨k1,k2⟩:=le.bR a hs (fun h=>hb (.inl h))
   exact⟨a,ents,clock,rfl,(fun h=>h.elim k2 fun h=>hb (.inr h)),ZC hs le.size,by rw[k1];exact h1,ah.mono le h2⟩
theorem ah.mono {X:Ctx} {μ μ':Mu} (le:Le μ μ'): ∀ {xs:List V} {vs:List Value},ah X μ xs vs→ah X μ' xs vs
 | [],[],_=>by simp[ah]
 | [],_::_,h=>by simp[ah] at h
 | _::_,[],h=>by simp[ah] at h
 | x::xs,v::vs,h=>by
   simp only[ah] at h ⊢
   exact⟨aj.mono le h.1,ah.mono le h.2⟩
end
def jX (X:Ctx) (μ:Mu) (r:Nat) (es:List V):Prop:=0 < (μ.O r).sz∧es.length≤(μ.φ r).cap∧es.all (aJ · (μ.O r).sz)=true∧
 ((μ.φ r).cap=0∨ ∃c T vs,μ.w.heap[(μ.φ r).bB]? =some (.cells c T (0,0))∧(μ.φ r).base+(μ.φ r).cap*(μ.O r).sz≤c.size∧ah X μ es vs∧
   cM μ.w (μ.φ r).bB (μ.φ r).base (μ.O r).sz vs)
def lI (X:Ctx) (μ:Mu) (ob:Go.Obj) (es:List V):Prop:=
 (∃ents clock,ob= .map ents clock∧ah X μ es (ents.toList.map fun e=> .tuple #[e.key,e.val])∧im ents clock)∨(∃ (s:ByteArray) (pos:Nat),ob= .stringIter s pos∧es=[.str s.data.toList,.int .i64 (pos:Int)])∨
 ∃mo since kp,ob= .mapIter mo since #[] since∧es=[.mlit kp]∧(mo=none∧kp=[]∨ ∃m ents,mo=some m∧ ¬Own X μ m∧m<μ.w.heap.size∧μ.w.heap[m]? =some (.map ents since)∧im ents since∧ah X μ kp (ents.toList.map fun e=> .tuple #[e.key,e.val]))
theorem lI.mono {X:Ctx} {μ μ':Mu} (le:Le μ μ') {ob:Go.Obj} {es:List V} (h:lI X μ ob es):lI X μ' ob es:=by
 rcases h with⟨ents,clock,h1,h2,h3⟩ | h| ⟨mo,since,kp,h1,h2,h3⟩
 ·exact .inl ⟨ents,clock,h1,ah.mono le h2,h3⟩
 ·exact .inr (.inl h)
 ·refine .inr (.inr ⟨mo,since,kp,h1,h2,h3.imp id ?_⟩)
  rintro⟨m,ents,k1,k2,k3,k4,k5,k6⟩
  obtain⟨l1,l2⟩:=le.bR m k3 (fun h=>k2 (.inl h))
  exact⟨m,ents,k1,(fun h=>h.elim l2 fun h=>k2 (.inr h)),ZC k3 le.size,by rw[l1];exact k4,k5,ah.mono le k6⟩
theorem lI.live {X:Ctx} {μ:Mu} {ob:Go.Obj} {es:List V} (h:lI X μ ob es) (a:Addr) (w:World) (hw:w.heap[a.block]? =some ob):w.frozen? a=false:=by
 rcases h with⟨_,_,rfl,_⟩ | ⟨_,_,rfl,_⟩ | ⟨_,_,_,rfl,_⟩ <;>simp only[World.frozen?,hw]
def qx (X:Ctx) (μ:Mu) (r:Nat) (es:List V):Prop:=(μ.O r).sz=0∧(μ.φ r).cap≠0∧
 ∃ob,μ.w.heap[(μ.φ r).bB]? =some ob∧lI X μ ob es
def ez (X:Ctx) (μ:Mu) (r:Nat):Prop:= ∀es,(μ.O r).es=some es→jX X μ r es∨qx X μ r es
def Vt (μ:Mu):Prop:= ∀r r',r≠r'→(μ.O r).es.isSome=true→(μ.O r').es.isSome=true→(μ.φ r).cap≠0→(μ.φ r').cap≠0→(μ.φ r).bB≠(μ.φ r').bB
structure aP (X:Ctx) (μ:Mu):Prop where
 ok: ∀r,ez X μ r
 inj:Vt μ
 qY: ∀r,(μ.O r).es.isSome=true→(μ.φ r).cap≠0→ ¬X.KI (μ.φ r).bB
 blt: ∀b,X.KI b→b<μ.w.heap.size
theorem aP.row {X:Ctx} {μ:Mu} (ho:aP X μ) (r:Nat) (es:List V) (aZ: (μ.O r).es=some es) (h0:0 < (μ.O r).sz):jX X μ r es:=by
 rcases ho.ok r es aZ with h| ⟨h,_⟩
 ·exact h
 ·omega
theorem aP.map {X:Ctx} {μ:Mu} (ho:aP X μ) (r:Nat) (es:List V) (aZ: (μ.O r).es=some es) (h0: (μ.O r).sz=0):qx X μ r es:=by
 rcases ho.ok r es aZ with⟨h,_⟩ | h
 ·omega
 ·exact h
theorem aP.ents {X:Ctx} {μ:Mu} (ho:aP X μ) (r:Nat) (es:List V) (aZ: (μ.O r).es=some es) (h0: (μ.O r).sz=0): ((μ.φ r).cap≠0∧ ∃ents clock,μ.w.heap[(μ.φ r).bB]? =some (.map ents clock)∧ah X μ es (ents.toList.map fun e=> .tuple #[e.key,e.val])∧im ents clock)∨
  ((μ.φ r).cap≠0∧ ∃ (s:ByteArray) (pos:Nat),μ.w.heap[(μ.φ r).bB]? =some (.stringIter s pos)∧es=[.str s.data.toList,.int .i64 (pos:Int)])∨ ∃kp,es=[.mlit kp]:=by
 obtain⟨_,h2,ob,h3,h4⟩:=ho.map r es aZ h0
 rcases h4 with⟨ents,clock,rfl,h⟩ | ⟨s,pos,rfl,h⟩ | ⟨_,_,kp,_,h,_⟩
 ·exact .inl ⟨h2,ents,clock,h3,h⟩
 ·exact .inr (.inl ⟨h2,s,pos,h3,h⟩)
 ·exact .inr (.inr ⟨kp,h⟩)
theorem ez.bB {X:Ctx} {μ:Mu} {r:Nat} {es:List V} (h:jX X μ r es∨qx X μ r es) (hc: (μ.φ r).cap≠0): (μ.φ r).bB<μ.w.heap.size:=by
 rcases h with⟨_,_,_,h⟩ | ⟨_,_,ob,h,_⟩
 ·rcases h with h| ⟨_,_,_,h,_⟩
  ·exact absurd h hc
  ·exact(Zu.1 h).1
 ·exact(Zu.1 h).1
theorem ez.bR {X:Ctx} {μ μ':Mu} {r r':Nat} {es:List V} (le:Le μ μ') (h:jX X μ r es∨qx X μ r es) (bM: (μ'.O r').sz=(μ.O r).sz) (hφ:μ'.φ r'=μ.φ r)
  (hb: (μ.φ r).cap≠0→μ'.w.heap[(μ.φ r).bB]? =μ.w.heap[(μ.φ r).bB]?):jX X μ' r' es∨qx X μ' r' es:=by
 rcases h with⟨h1,h2,h3,h4⟩ | ⟨h1,h2,ob,h3,h4⟩
 ·left
  unfold jX
  rw[bM,hφ]
  by_cases hc: (μ.φ r).cap=0
  ·exact⟨h1,h2,h3,.inl hc⟩
  ·rcases h4 with h4| ⟨c,T,vs,k1,k2,k3,k4⟩
   ·exact absurd h4 hc
   ·exact⟨h1,h2,h3,.inr ⟨c,T,vs,by rw[hb hc];exact k1,k2,ah.mono le k3,k4.bR (hb hc)⟩⟩
 ·right
  unfold qx
  rw[bM,hφ]
  exact⟨h1,h2,ob,by rw[hb h2];exact h3,h4.mono le⟩
structure Ch (w0:World) (JG:Nat→Prop) (μ:Mu):Prop where
 size:w0.heap.size≤μ.w.heap.size
 bR: ∀b,b<w0.heap.size→ ¬JG b→μ.w.heap[b]? =w0.heap[b]? ∧ ¬μ.own b
 os:μ.w.os=w0.os
 output:μ.w.output=w0.output
 tape:μ.w.tape=w0.tape
 frozen: ∀a:Addr,a.block<w0.heap.size→μ.w.frozen? a=w0.frozen? a
theorem Ch.step {w0:World} {JG:Nat→Prop} {μ μ':Mu} (h:Ch w0 JG μ) (k:Le μ μ'):Ch w0 JG μ' where
 size:=Z1 h.size k.size
 bR:=fun i hi ho=>by
  obtain⟨h1,h2⟩:=h.bR i hi ho
  obtain⟨k1,k2⟩:=k.bR i (ZC hi h.size) h2
  exact⟨k1.trans h1,k2⟩
 os:=k.os.trans h.os
 output:=k.output.trans h.output
 tape:=k.tape.trans h.tape
 frozen:=fun x hx=> (k.frozen x (ZC hx h.size)).trans (h.frozen x hx)
theorem aj.lJ {X:Ctx} {μ:Mu} {x:V} {v:Value} (h:aj X μ x v) (hc:x.aF=true):v.oneCell'=true∧v.cells= #[v]:=by
 cases x<;>simp[V.aF] at hc<;>simp only[aj] at h
 case bool=>subst h;exact⟨rfl,rfl⟩
 case int=>subst h;exact⟨rfl,rfl⟩
 case float=>subst h;exact⟨rfl,rfl⟩
 case str=>obtain⟨_,rfl,_⟩:=h;exact⟨rfl,rfl⟩
 case nilp=>subst h;exact⟨rfl,rfl⟩
 case nilfn=>subst h;exact⟨rfl,rfl⟩
 case nili=>subst h;exact⟨rfl,rfl⟩
 case fn=>obtain⟨_,_,rfl,_⟩:=h;exact⟨rfl,rfl⟩
 case bfn=>obtain⟨_,_,rfl,_⟩:=h;exact⟨rfl,rfl⟩
 case iface=>obtain⟨_,_,rfl,_⟩:=h;exact⟨rfl,rfl⟩
 case nils=>obtain⟨_,rfl⟩:=h;exact⟨rfl,rfl⟩
 case lit=>obtain⟨_,_,_,_,_,rfl,_⟩:=h;exact⟨rfl,rfl⟩
 case sl=>obtain⟨_,_,rfl,_⟩:=h;exact⟨rfl,rfl⟩
 case ptr=>obtain⟨_,rfl,_⟩:=h;exact⟨rfl,rfl⟩
 case eptr=>obtain⟨_,_,_,_,_,_,rfl,_⟩:=h;exact⟨rfl,rfl⟩
 case litk=>obtain⟨_,_,_,_,_,rfl,_⟩:=h;exact⟨rfl,rfl⟩
 case epk=>obtain⟨_,_,_,rfl,_⟩:=h;exact⟨rfl,rfl⟩
 case mp=>obtain⟨_,rfl,_⟩:=h;exact⟨rfl,rfl⟩
 case it=>obtain⟨_,rfl,_⟩:=h;exact⟨rfl,rfl⟩
 case mlit=>obtain⟨_,⟨_,rfl⟩ | ⟨_,_,_,rfl,_⟩⟩:=h<;>exact⟨rfl,rfl⟩
theorem V.fj {x:V} (h:x.aF=true):x.cells=[x]:=by
 cases x<;>simp_all[V.aF,V.cells]
theorem aj.cells {X:Ctx} {μ:Mu} {x:V} {v:Value} (h:aj X μ x v) (hl:x.cq=true):ah X μ x.cells v.cells.toList:=by
 simp only[V.cq,aaH] at hl
 rcases hl with hl| hl
 ·cases x<;>simp[V.isAgg] at hl
  simp only[aj] at h
  obtain⟨_,vs,rfl,h2⟩:=h
  exact h2
 ·rw[(h.lJ hl).2,V.fj hl]
  simp[ah,h]
theorem aj.dK {X:Ctx} {μ:Mu} {x:V} {v:Value} (h:aj X μ x v) (hl:x.cq=true):v.cells.size=x.cells.length:=by
 have:=(h.cells hl).length
 simpa using this.symm
theorem aj.iQ {X:Ctx} {μ:Mu} {x:V} {v:Value} (h:aj X μ x v) (hl:x.cq=true):x.cells.all V.aF=true:=by
 simp only[V.cq,aaH] at hl
 rcases hl with hl| hl
 ·cases x<;>simp[V.isAgg] at hl
  simp only[aj] at h
  exact h.1
 ·rw[V.fj hl];simp[hl]
end Go.AM
namespace Go.AM
open Go Go.RowKit
theorem an {α:Type} (f:Nat→α) (t:Nat) (v:α):cC f t v t=v:=by simp[cC]
theorem aG {α:Type} (f:Nat→α) {t n:Nat} (v:α) (h:n≠t):cC f t v n=f n:=by simp[cC,h]
theorem cM.Aa {w:World} {b off sz:Nat} {vs:List Value} {c:Array Value} {T:TypeId} {fr:Nat×Nat} (hb:w.heap[b]? =some (.cells c T fr))
  (h: ∀i v,vs[i]? =some v→v.cells.size=sz∧ ∀j x,v.cells[j]? =some x→c[off+i*sz+j]? =some x):cM w b off sz vs:=by
 intro i v hv
 obtain⟨h1,h2⟩:=h i v hv
 refine⟨h1,fun j x hx=> ?_⟩
 simp[World.cell?,hb,h2 j x hx]
theorem cM.Hj {w:World} {b off sz:Nat} {vs:List Value} {c:Array Value} {T:TypeId} {fr:Nat×Nat} (hb:w.heap[b]? =some (.cells c T fr))
  (h:cM w b off sz vs): ∀i v,vs[i]? =some v→v.cells.size=sz∧ ∀j x,v.cells[j]? =some x→c[off+i*sz+j]? =some x:=by
 intro i v hv
 obtain⟨h1,h2⟩:=h i v hv
 refine⟨h1,fun j x hx=> ?_⟩
 have:=h2 j x hx
 simpa [World.cell?,hb] using this
theorem Ab {μ:Mu} {r:Nat} {o:Obj} {w':World} (h:o.es.isSome=true→o.fz=false→(μ.O r).es.isSome=true∧(μ.O r).fz=false) {b:Nat}
  (hb: (⟨w',μ.φ,cC μ.O r o⟩:Mu).own b):μ.own b:=by
 obtain⟨r',h1,h2,h3,h4⟩:=hb
 by_cases e:r'=r
 ·subst e
  simp only[an] at h1 h2
  obtain⟨k1,k2⟩:=h h1 h2
  exact⟨r',k1,k2,h3,h4⟩
 ·simp only[aG _ _ e] at h1 h2
  exact⟨r',h1,h2,h3,h4⟩
theorem aP.pg {X:Ctx} {μ μ':Mu} (ho:aP X μ) (le:Le μ μ') (hO:μ'.O=μ.O) (hφ:μ'.φ=μ.φ)
  (hb: ∀b,b<μ.w.heap.size→μ'.w.heap[b]? =μ.w.heap[b]?):aP X μ' where
 ok:=fun r es aZ=>by
  rw[hO] at aZ
  exact ez.bR le (ho.ok r es aZ) (by rw[hO]) (by rw[hφ]) fun hc=>hb _ (ez.bB (ho.ok r es aZ) hc)
 inj:=by unfold Vt;rw[hO,hφ];exact ho.inj
 qY:=by rw[hO,hφ];exact ho.qY
 blt:=fun b hb=>ZC (ho.blt b hb) le.size
theorem Le.drew {X:Ctx} {μ:Mu} (ho:aP X μ):Le μ ⟨μ.w.drew,μ.φ,μ.O⟩∧aP X ⟨μ.w.drew,μ.φ,μ.O⟩:=by
 have le:Le μ ⟨μ.w.drew,μ.φ,μ.O⟩:=
  ⟨Zy _,fun _ _ h=> ⟨rfl,h⟩,fun _=>Zy _,fun _ _=> ⟨rfl,rfl⟩,rfl,rfl,rfl,fun _ _=>rfl⟩
 exact⟨le,ho.pg le rfl rfl fun _ _=>rfl⟩
theorem ye {X:Ctx} {μ:Mu} (ho:aP X μ) (r sz cap:Nat) (arr:Bool) {es:List V} {vs:List Value} {c:Array Value} (T:TypeId) (bM:0 <sz)
  (b7:es.length≤cap) (jI:es.all (aJ · sz)=true) (aV:ah X μ es vs) (hc:cap*sz≤c.size)
  (cE: ∀i v,vs[i]? =some v→v.cells.size=sz∧ ∀j x,v.cells[j]? =some x→c[i*sz+j]? =some x):
  let μ':Mu:=⟨μ.w.alloc (.cells c T (0,0)),cC μ.φ r ⟨μ.w.heap.size,0,cap⟩,cC μ.O r {gen:=(μ.O r).gen+1,sz:=sz,arr:=arr,fz:=false,es:=some es}⟩
  Le μ μ'∧aP X μ':=by
 intro μ'
 have gZ: ∀b,b<μ.w.heap.size→μ'.w.heap[b]? =μ.w.heap[b]? :=fun b hb=>heap_alloc_old _ _ _ hb
 have jY:μ'.w.heap.size=μ.w.heap.size+1:=Array.size_push _
 have iO:μ'.w.heap[μ.w.heap.size]? =some (.cells c T (0,0)):=heap_alloc_new _ _
 have le:Le μ μ':=by
  refine⟨Zl,fun b hb ig=> ⟨gZ b hb,?_⟩,fun r'=> ?_,fun r' e=> ?_,rfl,rfl,rfl,fun a ha=> ?_⟩
  ·rintro⟨r',h1,h2,h3,h4⟩
   by_cases e:r'=r
   ·subst e
    simp only[μ',an] at h4
    omega
   ·simp only[μ',aG _ _ e] at h1 h2 h3 h4
    exact ig ⟨r',h1,h2,h3,h4⟩
  ·by_cases e:r'=r
   ·subst e;simp[μ',an]
   ·simp[μ',aG _ _ e]
  ·by_cases e':r'=r
   ·subst e';simp[μ',an] at e
   ·simp[μ',aG _ _ e']
  ·simp only[World.frozen?,gZ a.block ha]
 refine⟨le,fun r' es' eA=> ?_,fun r1 r2 bQ h1 h2 h3 h4=> ?_,fun r' h1 h2 hb=> ?_,fun b hb=>ZC (ho.blt b hb) le.size⟩
 rotate_left 2
 ·by_cases e:r'=r
  ·subst e
   simp only[μ',an] at hb
   have:=ho.blt _ hb
   omega
  ·simp only[μ',aG _ _ e] at h1 h2 hb
   exact ho.qY r' h1 h2 hb
 ·by_cases e:r'=r
  ·subst e
   simp only[μ',an] at eA ⊢
   injection eA with eA
   subst eA
   refine .inl ?_
   unfold jX
   simp only[μ',an]
   refine⟨bM,b7,jI,.inr ⟨c,T,vs,iO,by simpa using hc,ah.mono le aV,cM.Aa iO ?_⟩⟩
   simpa using cE
  ·have hO:μ'.O r'=μ.O r':=by simp[μ',aG _ _ e]
   have hφ:μ'.φ r'=μ.φ r':=by simp[μ',aG _ _ e]
   rw[hO] at eA
   exact ez.bR le (ho.ok r' es' eA) (by rw[hO]) hφ fun hc=>gZ _ (ez.bB (ho.ok r' es' eA) hc)
 ·have hold: ∀r',r'≠r→(μ.O r').es.isSome=true→(μ.φ r').cap≠0→(μ.φ r').bB<μ.w.heap.size:=fun r' _ hs CZ=>by
   obtain⟨es',he⟩:=ZA.1 hs
   exact ez.bB (ho.ok r' es' he) CZ
  by_cases e1:r1=r
  ·subst e1
   have e2:r2≠r1:=fun e=>bQ e.symm
   simp only[μ',an,aG _ _ e2] at h1 h2 h3 h4 ⊢
   have:=hold r2 e2 h2 h4
   omega
  ·by_cases e2:r2=r
   ·subst e2
    simp only[μ',an,aG _ _ e1] at h1 h2 h3 h4 ⊢
    have:=hold r1 e1 h1 h3
    omega
   ·simp only[μ',aG _ _ e1,aG _ _ e2] at h1 h2 h3 h4 ⊢
    exact ho.inj r1 r2 bQ h1 h2 h3 h4
theorem ED {X:Ctx} {μ:Mu} (ho:aP X μ) (r sz:Nat) (bM:0 <sz):
  let μ':Mu:=⟨μ.w,cC μ.φ r ⟨0,0,0⟩,cC μ.O r {gen:=(μ.O r).gen+1,sz:=sz,arr:=true,fz:=false,es:=some []}⟩
  Le μ μ'∧aP X μ':=by
 intro μ'
 have le:Le μ μ':=by
  refine⟨Zy _,fun b hb ig=> ⟨rfl,?_⟩,fun r'=> ?_,fun r' e=> ?_,rfl,rfl,rfl,fun _ _=>rfl⟩
  ·rintro⟨r',h1,h2,h3,h4⟩
   by_cases e:r'=r
   ·subst e
    simp only[μ',an] at h3
    exact h3 rfl
   ·simp only[μ',aG _ _ e] at h1 h2 h3 h4
    exact ig ⟨r',h1,h2,h3,h4⟩
  ·by_cases e:r'=r
   ·subst e;simp[μ',an]
   ·simp[μ',aG _ _ e]
  ·by_cases e':r'=r
   ·subst e';simp[μ',an] at e
   ·simp[μ',aG _ _ e']
 refine⟨le,fun r' es' eA=> ?_,fun r1 r2 bQ h1 h2 h3 h4=> ?_,fun r' h1 h2 hb=> ?_,ho.blt⟩
 ·by_cases e:r'=r
  ·subst e
   simp only[μ',an] at eA
   injection eA with eA
   subst eA
   refine .inl ?_
   unfold jX
   simp only[μ',an]
   exact⟨bM,Zy _,rfl,.inl Zm⟩
  ·have hO:μ'.O r'=μ.O r':=by simp[μ',aG _ _ e]
   have hφ:μ'.φ r'=μ.φ r':=by simp[μ',aG _ _ e]
   rw[hO] at eA
   exact ez.bR le (ho.ok r' es' eA) (by rw[hO]) hφ fun _=>rfl
 ·have e1:r1≠r:=by
   intro e;subst e
   simp only[μ',an] at h3
   exact h3 rfl
  have e2:r2≠r:=by
   intro e;subst e
   simp only[μ',an] at h4
   exact h4 rfl
  simp only[μ',aG _ _ e1,aG _ _ e2] at h1 h2 h3 h4 ⊢
  exact ho.inj r1 r2 bQ h1 h2 h3 h4
 ·have e:r'≠r:=by
   intro e;subst e
   simp only[μ',an] at h2
   exact h2 rfl
  simp only[μ',aG _ _ e] at h1 h2 hb
  exact ho.qY r' h1 h2 hb
theorem JH {X:Ctx} {μ:Mu} (ho:aP X μ) {r r1:Nat} (bQ:r1≠r):
  let μ':Mu:=⟨μ.w,cC μ.φ r (μ.φ r1),cC (cC μ.O r ⟨(μ.O r).gen+1,(μ.O r1).sz,(μ.O r1).arr,(μ.O r1).fz,(μ.O r1).es⟩) r1 ⟨(μ.O r1).gen+1,(μ.O r1).sz,(μ.O r1).arr,(μ.O r1).fz,none⟩⟩
  Le μ μ'∧aP X μ':=by
 intro μ'
 have uK:r≠r1:=Ne.symm bQ
 have Ma:μ'.O r1=⟨(μ.O r1).gen+1,(μ.O r1).sz,(μ.O r1).arr,(μ.O r1).fz,none⟩:=by simp[μ',an]
 have hOr:μ'.O r=⟨(μ.O r).gen+1,(μ.O r1).sz,(μ.O r1).arr,(μ.O r1).fz,(μ.O r1).es⟩:=by simp[μ',aG _ _ uK,an]
 have PE:μ'.φ r=μ.φ r1:=by simp[μ',an]
 have hO: ∀r',r'≠r→r'≠r1→μ'.O r'=μ.O r':=fun r' h1 h2=>by simp[μ',aG _ _ h1,aG _ _ h2]
 have hφ: ∀r',r'≠r→μ'.φ r'=μ.φ r':=fun r' h1=>by simp[μ',aG _ _ h1]
 have fN: ∀b,μ'.own b→μ.own b:=by
  rintro b ⟨r',h1,h2,h3,h4⟩
  by_cases e1:r'=r1
  ·subst e1;rw[Ma] at h1;simp at h1
  ·by_cases e:r'=r
   ·subst e
    rw[hOr] at h1 h2
    rw[PE] at h3 h4
    exact⟨r1,h1,h2,h3,h4⟩
   ·rw[hO _ e e1] at h1 h2
    rw[hφ _ e] at h3 h4
    exact⟨r',h1,h2,h3,h4⟩
 have le:Le μ μ':=by
  refine⟨Zy _,fun b hb ig=> ⟨rfl,fun h=>ig (fN b h)⟩,fun r'=> ?_,fun r' e=> ?_,rfl,rfl,rfl,fun _ _=>rfl⟩
  ·by_cases e1:r'=r1
   ·subst e1;rw[Ma];simp
   ·by_cases e:r'=r
    ·subst e;rw[hOr];simp
    ·rw[hO _ e e1];exact Zy _
  ·by_cases e1:r'=r1
   ·subst e1;rw[Ma] at e;simp at e
   ·by_cases e2:r'=r
    ·subst e2;rw[hOr] at e;simp at e
    ·rw[hO _ e2 e1,hφ _ e2];exact⟨rfl,rfl⟩
 refine⟨le,fun r' es' eA=> ?_,fun r2 r3 PF h1 h2 h3 h4=> ?_,fun r' h1 h2 hb=> ?_,ho.blt⟩
 ·by_cases e1:r'=r1
  ·subst e1;rw[Ma] at eA;simp at eA
  ·by_cases e:r'=r
   ·subst e
    rw[hOr] at eA
    exact ez.bR (r:=r1) le (ho.ok r1 es' eA) (by rw[hOr]) PE fun _=>rfl
   ·rw[hO _ e e1] at eA
    exact ez.bR le (ho.ok r' es' eA) (by rw[hO _ e e1]) (hφ _ e) fun _=>rfl
 ·have Q4:r2≠r1:=by intro e;subst e;rw[Ma] at h1;simp at h1
  have PG:r3≠r1:=by intro e;subst e;rw[Ma] at h2;simp at h2
  by_cases e2:r2=r
  ·subst e2
   have e3:r3≠r2:=Ne.symm PF
   rw[hOr] at h1
   rw[hO _ e3 PG] at h2
   rw[PE] at h3 ⊢
   rw[hφ _ e3] at h4 ⊢
   exact ho.inj r1 r3 (Ne.symm PG) h1 h2 h3 h4
  ·rw[hO _ e2 Q4] at h1
   rw[hφ _ e2] at h3 ⊢
   by_cases e3:r3=r
   ·subst e3
    rw[hOr] at h2
    rw[PE] at h4 ⊢
    exact ho.inj r2 r1 Q4 h1 h2 h3 h4
   ·rw[hO _ e3 PG] at h2
    rw[hφ _ e3] at h4 ⊢
    exact ho.inj r2 r3 PF h1 h2 h3 h4
 ·have Q4:r'≠r1:=by intro e;subst e;rw[Ma] at h1;simp at h1
  by_cases e:r'=r
  ·subst e
   rw[hOr] at h1
   rw[PE] at h2 hb
   exact ho.qY r1 h1 h2 hb
  ·rw[hO _ e Q4] at h1
   rw[hφ _ e] at h2 hb
   exact ho.qY r' h1 h2 hb
theorem iY {X:Ctx} {μ:Mu} (ho:aP X μ) (r:Nat) {es:List V} {c:Array Value} {T:TypeId} (aZ: (μ.O r).es=some es) (eB: (μ.O r).fz=false)
  (hb:μ.w.heap[(μ.φ r).bB]? =some (.cells c T (0,0))) (gX: (μ.φ r).cap≠0)
  {c':Array Value} (hc:c'.size=c.size) (Mb DI EE:Nat) {es':List V} {vs':List Value}
  (hg: (Mb=(μ.O r).gen∧DI=(μ.φ r).base∧EE=(μ.φ r).cap)∨(μ.O r).gen<Mb) (Vu:EE≠0)
  (hlen:es'.length≤EE) (jI:es'.all (aJ · (μ.O r).sz)=true) (aV:ah X μ es' vs') (ju:DI+EE*(μ.O r).sz≤c.size)
  (cE: ∀i v,vs'[i]? =some v→v.cells.size=(μ.O r).sz∧ ∀j x,v.cells[j]? =some x→c'[DI+i*(μ.O r).sz+j]? =some x):
  let μ':Mu:=⟨μ.w.setRow (μ.φ r).bB c',cC μ.φ r ⟨(μ.φ r).bB,DI,EE⟩,cC μ.O r {μ.O r with gen:=Mb,es:=some es'}⟩
  Le μ μ'∧aP X μ':=by
 intro μ'
 have iO:μ'.w.heap[(μ.φ r).bB]? =some (.cells c' T (0,0)):=setRow_heap _ _ _ _ _ _ hb
 have ph: ∀b,b≠(μ.φ r).bB→μ'.w.heap[b]? =μ.w.heap[b]? :=fun b bQ=>setRow_other _ _ _ _ bQ
 have jY:μ'.w.heap.size=μ.w.heap.size:=by simp[μ',World.setRow]
 have bz: (μ.φ r).bB<μ.w.heap.size:=(Zu.1 hb).1
 have fN:μ.own (μ.φ r).bB:=⟨r,by simp[aZ],eB,gX,rfl⟩
 have le:Le μ μ':=by
  refine⟨Zl,fun b js ig=> ⟨ph b (fun e=>ig (e ▸ fN)),?_⟩,fun r'=> ?_,fun r' e=> ?_,rfl,rfl,rfl,fun a ha=> ?_⟩
  ·rintro⟨r',h1,h2,h3,h4⟩
   by_cases e:r'=r
   ·subst e
    simp only[μ',an] at h4
    exact ig (h4 ▸ fN)
   ·simp only[μ',aG _ _ e] at h1 h2 h3 h4
    exact ig ⟨r',h1,h2,h3,h4⟩
  ·by_cases e:r'=r
   ·subst e;simp only[μ',an];omega
   ·simp[μ',aG _ _ e]
  ·by_cases e':r'=r
   ·subst e'
    simp only[μ',an] at e ⊢
    rcases hg with⟨_,g2,g3⟩ | hg
    ·subst g2;subst g3;exact⟨rfl,trivial⟩
    ·omega
   ·simp[μ',aG _ _ e']
  ·by_cases e:a.block=(μ.φ r).bB
   ·simp only[World.frozen?,e,iO,hb]
   ·simp only[World.frozen?,ph _ e]
 refine⟨le,fun r' ND pj=> ?_,fun r1 r2 bQ h1 h2 h3 h4=> ?_,fun r' h1 h2 hb=> ?_,fun b hb=>ZC (ho.blt b hb) le.size⟩
 rotate_left 2
 ·by_cases e:r'=r
  ·subst e
   simp only[μ',an] at hb
   exact ho.qY r' (by simp[aZ]) gX hb
  ·simp only[μ',aG _ _ e] at h1 h2 hb
   exact ho.qY r' h1 h2 hb
 ·by_cases e:r'=r
  ·subst e
   have bM:0 < (μ.O r').sz:=by
    rcases ho.ok r' es aZ with⟨h,_⟩ | ⟨_,_,ob,hm,yS⟩
    ·exact h
    ·rw[hb] at hm;injection hm with hm;subst hm
     rcases yS with⟨_,_,h,_⟩ | ⟨_,_,h,_⟩ | ⟨_,_,_,h,_⟩ <;>cases h
   simp only[μ',an] at pj
   injection pj with pj
   subst pj
   refine .inl ?_
   unfold jX
   simp only[μ',an]
   exact⟨bM,hlen,jI,.inr ⟨c',T,vs',iO,Zl,ah.mono le aV,cM.Aa iO cE⟩⟩
  ·have hO:μ'.O r'=μ.O r':=by simp[μ',aG _ _ e]
   have hφ:μ'.φ r'=μ.φ r':=by simp[μ',aG _ _ e]
   rw[hO] at pj
   exact ez.bR le (ho.ok r' ND pj) (by rw[hO]) hφ fun TA=>ph _ (ho.inj r' r e (by simp[pj]) (by simp[aZ]) TA gX)
 ·have hs: ∀x,(μ'.O x).es.isSome=true→(μ.O x).es.isSome=true:=fun x hx=>by
   by_cases e:x=r
   ·subst e;simp[aZ]
   ·simpa [μ',aG _ _ e] using hx
  have rG: ∀x,(μ'.φ x).cap≠0→(μ.φ x).cap≠0:=fun x hx=>by
   by_cases e:x=r
   ·subst e;exact gX
   ·simpa [μ',aG _ _ e] using hx
  have IE: ∀x,(μ'.φ x).bB=(μ.φ x).bB:=fun x=>by
   by_cases e:x=r
   ·subst e;simp[μ',an]
   ·simp[μ',aG _ _ e]
  rw[IE,IE]
  exact ho.inj r1 r2 bQ (hs _ h1) (hs _ h2) (rG _ h3) (rG _ h4)
theorem lK {X:Ctx} {μ:Mu} (ho:aP X μ) (r:Nat):
  let μ':Mu:=⟨μ.w,μ.φ,cC μ.O r {μ.O r with fz:=true}⟩
  Le μ μ'∧aP X μ':=by
 intro μ'
 have bP: ∀x,(μ'.O x).gen=(μ.O x).gen∧(μ'.O x).sz=(μ.O x).sz∧(μ'.O x).es=(μ.O x).es:=fun x=>by
  by_cases e:x=r
  ·subst e;simp[μ',an]
  ·simp[μ',aG _ _ e]
 have le:Le μ μ':=
  ⟨Zy _,fun b hb h=> ⟨rfl,fun js=>h (Ab (r:=r) (w':=μ.w) Zm js)⟩,fun x=>by rw[(bP x).1];exact Zy _,fun x _=> ⟨rfl,(bP x).2.1⟩,rfl,rfl,rfl,fun _ _=>rfl⟩
 refine⟨le,fun x es aZ=> ?_,fun r1 r2 bQ h1 h2 h3 h4=> ?_,fun x h1 h2 hb=>ho.qY x (by rw[(bP x).2.2] at h1;exact h1) h2 hb,ho.blt⟩
 ·rw[(bP x).2.2] at aZ
  exact ez.bR le (ho.ok x es aZ) (bP x).2.1 rfl fun _=>rfl
 ·rw[(bP r1).2.2] at h1
  rw[(bP r2).2.2] at h2
  exact ho.inj r1 r2 bQ h1 h2 h3 h4
theorem EF {X:Ctx} {μ:Mu} (ho:aP X μ) (r:Nat) {es':List V} (h0: (μ.O r).es.isSome=true) (bM:0 < (μ.O r).sz) (hl:es'.length≤(μ.φ r).cap) (jI:es'.all (aJ · (μ.O r).sz)=true)
  (hc: (μ.φ r).cap=0∨ ∃c T vs,μ.w.heap[(μ.φ r).bB]? =some (.cells c T (0,0))∧(μ.φ r).base+(μ.φ r).cap*(μ.O r).sz≤c.size∧ah X μ es' vs∧
    cM μ.w (μ.φ r).bB (μ.φ r).base (μ.O r).sz vs):
  let μ':Mu:=⟨μ.w,μ.φ,cC μ.O r {μ.O r with es:=some es'}⟩
  Le μ μ'∧aP X μ':=by
 intro μ'
 have bP: ∀x,(μ'.O x).gen=(μ.O x).gen∧(μ'.O x).sz=(μ.O x).sz∧(μ'.O x).es.isSome=(μ.O x).es.isSome∧(μ'.O x).fz=(μ.O x).fz:=fun x=>by
  by_cases e:x=r
  ·subst e;simp[μ',an,h0]
  ·simp[μ',aG _ _ e]
 have fN: ∀b,μ'.own b→μ.own b:=by
  rintro b ⟨r',h1,h2,h3,h4⟩
  rw[(bP r').2.2.1] at h1
  rw[(bP r').2.2.2] at h2
  exact⟨r',h1,h2,h3,h4⟩
 have le:Le μ μ':=
  ⟨Zy _,fun b hb h=> ⟨rfl,fun js=>h (fN b js)⟩,fun x=>by rw[(bP x).1];exact Zy _,fun x _=> ⟨rfl,(bP x).2.1⟩,rfl,rfl,rfl,fun _ _=>rfl⟩
 refine⟨le,fun x es aZ=> ?_,fun r1 r2 bQ h1 h2 h3 h4=> ?_,fun x h1 h2 hb=>ho.qY x (by rw[(bP x).2.2.1] at h1;exact h1) h2 hb,ho.blt⟩
 ·by_cases e:x=r
  · subst e
    have:es=es':=by simp[μ',an] at aZ;exact aZ.symm
    subst this
    refine .inl ?_
    unfold jX
    rw[(bP x).2.1]
    refine⟨bM,hl,jI,hc.imp id ?_⟩
    rintro⟨c,T,vs,q1,q2,q3,q4⟩
    exact⟨c,T,vs,q1,q2,ah.mono le q3,q4⟩
  · have hx:μ'.O x=μ.O x:=by simp[μ',aG _ _ e]
    rw[hx] at aZ
    exact ez.bR le (ho.ok x es aZ) (by rw[hx]) rfl fun _=>rfl
 ·rw[(bP r1).2.2.1] at h1
  rw[(bP r2).2.2.1] at h2
  exact ho.inj r1 r2 bQ h1 h2 h3 h4
theorem uL {X:Ctx} {μ:Mu} (ho:aP X μ) (r:Nat) (ob:Go.Obj) (es:List V) (yS:lI X μ ob es):
  let μ':Mu:=⟨μ.w.alloc ob,cC μ.φ r ⟨μ.w.heap.size,0,1⟩,cC μ.O r {gen:=(μ.O r).gen+1,sz:=0,arr:=false,fz:=false,es:=some es}⟩
  Le μ μ'∧aP X μ':=by
 intro μ'
 have gZ: ∀b,b<μ.w.heap.size→μ'.w.heap[b]? =μ.w.heap[b]? :=fun b hb=>heap_alloc_old _ _ _ hb
 have jY:μ'.w.heap.size=μ.w.heap.size+1:=Array.size_push _
 have iO:μ'.w.heap[μ.w.heap.size]? =some ob:=heap_alloc_new _ _
 have le:Le μ μ':=by
  refine⟨Zl,fun b hb ig=> ⟨gZ b hb,?_⟩,fun r'=> ?_,fun r' e=> ?_,rfl,rfl,rfl,fun a ha=> ?_⟩
  ·rintro⟨r',h1,h2,h3,h4⟩
   by_cases e:r'=r
   ·subst e
    simp only[μ',an] at h4
    omega
   ·simp only[μ',aG _ _ e] at h1 h2 h3 h4
    exact ig ⟨r',h1,h2,h3,h4⟩
  ·by_cases e:r'=r
   ·subst e;simp[μ',an]
   ·simp[μ',aG _ _ e]
  ·by_cases e':r'=r
   ·subst e';simp[μ',an] at e
   ·simp[μ',aG _ _ e']
  ·simp only[World.frozen?,gZ a.block ha]
 refine⟨le,fun r' es' eA=> ?_,fun r1 r2 bQ h1 h2 h3 h4=> ?_,fun r' h1 h2 hb=> ?_,fun b hb=>ZC (ho.blt b hb) le.size⟩
 rotate_left 2
 ·by_cases e:r'=r
  ·subst e
   simp only[μ',an] at hb
   have:=ho.blt _ hb
   omega
  ·simp only[μ',aG _ _ e] at h1 h2 hb
   exact ho.qY r' h1 h2 hb
 ·by_cases e:r'=r
  ·subst e
   simp only[μ',an] at eA
   injection eA with eA
   subst eA
   refine .inr ?_
   unfold qx
   simp only[μ',an]
   exact⟨trivial,Zm,ob,iO,yS.mono le⟩
  ·have hO:μ'.O r'=μ.O r':=by simp[μ',aG _ _ e]
   have hφ:μ'.φ r'=μ.φ r':=by simp[μ',aG _ _ e]
   rw[hO] at eA
   exact ez.bR le (ho.ok r' es' eA) (by rw[hO]) hφ fun hc=>gZ _ (ez.bB (ho.ok r' es' eA) hc)
 ·have hold: ∀r',r'≠r→(μ.O r').es.isSome=true→(μ.φ r').cap≠0→(μ.φ r').bB<μ.w.heap.size:=fun r' _ hs CZ=>by
   obtain⟨es',he⟩:=ZA.1 hs
   exact ez.bB (ho.ok r' es' he) CZ
  by_cases e1:r1=r
  ·subst e1
   have e2:r2≠r1:=fun e=>bQ e.symm
   simp only[μ',an,aG _ _ e2] at h1 h2 h3 h4 ⊢
   have:=hold r2 e2 h2 h4
   omega
  ·by_cases e2:r2=r
   ·subst e2
    simp only[μ',an,aG _ _ e1] at h1 h2 h3 h4 ⊢
    have:=hold r1 e1 h1 h3
    omega
   ·simp only[μ',aG _ _ e1,aG _ _ e2] at h1 h2 h3 h4 ⊢
    exact ho.inj r1 r2 bQ h1 h2 h3 h4
theorem eC {X:Ctx} {μ:Mu} (ho:aP X μ) (r:Nat) {es es':List V} {ob ob':Go.Obj} (aZ: (μ.O r).es=some es) (eB: (μ.O r).fz=false) (bM: (μ.O r).sz=0)
  (hb:μ.w.heap[(μ.φ r).bB]? =some ob) (gX: (μ.φ r).cap≠0) (yS:lI X μ ob es) (PH:lI X μ ob' es'):
  let μ':Mu:=⟨{μ.w with heap:=μ.w.heap.set! (μ.φ r).bB ob'},μ.φ,cC μ.O r {μ.O r with es:=some es'}⟩
  Le μ μ'∧aP X μ':=by
 intro μ'
 have bz: (μ.φ r).bB<μ.w.heap.size:=(Zu.1 hb).1
 have iO:μ'.w.heap[(μ.φ r).bB]? =some ob':=by simp[μ',aas,bz]
 have ph: ∀b,b≠(μ.φ r).bB→μ'.w.heap[b]? =μ.w.heap[b]? :=fun b bQ=>by simp[μ',aas,Ne.symm bQ]
 have jY:μ'.w.heap.size=μ.w.heap.size:=by simp[μ']
 have fN:μ.own (μ.φ r).bB:=⟨r,by simp[aZ],eB,gX,rfl⟩
 have ow: ∀x,(μ'.O x).gen=(μ.O x).gen∧(μ'.O x).sz=(μ.O x).sz∧(μ'.O x).fz=(μ.O x).fz∧(μ'.O x).es.isSome=(μ.O x).es.isSome:=fun x=>by
  by_cases e:x=r
  ·subst e;simp[μ',an,aZ]
  ·simp[μ',aG _ _ e]
 have BW: ∀b,μ'.own b→μ.own b:=by
  rintro b ⟨r',h1,h2,h3,h4⟩
  rw[(ow r').2.2.2] at h1
  rw[(ow r').2.2.1] at h2
  exact⟨r',h1,h2,h3,h4⟩
 have le:Le μ μ':=by
  refine⟨Zl,fun b js ig=> ⟨ph b (fun e=>ig (e ▸ fN)),fun h=>ig (BW b h)⟩,fun r'=>by rw[(ow r').1];exact Zy _,fun r' _=> ⟨rfl,(ow r').2.1⟩,rfl,rfl,rfl,fun a ha=> ?_⟩
  by_cases e:a.block=(μ.φ r).bB
  ·rw[PH.live a μ'.w (by rw[e];exact iO),yS.live a μ.w (by rw[e];exact hb)]
  ·simp only[World.frozen?,ph _ e]
 refine⟨le,fun r' ND pj=> ?_,fun r1 r2 bQ h1 h2 h3 h4=> ?_,fun r' h1 h2 hb=> ?_,fun b hb=>ZC (ho.blt b hb) le.size⟩
 ·by_cases e:r'=r
  ·subst e
   simp only[μ',an] at pj
   injection pj with pj
   subst pj
   refine .inr ?_
   unfold qx
   rw[(ow r').2.1]
   exact⟨bM,gX,ob',iO,PH.mono le⟩
  ·have hO:μ'.O r'=μ.O r':=by simp[μ',aG _ _ e]
   rw[hO] at pj
   exact ez.bR le (ho.ok r' ND pj) (by rw[hO]) rfl fun TA=>ph _ (ho.inj r' r e (by simp[pj]) (by simp[aZ]) TA gX)
 ·rw[(ow r1).2.2.2] at h1
  rw[(ow r2).2.2.2] at h2
  exact ho.inj r1 r2 bQ h1 h2 h3 h4
 ·rw[(ow r').2.2.2] at h1
  exact ho.qY r' h1 h2 hb
end Go.AM
namespace Go.AM
open Go Go.RowKit
structure Rel (X:Ctx) (T:Nat→V) (a:Go.Act) (μ:Mu):Prop where
 tmps: ∀t,aj X μ (T t) (a.tmps.getD t undef)
 aS:aP X μ
def cg (X:Ctx) (o:Oper) (a:Go.Act) (μ:Mu) (O':Nat→Obj) (v:V):Prop:=
 ∃val w' φ',((execOp a.eval o).run X.P μ.w= .ok (.value val) w'∨((execOp a.eval o).run X.P μ.w= .ok .skip w'∧val=undef))∧
  aj X ⟨w',φ',O'⟩ v val∧Le μ ⟨w',φ',O'⟩∧aP X ⟨w',φ',O'⟩
theorem aB {X:Ctx} {o:Oper} {a:Go.Act} {μ:Mu} {v:V} {val:Value} (ho:aP X μ) (ag: (execOp a.eval o).run X.P μ.w= .ok (.value val) μ.w)
  (hv:aj X μ v val):cg X o a μ μ.O v:=
 ⟨val,μ.w,μ.φ,.inl ag,hv,Le.refl μ,ho⟩
theorem cH {P:Program} {s:Sem Value} {w w':World} {val:Value} (h:s.run P w= .ok val w'): (do pure (Next.value (←s)):Sem Next).run P w= .ok (.value val) w':=by
 simp[Sem.run_bind,h]
theorem uM {P:Program} {s:Sem Unit} {w w':World} (h:s.run P w= .ok () w'): (do s;pure Next.skip:Sem Next).run P w= .ok .skip w':=by
 simp[Sem.run_bind,h]
theorem aU (C:aQ) (x:aD) (k:V→Act) (σ:St): (ev x k).run C σ=(k (aT σ x)).run C σ:=by cases x<;>rfl
theorem lL (C:aQ): ∀ (xs:List aD) (k:List V→Act) (σ:St),(yM xs k).run C σ=(k (xs.map (aT σ))).run C σ
 | [],_,_=>rfl
 | x::xs,k,σ=>by simp only[yM,aU,lL C xs,List.map_cons]
theorem JI (C:aQ) (x:Option aD) (k:Option V→Act) (σ:St): (Fo x k).run C σ=(k (x.map (aT σ))).run C σ:=by
 cases x with
 | none=>rfl
 | some x=>exact aU C x _ σ
theorem dV {C:aQ} {r:Option V} {σ σ':St} {v:V} (h: (dq r).run C σ=some (v,σ')):r=some v∧σ'=σ:=by
 cases r with
 | none=>simp[dq,Act.run] at h
 | some u=>simp only[dq,Act.run,Zr,Zw] at h;exact⟨by rw[h.1],h.2.symm⟩
theorem aI {C:aQ} {u v:V} {σ σ':St} (h: (Act.done u).run C σ=some (v,σ')):u=v∧σ'=σ:=by
 simp only[Act.run,Zr,Zw] at h;exact⟨h.1,h.2.symm⟩
theorem ak {C:aQ} {p:V×St} {σ:St}: (Act.fail).run C σ≠some p:=by simp[Act.run]
theorem ox {X:Ctx} {μ:Mu} {v:Value} {c:V} (h:nF v=some c):aj X μ c v∧c.aF=true:=by
 unfold nF at h
 split at h<;>first
  | (injection h with h;subst h;simp[aj,V.aF,V.al])
  | simp at h
theorem mM {X:Ctx} {μ:Mu}: ∀ {vs:List Value} {cs:List V},jt vs=some cs→ah X μ cs vs∧cs.all V.aF=true
 | [],cs,h=>by simp[jt] at h;subst h;simp[ah]
 | v::vs,cs,h=>by
   simp only[jt] at h
   split at h
   ·rename_i c b6 h1 h2
    injection h with h;subst h
    obtain⟨a1,a2⟩:=ox (X:=X) (μ:=μ) h1
    obtain⟨b1,b2⟩:=mM (X:=X) (μ:=μ) h2
    simp[ah,a1,a2,b1,b2]
   ·simp at h
theorem dL {X:Ctx} {μ:Mu} {v:Value} {c:V} (h:uF v=some c):aj X μ c v∧c.cq=true:=by
 unfold uF at h
 split at h
 ·rename_i cs
  simp only[Zq] at h
  obtain⟨l,h1,rfl⟩:=h
  obtain⟨a1,a2⟩:=mM (X:=X) (μ:=μ) h1
  simp[aj,V.cq,V.isAgg,a1,a2]
 ·obtain⟨a1,a2⟩:=ox (X:=X) (μ:=μ) h
  exact⟨a1,by simp[V.cq,a2]⟩
theorem aC {X:Ctx} {μ:Mu} {T:Nat→V} {a:Go.Act} {x:Operand} {y:aD} (hr:Rel X T a μ) (h:ct X x=some y) (O:Nat→Obj):aj X μ (aT ⟨T,O⟩ y) (a.eval x):=by
 cases x with
 | tmp t=>simp[ct] at h;subst h;exact hr.tmps t
 | const v=>
   simp only[ct,Zq] at h
   obtain⟨c,h1,rfl⟩:=h
   exact(dL h1).1
 | global g=>simp[ct] at h
 | func f=>
   simp only[ct,Zq] at h
   obtain⟨n,h1,rfl⟩:=h
   simp only[aT,Go.Act.eval,aj]
   exact⟨f,#[],rfl,h1,by simp[ah]⟩
theorem kL {X:Ctx} {μ:Mu} {T:Nat→V} {a:Go.Act} (hr:Rel X T a μ) (O:Nat→Obj): ∀ {xs:List Operand} {ys:List aD},kK X xs=some ys→
   ah X μ (ys.map (aT ⟨T,O⟩)) (xs.map a.eval)
 | [],ys,h=>by simp[kK] at h;subst h;simp[ah]
 | x::xs,ys,h=>by
   simp only[kK] at h
   split at h
   ·rename_i b bs h1 h2
    injection h with h;subst h
    simp only[List.map_cons,ah]
    exact⟨aC hr h1 O,kL hr O h2⟩
   ·simp at h
theorem yf {X:Ctx} {μ:Mu} {e u:V} {x:Value} {off sz:Nat} (h:aj X μ e x) (hp:part true off sz e=some u):
  ∃cs,x= .agg cs∧off+sz≤cs.size∧aj X μ u (.agg (cs.extract off (off+sz))):=by
 cases e<;>simp[part] at hp
 rename_i cs
 obtain⟨h1,h2⟩:=hp
 subst h2
 simp only[aj] at h
 obtain⟨h0,vs,rfl,hv⟩:=h
 have hl:=hv.length
 simp at hl
 refine⟨vs,rfl,Zl,?_⟩
 simp only[aj]
 refine⟨?_,_,rfl,?_⟩
 ·simp only[Zx] at h0 ⊢
  intro c hc
  exact h0 c (Z5 (ZU hc))
 ·have:=ah.take sz (ah.drop off hv)
  simpa [aaE,aan] using this
theorem vG {X:Ctx} {μ:Mu} {e u:V} {x:Value} {off sz:Nat} (h:aj X μ e x) (hp:part false off sz e=some u):
  e.cq=true∧ ∃c,x.cells[off]? =some c∧aj X μ u c:=by
 by_cases ha: ∃cs,e= .agg cs
 ·obtain⟨cs,rfl⟩:=ha
  simp only[part] at hp
  simp only[aj] at h
  obtain⟨h0,vs,rfl,hv⟩:=h
  obtain⟨c,h1,h2⟩:=hv.get hp
  exact⟨by simp[V.cq,V.isAgg],c,by simpa [Value.cells] using h1,h2⟩
 ·have:part false off sz e=if e.aF∧off=0 then some e else none:=by
   cases e<;>first| rfl| exact absurd ⟨_,rfl⟩ ha
  rw[this] at hp
  split at hp
  ·rename_i hc
   injection hp with hp;subst hp
   refine⟨by simp[V.cq,hc.1],x,?_,h⟩
   rw[(h.lJ hc.1).2,hc.2];simp
  ·simp at hp
section
variable {X:Ctx} {h:Hints} {dst:Nat} {E:Env} {C:aQ} {o:Oper} {a:Go.Act} {T:Nat→V} {μ:Mu} {v:V} {σ':St}
theorem ah.xz {X:Ctx} {μ:Mu}: ∀ (ks:List Nat) {cs:List V} {vs:List Value},ah X μ cs vs→ah X μ (AM.xz ks cs) vs
 | [],cs,vs,h=>by simpa [AM.xz] using h
 | k::ks,[],vs,h=>by simpa [AM.xz] using h
 | k::ks,c::cs,[],h=>by simp[ah] at h
 | k::ks,c::cs,v::vs,h=>by
   simp only[ah] at h
   simp only[AM.xz,ah]
   refine⟨?_,ah.xz ks h.2⟩
   split
   ·obtain⟨a,rfl⟩:=by simpa [aj] using h.1
    simp only[aj]
    exact⟨rfl,rfl,a,0,[],rfl,Zy _,by simp[ah],.inl trivial⟩
   ·exact h.1
theorem pk: ∀ (ks:List Nat) {cs:List V},cs.all V.aF=true→(AM.xz ks cs).all V.aF=true
 | [],cs,h=>by simpa [AM.xz] using h
 | k::ks,[],h=>by simp[AM.xz]
 | k::ks,c::cs,h=>by
   simp only[aad,Zt] at h
   simp only[AM.xz,aad,Zt]
   refine⟨?_,pk ks h.2⟩
   split
   ·rfl
   ·exact h.1
theorem aj.A0 {X:Ctx} {μ:Mu} (ks:List Nat) {v:V} {val:Value} (h:aj X μ v val):aj X μ (AM.A0 ks v) val:=by
 unfold AM.A0
 split
 ·simp only[aj] at h ⊢
  obtain⟨h1,vs,rfl,h2⟩:=h
  exact⟨pk ks h1,vs,rfl,h2.xz ks⟩
 ·split
  ·obtain⟨a,rfl⟩:=by simpa [aj] using h
   simp only[aj]
   exact⟨rfl,rfl,a,0,[],rfl,Zy _,by simp[ah],.inl trivial⟩
  ·exact h
 ·exact h
theorem aj.KG {X:Ctx} {μ:Mu} (ks:List Nat) {σ:St} {y:aD} {val:Value} (h:aj X μ (aT σ y) val):aj X μ (aT σ (AM.KG ks y)) val:=by
 cases y with
 | tmp t=>exact h
 | const v=>exact aj.A0 ks h
theorem Mc {x:Operand} {y:aD} (ks:List Nat) (hr:Rel X T a μ) (ho:o.op= .move x∨o.op= .assign x) (ht:ct X x=some y) (ag: (av E (.move (KG ks y))).run C ⟨T,μ.O⟩=some (v,σ')):
  σ'.T=T∧cg X o a μ σ'.O v:=by
 simp only[av,aU] at ag
 obtain⟨rfl,rfl⟩:=aI ag
 refine⟨rfl,aB hr.aS ?_ (aj.KG ks (aC hr ht _))⟩
 rcases ho with ho| ho<;>simp[execOp,ho]
theorem KJ {h:Hints} {dst:Nat} {x:Operand} {nV:qS} (hr:Rel X T a μ) (ho:o.op= .move x∨o.op= .assign x) (ht:uG X h dst x=some nV) (ag: (av E nV).run C ⟨T,μ.O⟩=some (v,σ')):
  σ'.T=T∧cg X o a μ σ'.O v:=by
 unfold uG at ht
 split at ht
 ·rename_i r sz hn hb
  injection ht with ht;subst ht
  simp only[av] at ag
  split at ag
  ·rename_i bM
   simp only[Act.run,Zr,Zw] at ag
   obtain⟨rfl,rfl⟩:=ag
   have hx:x= .const (.slice none 0 0):=by
    unfold isNil at hn
    split at hn
    ·rfl
    ·simp at hn
   subst hx
   obtain⟨le,qT⟩:=ED hr.aS r sz bM
   refine⟨rfl,.slice none 0 0,μ.w,cC μ.φ r ⟨0,0,0⟩,.inl ?_,?_,le,qT⟩
   ·rcases ho with ho| ho<;>simp[execOp,ho,Go.Act.eval]
   ·simp only[aj,an]
    exact⟨_,0,rfl,Zy _,Zy _,fun _=> ⟨bM,rfl,.inl rfl⟩⟩
  ·exact absurd ag ak
 ·split at ht
  ·rename_i r YZ
   simp only[Zq] at ht
   obtain⟨y,h1,rfl⟩:=ht
   simp only[av,aU] at ag
   have aV:=aC hr h1 μ.O
   have fZ: (execOp a.eval o).run X.P μ.w= .ok (.value (a.eval x)) μ.w:=by rcases ho with ho| ho<;>simp[execOp,ho]
   split at ag
   ·rename_i r1 g off len he
    rw[he] at aV
    split at ag
    ·obtain⟨rfl,rfl⟩:=aI ag
     exact⟨rfl,aB hr.aS fZ aV⟩
    ·rename_i bQ
     simp only[Act.run] at ag
     split at ag
     ·rename_i hg
      simp only[Act.run,Zr,Zw] at ag
      obtain⟨rfl,rfl⟩:=ag
      obtain⟨le,qT⟩:=JH hr.aS (r:=r) (r1:=r1) bQ
      refine⟨rfl,a.eval x,μ.w,cC μ.φ r (μ.φ r1),.inl fZ,?_,le,qT⟩
      simp only[aj] at aV ⊢
      obtain⟨ad,cap,k1,k2,k3,k4⟩:=aV
      obtain⟨k5,k6⟩:=k4 hg
      have uK:r≠r1:=fun e=>bQ e.symm
      simp only[aG _ _ uK,an]
      exact⟨ad,cap,k1,k2,Zy _,fun _=> ⟨k5,k6⟩⟩
     ·simp[Act.run] at ag
   ·obtain⟨rfl,rfl⟩:=aI ag
    exact⟨rfl,aB hr.aS fZ aV⟩
  ·simp only[Zq] at ht
   obtain⟨y,h1,rfl⟩:=ht
   exact Mc _ hr ho h1 ag
theorem JJ {c p q:Operand} {c' p' q':aD} (hr:Rel X T a μ) (ho:o.op= .pick c p q) (h1:ct X c=some c') (h2:ct X p=some p') (h3:ct X q=some q')
  (ag: (av E (.pick c' p' q')).run C ⟨T,μ.O⟩=some (v,σ')):σ'.T=T∧cg X o a μ σ'.O v:=by
 simp only[av,aU] at ag
 have hc:=aC hr h1 μ.O
 split at ag
 ·rename_i e
  rw[e] at hc
  simp only[aj] at hc
  rw[aU] at ag
  obtain⟨rfl,rfl⟩:=aI ag
  refine⟨rfl,aB hr.aS ?_ (aC hr h2 _)⟩
  simp[execOp,ho,hc,asBool,Sem.run_bind]
 ·rename_i e
  rw[e] at hc
  simp only[aj] at hc
  rw[aU] at ag
  obtain⟨rfl,rfl⟩:=aI ag
  refine⟨rfl,aB hr.aS ?_ (aC hr h3 _)⟩
  simp[execOp,ho,hc,asBool,Sem.run_bind]
 ·exact absurd ag ak
theorem Ac {x:Operand} {y:aD} (hr:Rel X T a μ) (ho:o.op= .nilCheck x) (ht:ct X x=some y) (ag: (av E (.nilCheck y)).run C ⟨T,μ.O⟩=some (v,σ')):
  σ'.T=T∧cg X o a μ σ'.O v:=by
 simp only[av,aU] at ag
 have hx:=aC hr ht μ.O
 split at ag
 ·rename_i e
  obtain⟨rfl,rfl⟩:=aI ag
  refine⟨rfl,aB hr.aS ?_ (e ▸ hx)⟩
  rw[e] at hx
  simp only[aj] at hx
  obtain⟨p,hp,_⟩:=hx
  simp[execOp,ho,hp]
 ·rename_i e
  obtain⟨rfl,rfl⟩:=aI ag
  refine⟨rfl,aB hr.aS ?_ (e ▸ hx)⟩
  rw[e] at hx
  simp only[aj] at hx
  obtain⟨_,_,b,o',sz,q,hp,_⟩:=hx
  simp[execOp,ho,hp]
 ·rename_i e
  obtain⟨rfl,rfl⟩:=aI ag
  refine⟨rfl,aB hr.aS ?_ (e ▸ hx)⟩
  rw[e] at hx
  simp only[aj] at hx
  obtain⟨_,_,q,hp,_⟩:=hx
  simp[execOp,ho,hp]
 ·rename_i e
  obtain⟨rfl,rfl⟩:=aI ag
  refine⟨rfl,aB hr.aS ?_ (e ▸ hx)⟩
  rw[e] at hx
  simp only[aj] at hx
  obtain⟨F,cv,hp,_⟩:=hx
  simp[execOp,ho,hp]
 ·rename_i e
  obtain⟨rfl,rfl⟩:=aI ag
  refine⟨rfl,aB hr.aS ?_ (e ▸ hx)⟩
  rw[e] at hx
  simp only[aj] at hx
  obtain⟨F,cv,hp,_⟩:=hx
  simp[execOp,ho,hp]
 ·exact absurd ag ak
theorem yg {s:TypeId} {x:Operand} {i:Nat} {y:aD} {fs:Array Field} {f:Field} {n:Nat} (hr:Rel X T a μ) (ho:o.op= .fieldAddr s x i) (ht:ct X x=some y)
  (hd:bd X s=some (.struct fs)) (hf:fs[i]? =some f) (hn:bj X f.type=some (n+1)) (ag: (av E (.fieldAddr f.offset y)).run C ⟨T,μ.O⟩=some (v,σ')):
  σ'.T=T∧cg X o a μ σ'.O v:=by
 simp only[av,aU] at ag
 have hx:=aC hr ht μ.O
 have hi: ∃inf,X.P.info? f.type=some inf∧inf.size=n+1:=by
  simpa [bj,info] using hn
 obtain⟨inf,pG,Ci⟩:=hi
 have bM:X.P.cellsOf f.type=n+1:=by simp[Program.cellsOf,pG,Ci]
 have key: ∀p:Addr,a.eval x= .pointer (some p)→(execOp a.eval o).run X.P μ.w= .ok (.value (.pointer (some (p.add f.offset)))) μ.w:=fun p hp=>by
  simp only[execOp,ho]
  refine cH ?_
  simp[Instr.fieldAt,Sem.run_bind,run_underlying hd,hf,Instr.sureAddr,hp,fieldPlace,run_sizeOf (w:=μ.w) pG,bM]
 have rB: ∀ (b q:Nat),(⟨b,q,none⟩:Addr).add f.offset=⟨b,q+f.offset,none⟩:=fun b q=>by unfold Addr.add;split<;>simp_all
 split at ag
 ·rename_i e
  obtain⟨rfl,rfl⟩:=aI ag
  rw[e] at hx
  simp only[aj] at hx
  obtain⟨p,hp,h1,h2⟩:=hx
  refine⟨rfl,aB hr.aS (key p hp) ?_⟩
  simp only[aj]
  refine⟨_,rfl,h1,fun eg=> ⟨(h2 eg).1,?_⟩⟩
  rw[(h2 eg).2,rB];simp[aaJ]
 ·rename_i e
  obtain⟨rfl,rfl⟩:=aI ag
  rw[e] at hx
  simp only[aj] at hx
  obtain⟨h0,jJ,b,o',sz,q,hp,h1,h2,h3,h4⟩:=hx
  refine⟨rfl,aB hr.aS (key _ hp) ?_⟩
  simp only[aj]
  exact⟨h0,jJ,b,o',sz,q,by rw[rB];simp[aaJ],h1,h2,h3,h4⟩
 ·rename_i e
  obtain⟨rfl,rfl⟩:=aI ag
  rw[e] at hx
  simp only[aj] at hx
  obtain⟨h0,jJ,q,hp,h1,h2,h3,h4⟩:=hx
  refine⟨rfl,aB hr.aS (key _ hp) ?_⟩
  simp only[aj]
  exact⟨h0,jJ,q,by rw[rB];simp[aaJ],h1,h2,h3,h4⟩
 ·exact absurd ag ak
theorem Cj {x:Operand} {i:Nat} {y:aD} (hr:Rel X T a μ) (ho:o.op= .extract x i) (ht:ct X x=some y) (ag: (av E (.extract y i)).run C ⟨T,μ.O⟩=some (v,σ')):
  σ'.T=T∧cg X o a μ σ'.O v:=by
 simp only[av,aU] at ag
 have hx:=aC hr ht μ.O
 split at ag
 ·rename_i vs e
  obtain⟨h1,rfl⟩:=dV ag
  rw[e] at hx
  simp only[aj] at hx
  obtain⟨us,hu,hv⟩:=hx
  obtain⟨c,h2,h3⟩:=hv.get h1
  refine⟨rfl,aB hr.aS ?_ h3⟩
  simp only[execOp,ho]
  refine cH ?_
  have BE:us[i]? =some c:=by simpa using h2
  simp[Instr.extract,hu,BE]
 ·exact absurd ag ak
theorem Ad {f:FuncId} {first caps:Array Operand} {n:Nat} {cs:List aD} (hr:Rel X T a μ) (ho:o.op= .makeFunc (.func f) first caps) (PI:first.isEmpty=true)
  (hn:X.eT f=some n) (ht:kK X caps.toList=some cs) (ag: (av E (.ub n cs)).run C ⟨T,μ.O⟩=some (v,σ')):σ'.T=T∧cg X o a μ σ'.O v:=by
 simp only[av,lL] at ag
 obtain⟨rfl,rfl⟩:=aI ag
 have hx:=kL hr μ.O ht
 obtain rfl:first= #[]:=by simpa using PI
 refine⟨rfl,aB (val:= .func (.func f) #[] (caps.map a.eval)) hr.aS ?_ ?_⟩
 ·simp[execOp,ho,Instr.makeFunc,Sem.run_bind]
 ·simp only[aj]
  exact⟨f,_,rfl,hn,by simpa using hx⟩
theorem Ae {X:Ctx} {μ:Mu} {a:Go.Act} (σ:St): ∀ (xs:List Operand),ah X μ ((xs.map fun _=>aD.const .any).map (aT σ)) (xs.map a.eval)
 | []=>by simp[ah]
 | x::xs=>by
   simp only[List.map_cons,ah]
   exact⟨by simp[aT,aj],Ae σ xs⟩
theorem yh {f:FuncId} {first caps:Array Operand} {n:Nat} {cs:List aD} {k:Bool} (hr:Rel X T a μ) (ho:o.op= .makeFunc (.func f) first caps) (PI:caps.isEmpty=true)
  (hn:X.eT f=some n) (ht: (if k=true then some (first.toList.map fun _=>aD.const .any) else kK X first.toList)=some cs) (ag: (av E (.pW n cs)).run C ⟨T,μ.O⟩=some (v,σ')):σ'.T=T∧cg X o a μ σ'.O v:=by
 simp only[av,lL] at ag
 obtain⟨rfl,rfl⟩:=aI ag
 have hx:ah X μ (cs.map (aT ⟨T,μ.O⟩)) (first.toList.map a.eval):=by
  split at ht
  ·injection ht with ht;subst ht
   exact Ae _ _
  ·exact kL hr μ.O ht
 obtain rfl:caps= #[]:=by simpa using PI
 refine⟨rfl,aB (val:= .func (.func f) (first.map a.eval) #[]) hr.aS ?_ ?_⟩
 ·simp[execOp,ho,Instr.makeFunc,Sem.run_bind]
 ·simp only[aj]
  exact⟨f,_,rfl,hn,by simpa using hx⟩
end
end Go.AM
namespace Go.AM
open Go Go.RowKit
theorem nH {X:Ctx} {t:TypeId} {g:Bool} (hg:eu X t=some g) (w:World): (isAgg t).run X.P w= .ok g w:=by
 simp only[eu,bd,Zq] at hg
 obtain⟨d,Xl,hg⟩:=hg
 simp only[isAgg,Sem.run_bind,run_underlying Xl,Result.andThen_ok]
 subst hg
 cases d<;>rfl
theorem dx {X:Ctx} {t:TypeId} {sz:Nat} (hn:bj X t=some sz) (w:World): (sizeOf t).run X.P w= .ok sz w:=by
 obtain⟨inf,pG,Ci⟩: ∃inf,X.P.info? t=some inf∧inf.size=sz:=by simpa [bj,info] using hn
 have bM:X.P.cellsOf t=sz:=by simp[Program.cellsOf,pG,Ci]
 rw[run_sizeOf (w:=w) pG,bM]
theorem qy {X:Ctx} {t:TypeId} {sz:Nat} (hg:eu X t=some true) (hn:bj X t=some sz) (cs:Array Value) (off:Nat) (w:World):
  (Go.part t cs off).run X.P w= .ok (.agg (cs.extract off (off+sz))) w:=by
 simp[Go.part,Sem.run_bind,nH hg,dx hn]
theorem dY {X:Ctx} {t:TypeId} (hg:eu X t=some false) (cs:Array Value) (off:Nat) (c:Value) (hc:cs[off]? =some c) (w:World):
  (Go.part t cs off).run X.P w= .ok c w:=by
 simp[Go.part,Sem.run_bind,nH hg,hc]
theorem pn: ∀ (ks:List Nat) {qU:List Nat} {cs ds:List V} {b:Bool},cu (ks++qU) cs ds=some b→
   ∃b1 b2,cu ks (cs.take ks.length) (ds.take ks.length)=some b1∧cu qU (cs.drop ks.length) (ds.drop ks.length)=some b2∧b=(b1 &&b2)
 | [],qU,cs,ds,b,h=> ⟨true,b,by simp[cu],by simpa using h,Zm⟩
 | k::ks,qU,[],_,b,h=>by simp[cu] at h
 | k::ks,qU,_::_,[],b,h=>by simp[cu] at h
 | k::ks,qU,c::cs,d::ds,b,h=>by
   simp only[Z2,cu] at h
   split at h
   ·rename_i x y hx hy
    injection h with h;subst h
    obtain⟨b1,b2,h1,h2,h3⟩:=pn ks hy
    refine⟨x &&b1,b2,?_,by simpa using h2,by rw[h3,Bool.and_assoc]⟩
    simp[cu,hx,h1]
   ·simp at h
theorem mN: ∀ {ks:List Nat} {cs ds:List V} {b:Bool},cu ks cs ds=some b→cs.length=ks.length∧ds.length=ks.length
 | [],[],[],_,_=> ⟨rfl,rfl⟩
 | [],[],_::_,_,h=>by simp[cu] at h
 | [],_::_,_,_,h=>by simp[cu] at h
 | _::_,[],_,_,h=>by simp[cu] at h
 | _::_,_::_,[],_,h=>by simp[cu] at h
 | k::ks,c::cs,d::ds,b,h=>by
   simp only[cu] at h
   split at h
   ·rename_i x y hx hy
    obtain⟨h1,h2⟩:=mN hy
    simp[h1,h2]
   ·simp at h
theorem JK {X:Ctx} {μ:Mu} {t:TypeId} {m k:Nat} {c e:V} {x y:Value} {b:Bool} {D:TypeDesc} (hd:bd X t=some D)
  (hk: (k=0∧D= .bool)∨(k=1∧ ∃q,D= .int q)∨(k=2∧D= .string))
  (hc:aj X μ c x) (he:aj X μ e y) (hb:Fs k c e=some b) (w:World): (Op.equalIn (m+1) t x y).run X.P w= .ok b w:=by
 unfold Fs at hb
 split at hb
 ·injection hb with hb;subst hb
  simp only[aj] at hc he
  subst hc;subst he
  rcases hk with⟨_,rfl⟩ | ⟨h,_⟩ | ⟨h,_⟩
  ·exact run_equalIn_bool' w m t _ _ hd
  ·cases h
  ·cases h
 ·split at hb
  ·injection hb with hb;subst hb
   simp only[aj] at hc he
   subst hc;subst he
   rename_i PJ
   subst PJ
   rcases hk with⟨h,_⟩ | ⟨_,q,rfl⟩ | ⟨h,_⟩
   ·cases h
   ·exact run_equalIn_int w m t _ _ _ _ hd
   ·cases h
  ·simp at hb
 ·injection hb with hb;subst hb
  simp only[aj] at hc he
  obtain⟨p,rfl,hp⟩:=hc
  obtain⟨q,rfl,hq⟩:=he
  rcases hk with⟨h,_⟩ | ⟨h,_⟩ | ⟨_,rfl⟩
  ·cases h
  ·cases h
  ·rw[run_equalIn_string w m t _ _ hd]
   congr 1
   rw[ByteArray.toList_eq,ByteArray.toList_eq,hp,hq]
   rw[aaQ];simp
 ·simp at hb
theorem sG {X:Ctx} {μ:Mu} (w:World) {e:TypeId} {k m:Nat} (hg:eu X e=some false) (h1:X.P.cellsOf e=1)
   (ih: ∀c f x y b,aj X μ c x→aj X μ f y→Fs k c f=some b→(Op.equalIn m e x y).run X.P w= .ok b w):
   ∀ (n off:Nat) (cs ds:List V) (xs ys:List Value) (b:Bool),ah X μ cs xs→ah X μ ds ys→cu (List.replicate n k) (cs.drop off) (ds.drop off)=some b→
     (Op.eqItems m e (X.P.cellsOf e) xs.toArray ys.toArray (List.range' off n)).run X.P w= .ok b w
 | 0,off,cs,ds,xs,ys,b,hx,hy,hb=>by
   cases hc:cs.drop off<;>cases he:ds.drop off<;>rw[hc,he] at hb<;>simp[cu] at hb
   subst hb
   simp[Op.eqItems]
 | n+1,off,cs,ds,xs,ys,b,hx,hy,hb=>by
   rw[List.replicate_succ] at hb
   cases hc:cs.drop off with
   | nil=>rw[hc] at hb;simp[cu] at hb
   | cons c b6=>
     cases he:ds.drop off with
     | nil=>rw[hc,he] at hb;simp[cu] at hb
     | cons f KA=>
       rw[hc,he] at hb
       simp only[cu] at hb
       split at hb
       ·rename_i p q hp hq
        injection hb with hb;subst hb
        have gc:cs[off]? =some c:=by
         have:=congrArg (fun l=>l[0]?) hc
         simpa using this
        have gf:ds[off]? =some f:=by
         have:=congrArg (fun l=>l[0]?) he
         simpa using this
        obtain⟨x,gx,rx⟩:=hx.get gc
        obtain⟨y,gy,ry⟩:=hy.get gf
        have qd:cs.drop (off+1)=b6:=by
         have:=congrArg (List.drop 1) hc
         simpa [aaM] using this
        have TB:ds.drop (off+1)=KA:=by
         have:=congrArg (List.drop 1) he
         simpa [aaM] using this
        have rest:=sG w hg h1 ih n (off+1) cs ds xs ys q hx hy (by rw[qd,TB];exact hq)
        have px:xs.toArray[off*X.P.cellsOf e]? =some x:=by rw[h1];simpa using gx
        have py:ys.toArray[off*X.P.cellsOf e]? =some y:=by rw[h1];simpa using gy
        rw[List.range'_succ]
        simp only[Op.eqItems,Sem.run_bind,dY hg _ _ _ px,dY hg _ _ _ py,Result.andThen_ok,ih c f x y p rx ry hp]
        cases p
        ·simp
        ·simpa using rest
       ·simp at hb
theorem Hk {  X:Ctx} {μ:Mu} (w:World): ∀d:Nat,
   (∀t ks cs ds xs ys b m,ew X d t=some ks→d≤m→ah X μ cs xs→ah X μ ds ys→cu ks cs ds=some b→
     bj X t=some ks.length∧((eu X t=some true∧(Op.equalIn m t (.agg xs.toArray) (.agg ys.toArray)).run X.P w= .ok b w)∨
       (eu X t=some false∧ks.length=1∧ ∃x y,xs=[x]∧ys=[y]∧(Op.equalIn m t x y).run X.P w= .ok b w)))∧
   (∀fs off ks cs ds xs ys b m,lH X d fs off=some ks→d≤m→ah X μ cs xs→ah X μ ds ys→cu ks (cs.drop off) (ds.drop off)=some b→
     (Op.eqFields m xs.toArray ys.toArray fs).run X.P w= .ok b w):=by
 intro d
 induction d with
 | zero=>exact⟨fun _ _ _ _ _ _ _ _ h=>by simp[ew] at h,fun _ _ _ _ _ _ _ _ _ h=>by simp[lH] at h⟩
 | succ d ih=>
   refine⟨fun t ks cs ds xs ys b m hk hm hx hy hb=> ?_,fun fs off ks cs ds xs ys b m hk hm hx hy hb=> ?_⟩
   · obtain⟨m,rfl⟩: ∃m',m=m'+1:=⟨m - 1,Zl⟩
     have scalar: ∀ (D:TypeDesc) (k:Nat),bd X t=some D→((k=0∧D= .bool)∨(k=1∧ ∃q,D= .int q)∨(k=2∧D= .string))→bj X t=some 1→ks=[k]→
         bj X t=some ks.length∧((eu X t=some true∧(Op.equalIn (m+1) t (.agg xs.toArray) (.agg ys.toArray)).run X.P w= .ok b w)∨
       (eu X t=some false∧ks.length=1∧ ∃x y,xs=[x]∧ys=[y]∧(Op.equalIn (m+1) t x y).run X.P w= .ok b w)):=by
       intro D k hd hD hs e
       subst e
       obtain⟨l1,l2⟩:=mN hb
       have lx:=hx.length
       have ly:=hy.length
       match cs,ds,xs,ys,l1,l2,lx,ly with
       | [c],[e],[x],[y],_,_,_,_=>
         simp only[ah,and_true] at hx hy
         simp only[cu,aaV] at hb
         have js:Fs k c e=some b:=by
           cases hq:Fs k c e<;>rw[hq] at hb<;>simp at hb;rw[hb]
         refine⟨by simpa using hs,.inr ⟨?_,rfl,x,y,rfl,rfl,JK hd hD hx hy js w⟩⟩
         simp only[eu,hd,ZE]
         rcases hD with⟨_,rfl⟩ | ⟨_,q,rfl⟩ | ⟨_,rfl⟩ <;>rfl
     simp only[ew] at hk
     split at hk
     · split at hk<;>simp at hk
       rename_i hd hs
       exact scalar _ 0 hd Zm hs hk.symm
     · split at hk<;>simp at hk
       rename_i hd hs
       exact scalar _ 1 hd Zm hs hk.symm
     · split at hk<;>simp at hk
       rename_i hd hs
       exact scalar _ 2 hd Zm hs hk.symm
     · rename_i fs hd
       split at hk
       · rename_i lX
         split at hk
         · rename_i qU Q5
           split at hk
           ·rename_i hs
            injection hk with hk;subst hk
            refine⟨hs,.inl ⟨by simp[eu,hd],?_⟩⟩
            have Fx:X.P.fieldsOf t=fs:=by
              have kH:X.P.underlying t=some (.struct fs):=hd
              simp[Program.fieldsOf,kH]
            rw[run_equalIn_struct w m t _ _ (by rw[Fx];exact hd) lX,Fx]
            exact ih.2 _ 0 _ cs ds xs ys b m Q5 Zl hx hy (by simpa using hb)
           ·simp at hk
         ·simp at hk
       ·simp at hk
     · rename_i n e hd
       split at hk
       · rename_i mf
         obtain⟨mf,bM⟩:=mf
         split at hk
         · rename_i k ou
           injection hk with hk;subst hk
           refine⟨by rw[aaR];exact bM,.inl ⟨by simp[eu,hd],?_⟩⟩
           have ij:bj X e=some 1:=by
            cases d with
            | zero=>simp[ew] at ou
            | succ d=>
              simp only[ew] at ou
              split at ou<;> (try (split at ou<;>simp at ou<;>assumption)) <;> (try (rename_i Fu;simp[eu,Fu] at mf)) <;>simp at ou
           obtain⟨inf,pG,Ci⟩: ∃inf,X.P.info? e=some inf∧inf.size=1:=by simpa [bj,info] using ij
           have rG:X.P.cellsOf e=1:=by simp[Program.cellsOf,pG,Ci]
           rw[run_equalIn_array w m _ _ hd pG,aar]
           refine sG w mf rG (fun c f x y b' rx ry js=> ?_) n 0 cs ds xs ys b hx hy (by simpa using hb)
           obtain⟨_,hq⟩:=ih.1 e [k] [c] [f] [x] [y] b' m ou Zl (by simp only[ah,and_true];exact rx) (by simp only[ah,and_true];exact ry) (by simp[cu,js])
           rcases hq with⟨hq,_⟩ | ⟨_,_,x',y',wb,yP,hq⟩
           ·rw[mf] at hq;cases hq
           ·obtain rfl:x=x':=by simpa using wb
            obtain rfl:y=y':=by simpa using yP
            exact hq
         ·simp at hk
       ·simp at hk
     ·simp at hk
   · obtain⟨m,rfl⟩: ∃m',m=m'+1:=⟨m - 1,Zl⟩
     cases fs with
     | nil=>
       simp only[lH,Zr] at hk
       subst hk
       cases hc:cs.drop off<;>cases he:ds.drop off<;>rw[hc,he] at hb<;>simp[cu] at hb
       subst hb
       simp[Op.eqFields]
     | cons f fs=>
       simp only[lH] at hk
       split at hk
       · rename_i hn
         split at hk
         · rename_i k1 uB
           split at hk
           ·rename_i k2 BK
            injection hk with hk;subst hk
            obtain⟨b1,b2,e1,e2,e3⟩:=pn k1 hb
            obtain⟨hs,ha⟩:=ih.1 f.type k1 _ _ _ _ b1 (m+1) uB Zl (ah.take k1.length (ah.drop off hx)) (ah.take k1.length (ah.drop off hy)) e1
            have uN:=ih.2 fs (off+k1.length) k2 cs ds xs ys b2 (m+1) BK Zl hx hy (by simpa [aaM] using e2)
            have Ck:=hn.2
            have head: (do let a ←Go.part f.type xs.toArray f.offset;let c ←Go.part f.type ys.toArray f.offset;Op.equalIn (m+1) f.type a c:Sem Bool).run X.P w= .ok b1 w:=by
              rcases ha with⟨hg,hq⟩ | ⟨hg,h1,x,y,Fy,Xm,hq⟩
              · simp only[Sem.run_bind,qy hg hs,Result.andThen_ok,Ck]
                rw[←hq]
                congr 3 <;> (apply Array.ext';simp[aaE,aan])
              · have gx:xs.toArray[f.offset]? =some x:=by
                 have:=congrArg (fun l=>l[0]?) Fy
                 simpa [Z7,h1,Ck] using this
                have gy:ys.toArray[f.offset]? =some y:=by
                 have:=congrArg (fun l=>l[0]?) Xm
                 simpa [Z7,h1,Ck] using this
                simp only[Sem.run_bind,dY hg _ _ _ gx,dY hg _ _ _ gy,Result.andThen_ok]
                exact hq
            simp only[Op.eqFields,Sem.run_ite,if_pos hn.1]
            simp only[Sem.run_bind] at head ⊢
            generalize (Go.part f.type xs.toArray f.offset).run X.P w=r1 at head ⊢
            cases r1 with
            | halt _ _=>simp[Result.andThen] at head
            | ok a1 w1=>
              simp only[Result.andThen_ok] at head ⊢
              generalize (Go.part f.type ys.toArray f.offset).run X.P w1=r2 at head ⊢
              cases r2 with
              | halt _ _=>simp[Result.andThen] at head
              | ok a2 w2=>
                simp only[Result.andThen_ok] at head ⊢
                rw[head]
                simp only[Result.andThen_ok,Sem.run_ite]
                subst e3
                cases b1
                ·simp
                ·simpa using uN
           ·simp at hk
         ·simp at hk
       ·simp at hk
end Go.AM
namespace Go.AM
open Go Go.RowKit
theorem Hl {X:Ctx} {μ:Mu} {T:Nat→V} {a:Go.Act} {x:Option Operand} {y:Option aD} (hr:Rel X T a μ) (h:vE X x=some y) (O:Nat→Obj):
   (x=none∧y=none)∨ ∃x' y',x=some x'∧y=some y'∧aj X μ (aT ⟨T,O⟩ y') (a.eval x'):=by
 cases x with
 | none=>simp[vE] at h;exact .inl ⟨rfl,h.symm⟩
 | some x=>
   simp only[vE,Zq] at h
   obtain⟨c,h1,rfl⟩:=h
   exact .inr ⟨x,c,rfl,rfl,aC hr h1 O⟩
section
variable {X:Ctx} {E:Env} {C:aQ} {o:Oper} {a:Go.Act} {T:Nat→V} {μ:Mu} {v:V} {σ':St}
theorem Hm {op:BinOp} {t:TypeId} {x y:V} {xv yv:Value} {u:V} (hx:aj X μ x xv) (hy:aj X μ y yv) (h:oU op x y=some u) (p q:Operand):
  ∃val,(do eqGuard op t p q xv yv;Go.binOp op t xv yv:Sem Value).run X.P μ.w= .ok val μ.w∧aj X μ u val:=by
 unfold oU at h
 split at h
 ·rename_i k n k' n'
  simp only[aj] at hx hy
  subst hx;subst hy
  have hg: (eqGuard op t p q (.int k n) (.int k' n')).run X.P μ.w= .ok () μ.w:=by
    cases op<;>simp[eqGuard]
  simp only[Sem.run_bind,hg,Result.andThen_ok]
  cases op with
  | shl=>
    simp only at h
    split at h<;>simp at h
    subst h
    rename_i hb
    exact⟨.int k (k.wrap (n*2 ^ min n'.toNat k.bits)),by simp[Go.binOp,Op.shift,hb],by simp[aj]⟩
  | shr=>
    simp only at h
    split at h<;>simp at h
    subst h
    rename_i hb
    exact⟨.int k (n.fdiv (2 ^ min n'.toNat k.bits)),by simp[Go.binOp,Op.shift,hb],by simp[aj]⟩
  | quo=>
    simp only at h
    split at h
    ·rename_i hk;subst hk
     split at h<;>simp at h
     subst h
     rename_i hb
     exact⟨.int k (k.wrap (n.tdiv n')),by simp[Go.binOp,Op.intDiv,hb],by simp[aj]⟩
    ·simp at h
  | rem=>
    simp only at h
    split at h
    ·rename_i hk;subst hk
     split at h<;>simp at h
     subst h
     rename_i hb
     exact⟨.int k (n.tmod n'),by simp[Go.binOp,Op.intDiv,hb],by simp[aj]⟩
    ·simp at h
  | _=>
    simp only at h
    split at h
    ·rename_i hk;subst hk
     simp only[jM,Bn,Zr] at h
     subst h
     exact⟨_,by simp[Go.binOp,Op.intArith,Op.intBits,Op.intCmp];rfl,by simp[aj]⟩
    ·simp at h
 ·rename_i s s'
  simp only[aj] at hx hy
  obtain⟨bs,rfl,rfl⟩:=hx
  obtain⟨cs,rfl,rfl⟩:=hy
  have hg: (eqGuard op t p q (.string bs) (.string cs)).run X.P μ.w= .ok () μ.w:=by
    cases op<;>simp[eqGuard]
  simp only[Sem.run_bind,hg,Result.andThen_ok]
  have he: (bs.toList==cs.toList)=decide (bs.data.toList=cs.data.toList):=by
    rw[ByteArray.toList_eq,ByteArray.toList_eq,aaQ];simp
  cases op with
  | add=>
    simp only at h
    split at h<;>simp at h
    subst h
    rename_i hl
    have kC: ¬ ((bs.size+cs.size:Nat):Int) >IntKind.i64.max:=by
     have hm:IntKind.i64.max=9223372036854775807:=Zn
     have h1:bs.data.toList.length=bs.size:=by rw[ZG];rfl
     have h2:cs.data.toList.length=cs.size:=by rw[ZG];rfl
     rw[hm];rw[h1,h2] at hl;omega
    refine⟨.string (bs++cs),by simp only[Go.binOp,Op.stringOp];rw[if_neg kC];rfl,?_⟩
    simp[aj,ByteArray.data_append]
  | _=>
    simp only[Zr,reduceCtorEq] at h
    try (subst h;refine⟨_,by simp only[Go.binOp,Op.stringOp];rfl,?_⟩;simp only[aj,he] <;>simp only[ByteArray.toList_eq])
 ·simp at h
theorem Cl {op:BinOp} {t t2:TypeId} {x y:Operand} {x' y':aD} (hr:Rel X T a μ) (ho:o.op= .binOp op t x y t2) (h1:ct X x=some x') (h2:ct X y=some y')
  (ag: (av E (.bin op x' y')).run C ⟨T,μ.O⟩=some (v,σ')):σ'.T=T∧cg X o a μ σ'.O v:=by
 simp only[av,aU] at ag
 obtain⟨hb,rfl⟩:=dV ag
 obtain⟨val,hv,aV⟩:=Hm (t:=t) (aC hr h1 μ.O) (aC hr h2 μ.O) hb x y
 refine⟨rfl,aB hr.aS ?_ aV⟩
 simp only[execOp,ho]
 exact cH hv
theorem Hn {op:BinOp} {t t2:TypeId} {x y:Operand} {x' y':aD} {ks:List Nat} (hr:Rel X T a μ) (ho:o.op= .binOp op t x y t2) (dm:op= .eql∨op= .neq)
  (hg:X.P.eqGuardType X.P.depth t=false) (hk:ew X 100 t=some ks) (Md:eu X t=some true)
  (h1:ct X x=some x') (h2:ct X y=some y') {neg:Bool} (hn:neg=sD op)
  (ag: (av E (.Nj neg ks x' y')).run C ⟨T,μ.O⟩=some (v,σ')):σ'.T=T∧cg X o a μ σ'.O v:=by
 simp only[av,aU] at ag
 have hx:=aC hr h1 μ.O
 have hy:=aC hr h2 μ.O
 split at ag
 ·rename_i p q e1 e2
  split at ag
  ·rename_i b hb
   obtain⟨rfl,rfl⟩:=aI ag
   rw[e1] at hx;rw[e2] at hy
   simp only[aj] at hx hy
   obtain⟨_,xs,CY,QL⟩:=hx
   obtain⟨_,ys,Xn,Xo⟩:=hy
   refine⟨rfl,aB (val:= .bool (b !=neg)) hr.aS ?_ (by simp[aj])⟩
   simp only[execOp,ho]
   refine cH ?_
   obtain⟨_,hh⟩:=(Hk (X:=X) (μ:=μ) μ.w 100).1 t ks p q _ _ b 10000 hk Zl QL Xo hb
   rcases hh with⟨_,hh⟩ | ⟨hh,_⟩
   ·have heq: (Op.equal t (.agg xs) (.agg ys)).run X.P μ.w= .ok b μ.w:=by simpa [Op.equal,Op.maxDepth] using hh
    have EG: (eqGuard op t x y (.agg xs) (.agg ys)).run X.P μ.w= .ok () μ.w:=run_eqGuard_agg μ.w op t x y xs ys hg
    rw[CY,Xn]
    rcases dm with rfl| rfl
    ·subst hn
     simp only[Sem.run_bind,EG,Result.andThen_ok,Go.binOp,heq,sD];simp
    ·subst hn
     simp only[Sem.run_bind,EG,Result.andThen_ok,Go.binOp,heq,sD];simp
   ·rw[Md] at hh;cases hh
  ·exact absurd ag ak
 ·exact absurd ag ak
theorem jv {P:Program} {w:World} (d:Nat) {t e:TypeId} (q:Option Addr) (hi:P.underlying t=some (.pointer e)):
  (Op.equalIn (d+1) t (.pointer none) (.pointer q)).run P w= .ok q.isNone w:=by
 simp[Op.equalIn,run_underlying hi]
theorem mO {P:Program} {w:World} (d:Nat) {t e:TypeId} (p:Addr) (hi:P.underlying t=some (.pointer e)):
  (Op.equalIn (d+1) t (.pointer (some p)) (.pointer none)).run P w= .ok false w:=by
 simp[Op.equalIn,run_underlying hi]
theorem uO {P:Program} {w:World} (d:Nat) {t e:TypeId} {inf:TypeInfo} {n:Nat} {b o o':Nat} (hi:P.underlying t=some (.pointer e)) (pG:P.info? e=some inf) (OS:P.cellsOf e=n+1):
  (Op.equalIn (d+1) t (.pointer (some ⟨b,o,none⟩)) (.pointer (some ⟨b,o',none⟩))).run P w= .ok (o==o') w:=by
 have hq: ((⟨b,o,none⟩:Addr)==⟨b,o',none⟩)=(o==o'):=by
  rw[aaQ]
  simp only[beq_iff_eq,Addr.mk.injEq,true_and,and_true]
 simp[Op.equalIn,run_underlying hi,Sem.run_bind,run_sizeOf (w:=w) pG,OS,sameAddr,hq]
theorem Me {op:BinOp} {t e t2:TypeId} {n:Nat} {x y:Operand} {x' y':aD} (hr:Rel X T a μ) (ho:o.op= .binOp op t x y t2) (dm:op= .eql∨op= .neq) (hd:bd X t=some (.pointer e)) (bM:bj X e=some (n+1))
  (h1:ct X x=some x') (h2:ct X y=some y') {neg:Bool} (hn:neg=sD op)
  (ag: (av E (.Lf neg x' y')).run C ⟨T,μ.O⟩=some (v,σ')):σ'.T=T∧cg X o a μ σ'.O v:=by
 simp only[av,aU] at ag
 have hx:=aC hr h1 μ.O
 have hy:=aC hr h2 μ.O
 obtain⟨hb,rfl⟩:=dV ag
 rw[Zq] at hb
 obtain⟨b,hb,rfl⟩:=hb
 have kH:X.P.underlying t=some (.pointer e):=hd
 obtain⟨inf,pG,Ci⟩: ∃inf,X.P.info? e=some inf∧inf.size=n+1:=by simpa [bj,info] using bM
 have OS:X.P.cellsOf e=n+1:=by simp[Program.cellsOf,pG,Ci]
 have key: ∃p q,a.eval x= .pointer p∧a.eval y= .pointer q∧(Op.equal t (.pointer p) (.pointer q)).run X.P μ.w= .ok b μ.w:=by
  unfold C5 at hb
  split at hb
  ·rename_i e1 e2
   rw[e1] at hx;rw[e2] at hy
   simp only[aj] at hx hy
   simp only[Zr] at hb;subst hb
   exact⟨_,_,hx,hy,jv 9999 none kH⟩
  ·rename_i e1 e2
   rw[e1] at hx;rw[e2] at hy
   simp only[aj] at hx hy
   simp only[Zr] at hb;subst hb
   obtain⟨_,_,_,_,_,_,hy,_⟩:=hy
   exact⟨_,_,hx,hy,jv 9999 _ kH⟩
  ·rename_i e1 e2
   rw[e1] at hx;rw[e2] at hy
   simp only[aj] at hx hy
   simp only[Zr] at hb;subst hb
   obtain⟨_,_,_,hy,_⟩:=hy
   exact⟨_,_,hx,hy,jv 9999 _ kH⟩
  ·rename_i e1 e2
   rw[e1] at hx;rw[e2] at hy
   simp only[aj] at hx hy
   simp only[Zr] at hb;subst hb
   obtain⟨_,_,_,_,_,_,hx,_⟩:=hx
   exact⟨_,_,hx,hy,mO 9999 _ kH⟩
  ·rename_i e1 e2
   rw[e1] at hx;rw[e2] at hy
   simp only[aj] at hx hy
   simp only[Zr] at hb;subst hb
   obtain⟨_,_,_,hx,_⟩:=hx
   exact⟨_,_,hx,hy,mO 9999 _ kH⟩
  ·rename_i i z e0 i' z' Y0 e1 e2
   rw[e1] at hx;rw[e2] at hy
   simp only[aj] at hx hy
   split at hb<;>simp only[Zr,reduceCtorEq] at hb
   rename_i hz
   obtain⟨rfl,JL⟩:=hz
   subst hb
   obtain⟨_,_,_,hx,_⟩:=hx
   obtain⟨_,_,_,hy,_⟩:=hy
   refine⟨_,_,hx,hy,?_⟩
   have hq: (X.tok.2+i*z+0==X.tok.2+i'*z+0)=(i==i'):=by
    rw[aaQ]
    simp only[beq_iff_eq]
    constructor
    ·intro h
     have:i*z=i'*z:=Zl
     exact Nat.eq_of_mul_eq_mul_right JL this
    ·rintro rfl;rfl
   exact(uO 9999 kH pG OS).trans (by rw[hq])
  ·simp at hb
 obtain⟨p,q,hp,hq,heq⟩:=key
 refine⟨rfl,aB (val:= .bool (b !=neg)) hr.aS ?_ (by simp[aj])⟩
 simp only[execOp,ho,hp,hq]
 refine cH ?_
 subst hn
 rcases dm with rfl| rfl<;>simp[eqGuard,Go.binOp,Sem.run_bind,heq,sD]
theorem PK {op:UnOp} {t:TypeId} {x:Operand} {x':aD} (hr:Rel X T a μ) (ho:o.op= .unOp op t x) (h1:ct X x=some x')
  (ag: (av E (.un op x')).run C ⟨T,μ.O⟩=some (v,σ')):σ'.T=T∧cg X o a μ σ'.O v:=by
 simp only[av,aU] at ag
 obtain⟨hb,rfl⟩:=dV ag
 have hx:=aC hr h1 μ.O
 have: ∃val,(Op.unary op (a.eval x)).run X.P μ.w= .ok val μ.w∧aj X μ v val:=by
  unfold Rs at hb
  split at hb
  ·rename_i k n e
   simp at hb;subst hb
   rw[e] at hx;simp only[aj] at hx
   exact⟨.int k (k.wrap (0 - n)),by simp[hx,Op.unary,Op.intArith],by simp[aj]⟩
  ·rename_i b e
   simp at hb;subst hb
   rw[e] at hx;simp only[aj] at hx
   exact⟨.bool (!b),by simp[hx,Op.unary],by simp[aj]⟩
  ·rename_i k n e
   simp only[jM,Zr] at hb;subst hb
   rw[e] at hx;simp only[aj] at hx
   exact⟨_,by simp[hx,Op.unary,Op.intBits];rfl,by simp[aj]⟩
  ·simp at hb
 obtain⟨val,h2,h3⟩:=this
 refine⟨rfl,aB hr.aS ?_ h3⟩
 simp only[execOp,ho]
 exact cH h2
theorem Cm {s d:TypeId} {x:Operand} {x':aD} {k k0:IntKind} (hr:Rel X T a μ) (ho:o.op= .convert s d x) (hs:bd X s=some (.int k0)) (hd:bd X d=some (.int k))
  (h1:ct X x=some x') (ag: (av E (.pS k x')).run C ⟨T,μ.O⟩=some (v,σ')):σ'.T=T∧cg X o a μ σ'.O v:=by
 simp only[av,aU] at ag
 have hx:=aC hr h1 μ.O
 split at ag
 ·rename_i k1 n1 e
  obtain⟨rfl,rfl⟩:=aI ag
  rw[e] at hx;simp only[aj] at hx
  refine⟨rfl,aB (val:= .int k (k.wrap n1)) hr.aS ?_ (by simp[aj])⟩
  simp only[execOp,ho]
  refine cH ?_
  simp[convert,Sem.run_bind,run_underlying hs,run_underlying hd,hx,Conv.intToInt]
 ·exact absurd ag ak
theorem EH {s d:TypeId} {x:Operand} {x':aD} {k0:IntKind} (hr:Rel X T a μ) (ho:o.op= .convert s d x) (hs:bd X s=some (.int k0)) (hd:bd X d=some (.float .f64))
  (h1:ct X x=some x') (ag: (av E (.tZ x')).run C ⟨T,μ.O⟩=some (v,σ')):σ'.T=T∧cg X o a μ σ'.O v:=by
 simp only[av,aU] at ag
 have hx:=aC hr h1 μ.O
 split at ag
 ·rename_i k1 n1 e
  obtain⟨rfl,rfl⟩:=aI ag
  rw[e] at hx;simp only[aj] at hx
  refine⟨rfl,aB (val:= .float .f64 (FloatKind.f64.nearest n1)) hr.aS ?_ (by simp[aj])⟩
  simp only[execOp,ho]
  refine cH ?_
  simp[convert,Sem.run_bind,run_underlying hs,run_underlying hd,hx,Conv.intToFloat]
 ·exact absurd ag ak
theorem EI {s d:TypeId} {x:Operand} {x':aD} {k:IntKind} (hr:Rel X T a μ) (ho:o.op= .convert s d x) (hs:bd X s=some (.float .f64)) (hd:bd X d=some (.int k))
  (h1:ct X x=some x') (ag: (av E (.ua k x')).run C ⟨T,μ.O⟩=some (v,σ')):σ'.T=T∧cg X o a μ σ'.O v:=by
 simp only[av,aU] at ag
 have hx:=aC hr h1 μ.O
 split at ag
 ·rename_i b e
  split at ag
  ·rename_i n hn
   split at ag
   ·rename_i hle
    obtain⟨rfl,rfl⟩:=aI ag
    rw[e] at hx;simp only[aj] at hx
    refine⟨rfl,aB (val:= .int k n) hr.aS ?_ (by simp[aj])⟩
    simp only[execOp,ho]
    refine cH ?_
    simp[convert,Sem.run_bind,run_underlying hs,run_underlying hd,hx,Conv.floatToInt,hn,hle]
   ·exact absurd ag ak
  ·exact absurd ag ak
 ·exact absurd ag ak
theorem eD {c:Call} {b:Builtin} {val:Value} {w w':World} (ho:o.op= .call c) (hc:c.callee= .builtin b)
  (h: (builtin b c.argTypes o.type (c.args.map fun| .const _=>true| _=>false) (c.args.map a.eval)).run X.P w= .ok (.value val) w'):
  (execOp a.eval o).run X.P w= .ok (.value val) w':=by
 simp only[execOp,ho,resolve,hc,Sem.run_bind,Sem.run_pure,Result.andThen_ok,invoke]
 exact h
theorem Mf {c:Call} {x:Operand} {t e:TypeId} {x':aD} (hr:Rel X T a μ) (ho:o.op= .call c) (hc:c.callee= .builtin .len) (ha:c.args= #[x]) (ht:c.argTypes= #[t])
  (hd:bd X t=some (.slice e)) (h1:ct X x=some x') (ag: (av E (.len x')).run C ⟨T,μ.O⟩=some (v,σ')):
  σ'.T=T∧cg X o a μ σ'.O v:=by
 simp only[av,aU] at ag
 obtain⟨hb,rfl⟩:=dV ag
 have hx:=aC hr h1 μ.O
 have key: ∃n:Nat,(Builtin.len_ #[t] o.type #[a.eval x]).run X.P μ.w= .ok (goInt n) μ.w∧v= .int .i64 n:=by
  cases hy:aT ⟨T,μ.O⟩ x'<;>rw[hy] at hb hx<;>simp[IL] at hb
  ·simp only[aj] at hx
   obtain⟨p,hp⟩:=hx
   exact⟨0,by simp[Builtin.len_,Sem.run_bind,run_underlying hd,hp],hb.symm⟩
  ·simp only[aj] at hx
   obtain⟨_,_,p,cap,vs,hp,_⟩:=hx
   exact⟨_,by simp[Builtin.len_,Sem.run_bind,run_underlying hd,hp],hb.symm⟩
  ·simp only[aj] at hx
   obtain⟨p,cap,hp,_⟩:=hx
   exact⟨_,by simp[Builtin.len_,Sem.run_bind,run_underlying hd,hp],hb.symm⟩
  ·simp only[aj] at hx
   obtain⟨_,_,p,cap,vs,hp,_⟩:=hx
   exact⟨_,by simp[Builtin.len_,Sem.run_bind,run_underlying hd,hp],hb.symm⟩
 obtain⟨n,h2,rfl⟩:=key
 refine⟨rfl,aB (val:=goInt n) hr.aS ?_ (by simp[aj,goInt])⟩
 refine eD ho hc ?_
 simp only[builtin,ha,ht]
 refine cH ?_
 simpa using h2
theorem EJ {c:Call} {x:Operand} {t:TypeId} {x':aD} (hr:Rel X T a μ) (ho:o.op= .call c) (hc:c.callee= .builtin .len) (ha:c.args= #[x]) (ht:c.argTypes= #[t])
  (hd:bd X t=some .string) (h1:ct X x=some x') (ag: (av E (.ud x')).run C ⟨T,μ.O⟩=some (v,σ')):
  σ'.T=T∧cg X o a μ σ'.O v:=by
 simp only[av,aU] at ag
 have hx:=aC hr h1 μ.O
 split at ag
 ·rename_i s e
  obtain⟨rfl,rfl⟩:=aI ag
  rw[e] at hx;simp only[aj] at hx
  obtain⟨bs,JM,rfl⟩:=hx
  refine⟨rfl,aB (val:=goInt bs.size) hr.aS ?_ (by simp only[aj,goInt];rw[ZG];rfl)⟩
  refine eD ho hc ?_
  simp only[builtin,ha,ht]
  refine cH ?_
  simp[Builtin.len_,Sem.run_bind,run_underlying hd,JM]
 ·exact absurd ag ak
theorem EK {c:Call} {x:Operand} {t e:TypeId} {n:Nat} (hr:Rel X T a μ) (ho:o.op= .call c) (hc:c.callee= .builtin .len) (ha:c.args= #[x]) (ht:c.argTypes= #[t])
  (hd:bd X t=some (.array n e)) (ag: (av E (.move (.const (.int .i64 n)))).run C ⟨T,μ.O⟩=some (v,σ')):
  σ'.T=T∧cg X o a μ σ'.O v:=by
 simp only[av,aU,aT] at ag
 obtain⟨rfl,rfl⟩:=aI ag
 refine⟨rfl,aB (val:=goInt n) hr.aS ?_ (by simp[aj,goInt])⟩
 refine eD ho hc ?_
 simp only[builtin,ha,ht]
 refine cH ?_
 simp[Builtin.len_,Sem.run_bind,run_underlying hd]
theorem wJ {w:World}: ∀ {xs:List V} {x:V} {u:V} {xv:Value} {vs:List Value},aj X μ x xv→ah X μ xs vs→lU min2 (x::xs)=some u→
   ∃val,(vs.foldlM Builtin.min2 xv).run X.P w= .ok val w∧aj X μ u val
 | [],x,u,xv,[],hx,_,h=>by simp[lU,mB] at h;subst h;exact⟨xv,Zm,hx⟩
 | [],_,_,_,_::_,_,hv,_=>by simp[ah] at hv
 | _::_,_,_,_,[],_,hv,_=>by simp[ah] at hv
 | y::ys,x,u,xv,yv::vs,hx,hv,h=>by
   simp only[ah] at hv
   simp only[lU,mB] at h
   split at h
   ·rename_i z hz
    have: ∃zv,(Builtin.min2 xv yv).run X.P w= .ok zv w∧aj X μ z zv:=by
     unfold min2 at hz
     split at hz
     ·split at hz<;>simp at hz
      rename_i hk;subst hk;subst hz
      have h1:=hv.1
      simp only[aj] at hx h1
      subst hx;subst h1
      exact⟨_,by simp[Builtin.min2];rfl,by simp[aj]⟩
     ·simp at hz
    obtain⟨zv,h1,h2⟩:=this
    obtain⟨val,h3,h4⟩:=wJ (w:=w) h2 hv.2 h
    exact⟨val,by simp[List.foldlM_cons,Sem.run_bind,h1,h3],h4⟩
   ·simp at h
theorem wK {w:World}: ∀ {xs:List V} {x:V} {u:V} {xv:Value} {vs:List Value},aj X μ x xv→ah X μ xs vs→lU max2 (x::xs)=some u→
   ∃val,(vs.foldlM Builtin.max2 xv).run X.P w= .ok val w∧aj X μ u val
 | [],x,u,xv,[],hx,_,h=>by simp[lU,mB] at h;subst h;exact⟨xv,Zm,hx⟩
 | [],_,_,_,_::_,_,hv,_=>by simp[ah] at hv
 | _::_,_,_,_,[],_,hv,_=>by simp[ah] at hv
 | y::ys,x,u,xv,yv::vs,hx,hv,h=>by
   simp only[ah] at hv
   simp only[lU,mB] at h
   split at h
   ·rename_i z hz
    have: ∃zv,(Builtin.max2 xv yv).run X.P w= .ok zv w∧aj X μ z zv:=by
     unfold max2 at hz
     split at hz
     ·split at hz<;>simp at hz
      rename_i hk;subst hk;subst hz
      have h1:=hv.1
      simp only[aj] at hx h1
      subst hx;subst h1
      exact⟨_,by simp[Builtin.max2];rfl,by simp[aj]⟩
     ·simp at hz
    obtain⟨zv,h1,h2⟩:=this
    obtain⟨val,h3,h4⟩:=wK (w:=w) h2 hv.2 h
    exact⟨val,by simp[List.foldlM_cons,Sem.run_bind,h1,h3],h4⟩
   ·simp at h
theorem Mg {c:Call} {xs:List aD} (hr:Rel X T a μ) (ho:o.op= .call c) (hc:c.callee= .builtin .min) (h1:kK X c.args.toList=some xs)
   (ag: (av E (.min xs)).run C ⟨T,μ.O⟩=some (v,σ')):σ'.T=T∧cg X o a μ σ'.O v:=by
 simp only[av,lL] at ag
 obtain⟨hb,rfl⟩:=dV ag
 have hx:=kL hr μ.O h1
 generalize hq:xs.map (aT ⟨T,μ.O⟩)=us at hb hx
 generalize hp:c.args.toList.map a.eval=vs at hx
 match us,vs,hx,hb with
 | [],_,_,hb=>simp[lU,mB] at hb
 | u::us,[],hx,_=>simp[ah] at hx
 | u::us,y::vs,hx,hb=>
   simp only[ah] at hx
   obtain⟨val,h2,h3⟩:=wJ (w:=μ.w) hx.1 hx.2 hb
   refine⟨rfl,aB (val:=val) hr.aS (eD ho hc ?_) h3⟩
   simp only[builtin]
   refine cH ?_
   simp only[Builtin.min_,aa1,hp]
   exact h2
theorem Mh {c:Call} {xs:List aD} (hr:Rel X T a μ) (ho:o.op= .call c) (hc:c.callee= .builtin .max) (h1:kK X c.args.toList=some xs)
   (ag: (av E (.max xs)).run C ⟨T,μ.O⟩=some (v,σ')):σ'.T=T∧cg X o a μ σ'.O v:=by
 simp only[av,lL] at ag
 obtain⟨hb,rfl⟩:=dV ag
 have hx:=kL hr μ.O h1
 generalize hq:xs.map (aT ⟨T,μ.O⟩)=us at hb hx
 generalize hp:c.args.toList.map a.eval=vs at hx
 match us,vs,hx,hb with
 | [],_,_,hb=>simp[lU,mB] at hb
 | u::us,[],hx,_=>simp[ah] at hx
 | u::us,y::vs,hx,hb=>
   simp only[ah] at hx
   obtain⟨val,h2,h3⟩:=wK (w:=μ.w) hx.1 hx.2 hb
   refine⟨rfl,aB (val:=val) hr.aS (eD ho hc ?_) h3⟩
   simp only[builtin]
   refine cH ?_
   simp only[Builtin.max_,aa1,hp]
   exact h2
end
end Go.AM
namespace Go.AM
open Go Go.RowKit
theorem eE (b q n:Nat): (⟨b,q,none⟩:Addr).add n=⟨b,q+n,none⟩:=by unfold Addr.add;split<;>simp_all
theorem mP: ∀ {xs:List V} {i:Nat} {x:V},V.al xs=true→xs[i]? =some x→V.aq x=true
 | [],_,_,_,h=>by simp at h
 | y::ys,0,x,hp,h=>by simp[V.al] at hp;simp at h;rw[←h];exact hp.1
 | y::ys,i+1,x,hp,h=>by simp[V.al] at hp;simp at h;exact mP hp.2 h
theorem qz: ∀ {xs:List V} (n:Nat),V.al xs=true→V.al (xs.take n)=true
 | _,0,_=>by simp[V.al]
 | [],n+1,_=>by simp[V.al]
 | y::ys,n+1,h=>by simp[V.al] at h ⊢;exact⟨h.1,qz n h.2⟩
theorem qA: ∀ {xs:List V} (n:Nat),V.al xs=true→V.al (xs.drop n)=true
 | _,0,h=>by simpa using h
 | [],n+1,_=>by simp[V.al]
 | y::ys,n+1,h=>by simp[V.al] at h;simpa using qA n h.2
theorem iZ {p:V→Bool} {xs:List V} (n:Nat) (h:xs.all p=true): (xs.take n).all p=true:=by
 simp only[Zx] at h ⊢
 exact fun x hx=>h x (ZU hx)
theorem kM {p:V→Bool} {xs:List V} (n:Nat) (h:xs.all p=true): (xs.drop n).all p=true:=by
 simp only[Zx] at h ⊢
 exact fun x hx=>h x (Z5 hx)
theorem cM.drop {w:World} {b off sz:Nat} {vs:List Value} (h:cM w b off sz vs) (n:Nat):cM w b (off+n*sz) sz (vs.drop n):=by
 intro i v hv
 simp only[List.getElem?_drop] at hv
 obtain⟨h1,h2⟩:=h (n+i) v hv
 refine⟨h1,fun j c hc=> ?_⟩
 rw[←h2 j c hc]
 congr 2
 rw[ZR];omega
theorem cM.take {w:World} {b off sz:Nat} {vs:List Value} (h:cM w b off sz vs) (n:Nat):cM w b off sz (vs.take n):=by
 intro i v hv
 rw[Z7] at hv
 split at hv
 ·exact h i v hv
 ·simp at hv
section
variable {X:Ctx} {E:Env} {C:aQ} {o:Oper} {a:Go.Act} {T:Nat→V} {μ:Mu} {v:V} {σ':St}
theorem nI {t:TypeId} {e u:V} {x:Value} {off sz:Nat} {agg:Bool} {w:World} {b q:Nat} (hx:aj X μ e x) (hp:part agg off sz e=some u)
   (hg:eu X t=some agg) (hn:bj X t=some sz) (hm: ∀j c,x.cells[j]? =some c→w.cell? ⟨b,q+j,none⟩=some c):
   ∃val,(loadVar t ⟨b,q+off,none⟩).run X.P w= .ok val w∧aj X μ u val:=by
 cases agg with
 | true=>
   obtain⟨cs,rfl,hle,hv⟩:=yf hx hp
   refine⟨_,?_,hv⟩
   have hl: (cs.extract off (off+sz)).toList.length=sz:=by simp;omega
   have:=run_loadCells_list (P:=X.P) w ⟨b,q+off,none⟩ (cs.extract off (off+sz)).toList (fun j c hc=>by
    rw[eE]
    have CZ:cs[off+j]? =some c:=by
     rw[aaE,aan,Z7] at hc
     split at hc
     ·simpa using hc
     ·simp at hc
    have:=hm (off+j) c (by simpa [Value.cells] using CZ)
    rwa [←aaJ] at this)
   rw[hl,Array.toArray_toList] at this
   simp[loadVar,Sem.run_bind,nH hg,dx hn,this]
 | false=>
   obtain⟨_,c,hc,hv⟩:=vG hx hp
   refine⟨c,?_,hv⟩
   have:=hm off c hc
   simp[loadVar,Sem.run_bind,nH hg,this]
theorem Af (ho:aP X μ) {r idx:Nat} {es:List V} {e:V} (aZ: (μ.O r).es=some es) (he:es[idx]? =some e) (h0:0 < (μ.O r).sz):
  ∃x,aj X μ e x∧(μ.φ r).cap≠0∧ ∀j c,x.cells[j]? =some c→μ.w.cell? ⟨(μ.φ r).bB,(μ.φ r).base+idx*(μ.O r).sz+j,none⟩=some c:=by
 obtain⟨_,h2,_,h4⟩:=ho.row r es aZ h0
 have bz:idx<es.length:=(Zs.1 he).1
 have hc: (μ.φ r).cap≠0:=Zl
 rcases h4 with h4| ⟨c,T',vs,_,_,hv,cE⟩
 ·exact absurd h4 hc
 ·obtain⟨x,hx,hr⟩:=hv.get he
  exact⟨x,hr,hc,(cE idx x hx).2⟩
theorem DJ {t:TypeId} {x:Operand} {x':aD} {agg:Bool} {sz:Nat} (hr:Rel X T a μ) (ho:o.op= .load t x) (h1:ct X x=some x') (hg:eu X t=some agg) (hn:bj X t=some sz)
  (ag: (av E (.load agg sz x')).run C ⟨T,μ.O⟩=some (v,σ')):σ'.T=T∧cg X o a μ σ'.O v:=by
 simp only[av,aU] at ag
 have hx:=aC hr h1 μ.O
 have fin: ∀ (p:Addr),a.eval x= .pointer (some p)→ ∀val,(loadVar t p).run X.P μ.w= .ok val μ.w→(execOp a.eval o).run X.P μ.w= .ok (.value val) μ.w:=fun p hp val hv=>by
  simp only[execOp,ho]
  refine cH ?_
  simp[Instr.loadAt,Instr.sureAddr,Sem.run_bind,hp,hv]
 split at ag
 ·rename_i r g idx off e
  simp only[Act.run] at ag
  split at ag
  ·rename_i es aZ
   split at ag
   ·rename_i bP
    split at ag
    ·rename_i el qg
     obtain⟨hp,rfl⟩:=dV ag
     rw[e] at hx
     simp only[aj] at hx
     obtain⟨p,KL,_,bq⟩:=hx
     obtain⟨xv,sH,_,jw⟩:=Af hr.aS aZ qg (bq bP).1
     obtain⟨val,hl,aV⟩:=nI sH hp hg hn jw
     refine⟨rfl,aB hr.aS (fin p KL val ?_) aV⟩
     rw[(bq bP).2];exact hl
    ·exact absurd ag ak
   ·exact absurd ag ak
  ·exact absurd ag ak
 ·rename_i el off e
  obtain⟨hp,rfl⟩:=dV ag
  rw[e] at hx
  simp only[aj] at hx
  obtain⟨_,_,b,q,sz',xv,KL,_,_,sH,cE⟩:=hx
  obtain⟨val,hl,aV⟩:=nI (w:=μ.w) (b:=b) (q:=q) sH hp hg hn (fun j c hc=>by simpa using (cE 0 xv Zm).2 j c hc)
  exact⟨rfl,aB hr.aS (fin _ KL val hl) aV⟩
 ·rename_i i z el off e
  obtain⟨hp,rfl⟩:=dV ag
  rw[e] at hx
  simp only[aj] at hx
  obtain⟨_,_,xv,KL,_,_,sH,cE⟩:=hx
  obtain⟨val,hl,aV⟩:=nI (w:=μ.w) (b:=X.tok.1) (q:=X.tok.2+i*z) sH hp hg hn (fun j c hc=>by simpa using (cE 0 xv Zm).2 j c hc)
  exact⟨rfl,aB hr.aS (fin _ KL val hl) aV⟩
 ·exact absurd ag ak
theorem EL {ks:List Nat} {agg:Bool} {sz:Nat} {x:aD} {σ:St} (h: (av E (.vV ks agg sz x)).run C σ=some (v,σ')): ∃v0,(av E (.load agg sz x)).run C σ=some (v0,σ')∧v=AM.A0 ks v0:=by
 simp only[av,aU] at h ⊢
 have fin: ∀ (p:Option V),(dq (p.map (AM.A0 ks))).run C σ=some (v,σ')→ ∃v0,(dq p).run C σ=some (v0,σ')∧v=AM.A0 ks v0:=by
  intro p hp
  cases p with
  | none=>exact absurd hp ak
  | some v0=>
    obtain⟨h1,h2⟩:=dV hp
    simp only[ZE,Zr] at h1
    exact⟨v0,by simp only[dq,Act.run,h2],h1.symm⟩
 split at h
 ·rename_i r g idx off e
  simp only[Act.run] at h ⊢
  split at h
  · rename_i es aZ
    split at h
    ·rename_i hg
     split at h
     ·rename_i el qg
      rw[if_pos hg]
      exact fin _ h
     ·exact absurd h ak
    ·exact absurd h ak
  ·exact absurd h ak
 ·exact fin _ h
 ·exact fin _ h
 ·exact absurd h ak
theorem Ho {t:TypeId} {x:Operand} {x':aD} {agg:Bool} {sz:Nat} (ks:List Nat) (hr:Rel X T a μ) (ho:o.op= .load t x) (h1:ct X x=some x') (hg:eu X t=some agg) (hn:bj X t=some sz)
  (ag: (av E (.vV ks agg sz x')).run C ⟨T,μ.O⟩=some (v,σ')):σ'.T=T∧cg X o a μ σ'.O v:=by
 obtain⟨v0,h2,rfl⟩:=EL ag
 obtain⟨h3,val,w',φ',h4,h5,h6,h7⟩:=DJ hr ho h1 hg hn h2
 exact⟨h3,val,w',φ',h4,aj.A0 ks h5,h6,h7⟩
theorem yi {t e:TypeId} {x i:Operand} {x' i':aD} {sz:Nat} (hr:Rel X T a μ) (ho:o.op= .indexAddr t x i) (hd:bd X t=some (.slice e)) (hn:bj X e=some sz)
  (h1:ct X x=some x') (h2:ct X i=some i') (ag: (av E (.indexAddr sz x' i')).run C ⟨T,μ.O⟩=some (v,σ')):σ'.T=T∧cg X o a μ σ'.O v:=by
 simp only[av,aU] at ag
 have hx:=aC hr h1 μ.O
 have hi:=aC hr h2 μ.O
 have fin: ∀ (p:Addr) (len cap:Nat) (k:IntKind) (n:Int),a.eval x= .slice (some p) len cap→a.eval i= .int k n→0≤n→n<len→
   (execOp a.eval o).run X.P μ.w= .ok (.value (.pointer (some (p.add (n.toNat*sz))))) μ.w:=fun p len cap k n hp hq L5 NB=>by
  simp only[execOp,ho]
  refine cH ?_
  simp[Instr.indexAt,Sem.run_bind,hp,hq,asIntOf,run_underlying hd,L5,NB,dx hn]
 split at ag
 ·rename_i r g off len k n e1 e2
  simp only[Act.run] at ag
  split at ag
  ·rename_i hc
   obtain⟨rfl,rfl⟩:=aI ag
   rw[e1] at hx;rw[e2] at hi
   simp only[aj] at hx hi
   obtain⟨p,cap,hp,KM,mf,bq⟩:=hx
   obtain⟨q0,q1,q2⟩:=bq hc.2.2.2
   have b7:cap≠0:=Zl
   have wL:=q2.resolve_left b7
   rw[wL] at hp
   refine⟨rfl,aB hr.aS (fin _ len cap k n hp hi hc.1 hc.2.1) ?_⟩
   simp only[aj]
   refine⟨_,rfl,mf,fun _=> ⟨q0,?_⟩⟩
   rw[eE,hc.2.2.1]
   simp only[Addr.mk.injEq,true_and,and_true]
   rw[ZR];omega
  ·exact absurd ag ak
 ·rename_i sz' xs k n e1 e2
  split at ag
  ·rename_i hc
   split at ag
   ·rename_i el qg
    obtain⟨rfl,rfl⟩:=aI ag
    rw[e1] at hx;rw[e2] at hi
    simp only[aj] at hx hi
    obtain⟨ki,A8,p,cap,vs,hp,KM,la,jw⟩:=hx
    have bz:n.toNat<xs.length:=(Zs.1 qg).1
    rcases jw with jw| ⟨b,q,PL,ig,JM,cE⟩
    ·subst jw;simp at bz
    ·rw[PL] at hp
     obtain⟨xv,sH,aV⟩:=la.get qg
     refine⟨rfl,aB hr.aS (fin _ xs.length cap k n hp hi hc.1 Zl) ?_⟩
     simp only[aj]
     refine⟨mP ki qg,?_,b,q+n.toNat*sz,sz,xv,by rw[eE];simp,ig,JM,aV,?_⟩
     ·simp only[Zx] at A8
      exact A8 el (List.mem_of_getElem? qg)
     ·have:=(cE.drop n.toNat).take 1
      rw[hc.2] at this
      have BR: (vs.drop n.toNat).take 1=[xv]:=by
        have xD:n.toNat<vs.length:=(Zs.1 sH).1
        rw[ZP xD,Z9,aaB]
        rw[Zv xD] at sH
        injection sH with sH;rw[sH]
      rwa [BR] at this
   ·exact absurd ag ak
  ·exact absurd ag ak
 ·rename_i sz' xs k n e1 e2
  split at ag
  ·rename_i hc
   split at ag
   ·rename_i el qg
    obtain⟨rfl,rfl⟩:=aI ag
    rw[e1] at hx;rw[e2] at hi
    simp only[aj] at hx hi
    obtain⟨ki,A8,p,cap,vs,hp,KM,la,jw⟩:=hx
    have bz:n.toNat<xs.length:=(Zs.1 qg).1
    rcases jw with jw| ⟨PL,ig,JM,cE⟩
    ·subst jw;simp at bz
    ·rw[PL] at hp
     obtain⟨xv,sH,aV⟩:=la.get qg
     refine⟨rfl,aB hr.aS (fin _ xs.length cap k n hp hi hc.1 Zl) ?_⟩
     simp only[aj]
     refine⟨mP ki qg,?_,xv,by rw[eE];simp,ig,JM,aV,?_⟩
     ·simp only[Zx] at A8
      exact A8 el (List.mem_of_getElem? qg)
     ·have:=(cE.drop n.toNat).take 1
      rw[hc.2.1] at this
      have BR: (vs.drop n.toNat).take 1=[xv]:=by
        have xD:n.toNat<vs.length:=(Zs.1 sH).1
        rw[ZP xD,Z9,aaB]
        rw[Zv xD] at sH
        injection sH with sH;rw[sH]
      rwa [BR] at this
   ·exact absurd ag ak
  ·exact absurd ag ak
 ·exact absurd ag ak
theorem Ag {t e:TypeId} {x i:Operand} {x' i':aD} {n sz:Nat} (hr:Rel X T a μ) (ho:o.op= .indexAddr t x i) (hd:bd X t=some (.array n e)) (hn:bj X e=some sz)
  (h1:ct X x=some x') (h2:ct X i=some i') (ag: (av E (.mr n sz x' i')).run C ⟨T,μ.O⟩=some (v,σ')):σ'.T=T∧cg X o a μ σ'.O v:=by
 simp only[av,aU] at ag
 have hx:=aC hr h1 μ.O
 have hi:=aC hr h2 μ.O
 have fin: ∀ (p:Addr) (k:IntKind) (j:Int),a.eval x= .pointer (some p)→a.eval i= .int k j→0≤j→j<n→
   (execOp a.eval o).run X.P μ.w= .ok (.value (.pointer (some (p.add (j.toNat*sz))))) μ.w:=fun p k j hp hq L5 NB=>by
  simp only[execOp,ho]
  refine cH ?_
  simp[Instr.indexAt,Sem.run_bind,hp,hq,asIntOf,run_underlying hd,L5,NB,dx hn,Instr.sureAddr]
 split at ag
 ·rename_i r g idx off k j e1 e2
  split at ag
  ·rename_i hc
   obtain⟨rfl,rfl⟩:=aI ag
   rw[e1] at hx;rw[e2] at hi
   simp only[aj] at hx hi
   obtain⟨p,hp,mf,bq⟩:=hx
   refine⟨rfl,aB hr.aS (fin p k j hp hi hc.1 hc.2) ?_⟩
   simp only[aj]
   refine⟨_,rfl,mf,fun hg=> ⟨(bq hg).1,?_⟩⟩
   rw[(bq hg).2,eE];simp[aaJ]
  ·exact absurd ag ak
 ·rename_i el off k j e1 e2
  split at ag
  ·rename_i hc
   obtain⟨rfl,rfl⟩:=aI ag
   rw[e1] at hx;rw[e2] at hi
   simp only[aj] at hx hi
   obtain⟨Q6,Bb,b,q,sz',xv,hp,uN⟩:=hx
   refine⟨rfl,aB hr.aS (fin _ k j hp hi hc.1 hc.2) ?_⟩
   simp only[aj]
   exact⟨Q6,Bb,b,q,sz',xv,by rw[eE];simp[aaJ],uN⟩
  ·exact absurd ag ak
 ·exact absurd ag ak
theorem Ah {t:TypeId} {x i:Operand} {x' i':aD} (hr:Rel X T a μ) (ho:o.op= .index t x i) (hd:bd X t=some .string)
  (h1:ct X x=some x') (h2:ct X i=some i') (ag: (av E (.mu x' i')).run C ⟨T,μ.O⟩=some (v,σ')):σ'.T=T∧cg X o a μ σ'.O v:=by
 simp only[av,aU] at ag
 have hx:=aC hr h1 μ.O
 have hi:=aC hr h2 μ.O
 split at ag
 ·rename_i s k n e1 e2
  split at ag
  ·rename_i hc
   split at ag
   ·rename_i b hb
    obtain⟨rfl,rfl⟩:=aI ag
    rw[e1] at hx;rw[e2] at hi
    simp only[aj] at hx hi
    obtain⟨bs,JM,rfl⟩:=hx
    refine⟨rfl,aB (val:= .int .u8 b.toNat) hr.aS ?_ (by simp[aj])⟩
    simp only[execOp,ho]
    refine cH ?_
    have js:bs[n.toNat]? =some b:=by
     have bz:=(Zs.1 hb).1
     have hv:=(Zs.1 hb).2
     have bM:n.toNat<bs.size:=by rw[ZG] at bz;exact bz
     rw[getElem?_pos bs n.toNat bM]
     congr 1
    simp[Instr.index,Sem.run_bind,JM,hi,asIntOf,run_underlying hd,hc,js]
   ·exact absurd ag ak
  ·exact absurd ag ak
 ·exact absurd ag ak
end
end Go.AM
namespace Go.AM
open Go Go.RowKit
def JN (X:Ctx) (μ:Mu) (x:Option V) (v:Option Value):Prop:=(x=none∧v=none)∨ ∃x' v',x=some x'∧v=some v'∧aj X μ x' v'
theorem rL {X:Ctx} {μ:Mu} {T:Nat→V} {a:Go.Act} {x:Option Operand} {y:Option aD} (hr:Rel X T a μ) (h:vE X x=some y) (O:Nat→Obj):
  JN X μ (y.map (aT ⟨T,O⟩)) (x.map a.eval):=by
 rcases Hl hr h O with⟨rfl,rfl⟩ | ⟨x',y',rfl,rfl,aV⟩
 ·exact .inl ⟨rfl,rfl⟩
 ·exact .inr ⟨_,_,rfl,rfl,aV⟩
section
variable {X:Ctx} {E:Env} {C:aQ} {o:Oper} {a:Go.Act} {T:Nat→V} {μ:Mu} {v:V} {σ':St}
theorem run_sliceBound {d l y:Nat} {x:V} {xv:Value} {code:BoundsCode} {w:World} (h:aj X μ x xv) (hb:bU d (some x)=some l) (hle:l≤y):
  (Instr.sliceBound xv y code).run X.P w= .ok l w:=by
 cases x<;>simp[bU] at hb
 obtain⟨h0,rfl⟩:=hb
 simp only[aj] at h
 subst h
 rename_i k n
 have:n≤(y:Int):=Zl
 simp[Instr.sliceBound,asIntOf,Sem.run_bind,h0,this]
theorem gu {isSlice:Bool} {len cap l h:Nat} {lo hi:Option V} {NF NG:Option Value} {w:World} (h1:JN X μ lo NF) (h2:JN X μ hi NG)
  (hl:bU 0 lo=some l) (hh:bU len hi=some h) (NH:l≤h) (b7:h≤cap):
  (Instr.sliceBounds isSlice len cap NF NG none).run X.P w= .ok (l,h,cap) w:=by
 rcases h1 with⟨rfl,rfl⟩ | ⟨lx,lv,rfl,rfl,Kw⟩ <;>rcases h2 with⟨rfl,rfl⟩ | ⟨hx,hv,rfl,rfl,Vv⟩
 ·simp[bU] at hl hh;subst hl;subst hh
  simp[Instr.sliceBounds,Sem.run_bind]
 ·simp[bU] at hl;subst hl
  simp[Instr.sliceBounds,Sem.run_bind,run_sliceBound Vv hh b7]
 ·have Vw:=hh
  simp[bU] at Vw;subst Vw
  simp[Instr.sliceBounds,Sem.run_bind,run_sliceBound Kw hl NH]
 ·simp[Instr.sliceBounds,Sem.run_bind,run_sliceBound Kw hl NH,run_sliceBound Vv hh b7]
theorem gv {isSlice:Bool} {len cap l h m:Nat} {lo:Option V} {hi mx:V} {NF:Option Value} {NG TC:Value} {w:World} (h1:JN X μ lo NF) (h2:aj X μ hi NG) (h3:aj X μ mx TC)
  (hl:bU 0 lo=some l) (hh:bU len (some hi)=some h) (hm:bU 0 (some mx)=some m) (NH:l≤h) (Vx:h≤m) (b7:m≤cap):
  (Instr.sliceBounds isSlice len cap NF (some NG) (some TC)).run X.P w= .ok (l,h,m) w:=by
 rcases h1 with⟨rfl,rfl⟩ | ⟨lx,lv,rfl,rfl,Kw⟩
 ·simp[bU] at hl;subst hl
  simp[Instr.sliceBounds,Sem.run_bind,run_sliceBound h3 hm b7,run_sliceBound h2 hh Vx]
 ·simp[Instr.sliceBounds,Sem.run_bind,run_sliceBound h3 hm b7,run_sliceBound h2 hh Vx,run_sliceBound Kw hl NH]
theorem Hp {t e:TypeId} {x:Operand} {lo hi mx:Option Operand} {x':aD} {Q7 nU Q8:Option aD} {sz:Nat} (hr:Rel X T a μ) (ho:o.op= .slice t x lo hi mx) (hd:bd X t=some (.slice e))
  (hn:bj X e=some sz) (h1:ct X x=some x') (h2:vE X lo=some Q7) (h3:vE X hi=some nU) (h4:vE X mx=some Q8)
  (ag: (av E (.slice sz x' Q7 nU Q8)).run C ⟨T,μ.O⟩=some (v,σ')):σ'.T=T∧cg X o a μ σ'.O v:=by
 simp only[av,aU,JI] at ag
 have hx:=aC hr h1 μ.O
 have rl:=rL hr h2 μ.O
 have rh:=rL hr h3 μ.O
 have rm:=rL hr h4 μ.O
 generalize Q7.map (aT ⟨T,μ.O⟩)=NF at ag rl
 generalize nU.map (aT ⟨T,μ.O⟩)=NG at ag rh
 generalize Q8.map (aT ⟨T,μ.O⟩)=TC at ag rm
 have kH:X.P.underlying t=some (.slice e):=hd
 have fin: ∀ (p:Option Addr) (len cap l h m:Nat),a.eval x= .slice p len cap→(Instr.sliceBounds true len cap (lo.map a.eval) (hi.map a.eval) (mx.map a.eval)).run X.P μ.w= .ok (l,h,m) μ.w→
   (execOp a.eval o).run X.P μ.w= .ok (.value (.slice (if m=l then p else p.map (·.add (l*sz))) (h - l) (m - l))) μ.w:=fun p len cap l h m hp hb=>by
  simp only[execOp,ho]
  refine cH ?_
  simp only[Instr.sliceAt,Sem.run_bind,run_underlying kH,Result.andThen_ok,Instr.slice,hp,hb,dx hn,Sem.run_pure]
 split at ag
 ·rename_i r g off len ey
  rw[ey] at hx
  simp only[aj] at hx
  obtain⟨p,cap,hp,KM,mf,bq⟩:=hx
  simp only[Act.run] at ag
  split at ag
  ·rename_i es aZ
   split at ag
   ·rename_i Ai
    obtain⟨q0,q1,q2⟩:=bq Ai.1
    have TD:es.length≤(μ.φ r).cap:=(hr.aS.row r es aZ q0).2.1
    split at ag
    ·
     rename_i _ l h hl hh
     split at ag
     ·   rename_i hle
         obtain⟨rfl,rfl⟩:=aI ag
         have TE:mx.map a.eval=none:=by
          rcases rm with⟨h5,h6⟩ | ⟨_,_,h5,_⟩
          ·exact h6
          ·cases h5
         have hb:=gu (isSlice:=true) (len:=len) (cap:=cap) (w:=μ.w) rl rh hl hh hle.1 Zl
         refine⟨rfl,aB hr.aS (fin p len cap l h cap hp (by rw[TE];exact hb)) ?_⟩
         simp only[aj]
         refine⟨_,_,rfl,Zl,mf,fun _=> ⟨q0,Zl,?_⟩⟩
         by_cases nT:cap=l
         ·left;omega
         ·right
          rw[if_neg nT]
          have:cap≠0:=Zl
          rw[q2.resolve_left this,ZE,eE,Ai.2]
          congr 2
          rw[ZR];omega
     ·exact absurd ag ak
    ·
     rename_i _ l h' m hl hh
     split at ag
     ·   rename_i _ _ h m' Dh
         split at ag
         ·rename_i hle
          obtain⟨rfl,rfl⟩:=aI ag
          rcases rm with⟨h5,_⟩ | ⟨Vy,PM,h5,h6,Aj⟩
          ·cases h5
          ·injection h5 with h5;subst h5
           rcases rh with⟨h7,_⟩ | ⟨Vz,PN,h7,h8,Ak⟩
           ·cases h7
           ·injection h7 with h7;subst h7
            have hb:=gv (isSlice:=true) (len:=len) (cap:=cap) (w:=μ.w) rl Ak Aj hl hh Dh hle.1 hle.2.1 Zl
            refine⟨rfl,aB hr.aS (fin p len cap l h' m' hp (by rw[h6,h8];exact hb)) ?_⟩
            split
            ·rename_i ID
             simp only[aj]
             have e1:h' - l=0:=Zl
             have e2:m' - l=0:=Zl
             exact⟨_,by rw[e1,e2]⟩
            ·simp[aj]
         ·exact absurd ag ak
     ·exact absurd ag ak
    ·exact absurd ag ak
   ·exact absurd ag ak
  ·exact absurd ag ak
 ·obtain⟨uv,rfl⟩:=dV ag
  refine⟨rfl,?_⟩
  generalize aT ⟨T,μ.O⟩ x'=y at uv hx
  cases y<;>simp only[tN,reduceCtorEq] at uv
  ·
   simp only[aj] at hx
   obtain⟨p,hp⟩:=hx
   split at uv
   ·rename_i l h m hl hh hm
    split at uv<;>simp at uv
    rename_i hle
    subst uv
    have e1:l=0:=Zl
    have e2:h=0:=Zl
    have e3:m=0:=Zl
    subst e1;subst e2;subst e3
    have hb: ∃m',(Instr.sliceBounds true 0 0 (lo.map a.eval) (hi.map a.eval) (mx.map a.eval)).run X.P μ.w= .ok (0,0,m') μ.w∧m'=0:=by
     rcases rm with⟨rfl,h6⟩ | ⟨Vy,PM,rfl,h6,Aj⟩
     ·rw[h6];exact⟨_,gu (isSlice:=true) (len:=0) (cap:=0) (w:=μ.w) rl rh hl hh (Zy _) (Zy _),rfl⟩
     ·   rcases rh with⟨rfl,h8⟩ | ⟨Vz,PN,rfl,h8,Ak⟩
         ·simp at hle
         ·rw[h6,h8];exact⟨_,gv (isSlice:=true) (len:=0) (cap:=0) (w:=μ.w) rl Ak Aj hl hh hm (Zy _) (Zy _) (Zy _),rfl⟩
    obtain⟨m',hb,rfl⟩:=hb
    refine aB hr.aS (fin p 0 0 0 0 0 hp hb) ?_
    simp[aj]
   ·simp at uv
  ·
   rename_i sz' xs
   simp only[aj] at hx
   obtain⟨ki,A8,p,cap,vs,hp,KM,la,jw⟩:=hx
   split at uv
   ·rename_i PO
    subst PO
    split at uv
    ·rename_i l h hl hh
     split at uv<;>simp at uv
     rename_i hle
     subst uv
     obtain⟨_,TE⟩: (none:Option V)=none∧mx.map a.eval=none:=by
         rcases rm with⟨h5,h6⟩ | ⟨_,_,h5,_⟩
         ·exact⟨rfl,h6⟩
         ·cases h5
     have hb:=gu (isSlice:=true) (len:=xs.length) (cap:=cap) (w:=μ.w) rl rh hl hh hle.1 Zl
     refine aB hr.aS (fin p xs.length cap l h cap hp (by rw[TE];exact hb)) ?_
     have kZ: (aw xs l (h - l)).length=h - l:=by simp[aw];omega
     simp only[aj]
     refine⟨qz _ (qA _ ki),iZ _ (kM _ A8),_,_,(vs.drop l).take (h - l),by rw[kZ],by rw[kZ];omega,ah.take _ (ah.drop _ la),?_⟩
     by_cases NH:l=h
     ·left;simp[aw,NH]
     ·   right
         rcases jw with jw| ⟨b,q,PL,ig,JM,cE⟩
         ·subst jw;simp at hle;omega
         ·have: ¬cap=l:=Zl
          rw[if_neg this,PL,ZE,eE]
          exact⟨b,q+l*sz',rfl,ig,JM,(cE.drop l).take _⟩
    ·rename_i l h m hl hh
     split at uv
     ·   rename_i Y1 m' Dh
         split at uv<;>simp at uv
         rename_i hle
         subst uv
         rcases rm with⟨h5,_⟩ | ⟨Vy,PM,h5,h6,Aj⟩
         ·cases h5
         ·injection h5 with h5;subst h5
          rcases rh with⟨h7,_⟩ | ⟨Vz,PN,h7,h8,Ak⟩
          ·cases h7
          ·injection h7 with h7;subst h7
           have hb:=gv (isSlice:=true) (len:=xs.length) (cap:=cap) (w:=μ.w) rl Ak Aj hl hh Dh hle.1 hle.2.1 Zl
           refine aB hr.aS (fin p xs.length cap l h m' hp (by rw[h6,h8];exact hb)) ?_
           split
           ·simp only[aj]
            have e1:h - l=0:=Zl
            have e2:m' - l=0:=Zl
            exact⟨_,by rw[e1,e2]⟩
           ·simp[aj]
     ·simp at uv
    ·simp at uv
   ·simp at uv
end
end Go.AM
namespace Go.AM
open Go Go.RowKit
def bZ {α:Type} (L:List α) (p:Nat) (m:List α):List α:=L.take p++m++L.drop (p+m.length)
theorem dZ {α:Type} {L m:List α} {p:Nat} (h:p+m.length≤L.length): (bZ L p m).length=L.length:=by
 simp[bZ];omega
theorem dM {α:Type} {L m:List α} {p:Nat} (h:p+m.length≤L.length) (q:Nat):
  (bZ L p m)[q]? =if q<p then L[q]? else if q<p+m.length then m[q - p]? else L[q]? :=by
 unfold bZ
 rw[aaW,aaX]
 have hl: (L.take p).length=p:=by simp;omega
 rw[hl]
 split
 ·rename_i hq
  rw[Z7];simp[hq]
 ·rename_i hq
  rw[aaX]
  split
  ·rename_i hm
   rw[if_pos Zl]
  ·rename_i hm
   rw[if_neg Zl,List.getElem?_drop]
   congr 1;omega
def cR (c:List Value) (base sz:Nat) (vs:List Value):Prop:=
 ∀i v,vs[i]? =some v→v.cells.size=sz∧ ∀j x,v.cells[j]? =some x→c[base+i*sz+j]? =some x
def flat (us:List Value):List Value:=us.flatMap fun v=>v.cells.toList
theorem ft {us:List Value} {sz:Nat} (h: ∀v ∈ us,v.cells.size=sz): (flat us).length=us.length*sz:=by
 induction us with
 | nil=>simp[flat]
 | cons u us ih=>
   have h1:=h u Zm
   have h2:=ih fun v hv=>h v (by simp[hv])
   simp only[flat,List.flatMap_cons,List.length_append,ZH] at h2 ⊢
   rw[h2,ZG,h1,ZR];omega
theorem qB {us:List Value} {sz:Nat} (h: ∀v ∈ us,v.cells.size=sz) {i j:Nat} {v x:Value} (hv:us[i]? =some v) (hx:v.cells[j]? =some x):
   (flat us)[i*sz+j]? =some x:=by
 induction us generalizing i with
 | nil=>simp at hv
 | cons u us ih=>
   have h1:=h u Zm
   simp only[flat,List.flatMap_cons]
   cases i with
   | zero=>
     simp at hv;subst hv
     have hj:j<u.cells.size:=(Zu.1 hx).1
     rw[ZW (by rw[ZG];omega)]
     simpa using hx
   | succ i=>
     simp at hv
     have:=ih (fun v hv=>h v (by simp[hv])) hv
     rw[aaf (by rw[ZG,h1,ZR];omega)]
     rw[ZG,h1]
     have e: (i+1)*sz+j - sz=i*sz+j:=by rw[ZR];omega
     rw[e];exact this
theorem tG {sz i j k:Nat} (hj:j<sz) (EM:i<k):i*sz+j<k*sz:=by
 have: (i+1)*sz≤k*sz:=ZY _ Zl
 rw[ZR] at this;omega
theorem yj {sz i j k:Nat} (EM:k≤i):k*sz≤i*sz+j:=by
 have:k*sz≤i*sz:=ZY _ EM
 omega
theorem cR.write {c:List Value} {base sz k:Nat} {vs us:List Value} (h:cR c base sz vs) (hk:k≤vs.length) (Hq: ∀v ∈ us,v.cells.size=sz)
  (ju:base+k*sz+us.length*sz≤c.length):
  cR (bZ c (base+k*sz) (flat us)) base sz (vs.take k++us++vs.drop (k+us.length)):=by
 have Al:=ft Hq
 intro i v hv
 have bz: (vs.take k).length=k:=by simp;omega
 rw[aaW,aaX,bz] at hv
 split at hv
 ·rename_i hi
  rw[Z7] at hv
  simp only[hi,if_true] at hv
  obtain⟨h1,h2⟩:=h i v hv
  refine⟨h1,fun j x hx=> ?_⟩
  have hj:j<sz:=h1 ▸ (Zu.1 hx).1
  rw[dM (by rw[Al];omega),if_pos (by have:=tG hj hi;omega)]
  exact h2 j x hx
 ·rename_i hi
  rw[aaX] at hv
  split at hv
  ·rename_i Ci
   have VA:=List.mem_of_getElem? hv
   refine⟨Hq v VA,fun j x hx=> ?_⟩
   have hj:j<sz:=Hq v VA ▸ (Zu.1 hx).1
   have mf:=yj (sz:=sz) (j:=j) (show k≤i by omega)
   have il:=tG (k:=k+us.length) hj (show i<k+us.length by omega)
   rw[ZR] at il
   rw[dM (by rw[Al];omega),if_neg Zl,if_pos (by rw[Al];omega)]
   have e:base+i*sz+j - (base+k*sz)=(i - k)*sz+j:=by
    rw[Nat.sub_mul]
    have:=ZY sz (show k≤i by omega)
    omega
   rw[e]
   exact qB Hq hv hx
  ·rename_i Ci
   rw[List.getElem?_drop] at hv
   have e:k+us.length+(i - k - us.length)=i:=Zl
   rw[e] at hv
   obtain⟨h1,h2⟩:=h i v hv
   refine⟨h1,fun j x hx=> ?_⟩
   have mf:=yj (sz:=sz) (j:=j) (show k+us.length≤i by omega)
   rw[ZR] at mf
   rw[dM (by rw[Al];omega),if_neg Zl,if_neg (by rw[Al];omega)]
   exact h2 j x hx
theorem cR.take {c:List Value} {base sz:Nat} {vs:List Value} (h:cR c base sz vs) (n:Nat):cR c base sz (vs.take n):=by
 intro i v hv
 rw[Z7] at hv
 split at hv
 ·exact h i v hv
 ·simp at hv
theorem cR.drop {c:List Value} {base sz:Nat} {vs:List Value} (h:cR c base sz vs) (n:Nat):cR c (base+n*sz) sz (vs.drop n):=by
 intro i v hv
 rw[List.getElem?_drop] at hv
 obtain⟨h1,h2⟩:=h (n+i) v hv
 refine⟨h1,fun j x hx=> ?_⟩
 rw[←h2 j x hx,ZR]
 congr 1;omega
theorem cR.put {c:List Value} {base sz idx off:Nat} {vs m:List Value} {x x':Value} (h:cR c base sz vs) (hx:vs[idx]? =some x)
  (ju:base+(idx+1)*sz≤c.length) (hm:off+m.length≤sz) (wb:x'.cells.toList=bZ x.cells.toList off m):
  cR (bZ c (base+idx*sz+off) m) base sz (vs.set idx x'):=by
 have bM:=(h idx x hx).1
 rw[ZR] at ju
 have gY:base+idx*sz+off+m.length≤c.length:=Zl
 have Mi:off+m.length≤x.cells.toList.length:=by have:x.cells.toList.length=x.cells.size:=ZG;omega
 intro i v hv
 rw[aat] at hv
 split at hv
 ·rename_i e;subst e
  have bz:idx<vs.length:=(Zs.1 hx).1
  simp only[bz,if_true,Zr] at hv
  subst hv
  have JO:x'.cells.size=sz:=by rw[←ZG,wb,dZ Mi,ZG];exact bM
  refine⟨JO,fun j y hy=> ?_⟩
  have hj:j<sz:=JO ▸ (Zu.1 hy).1
  have yP: (bZ x.cells.toList off m)[j]? =some y:=by rw[←wb];simpa using hy
  rw[dM Mi] at yP
  rw[dM gY]
  have e2:base+idx*sz+j - (base+idx*sz+off)=j - off:=Zl
  split at yP
  ·rw[if_pos Zl]
   exact(h idx x hx).2 j y (by simpa using yP)
  ·split at yP
   ·rw[if_neg Zl,if_pos Zl,e2];exact yP
   ·rw[if_neg Zl,if_neg Zl]
    exact(h idx x hx).2 j y (by simpa using yP)
 ·rename_i bQ
  obtain⟨h1,h2⟩:=h i v hv
  refine⟨h1,fun j y hy=> ?_⟩
  have hj:j<sz:=h1 ▸ (Zu.1 hy).1
  rw[dM gY]
  by_cases bz:i<idx
  ·have:=tG hj bz
   rw[if_pos Zl];exact h2 j y hy
  ·have:=yj (sz:=sz) (j:=j) (show idx+1≤i by omega)
   rw[ZR] at this
   rw[if_neg Zl,if_neg Zl];exact h2 j y hy
theorem gN {w:World} {b base sz:Nat} {vs:List Value} {c:Array Value} {T:TypeId} {fr:Nat×Nat} (hb:w.heap[b]? =some (.cells c T fr))
  (h:cM w b base sz vs):cR c.toList base sz vs:=by
 intro i v hv
 obtain⟨h1,h2⟩:=h.Hj hb i v hv
 exact⟨h1,fun j x hx=>by simpa using h2 j x hx⟩
theorem rM {P:Program} {w:World} {b q sz n:Nat} {vs:List Value} (h:cM w b q sz vs) (hn:n≤vs.length):
  (loadCells ⟨b,q,none⟩ (n*sz)).run P w= .ok (flat (vs.take n)).toArray w:=by
 have hs: ∀v ∈ vs.take n,v.cells.size=sz:=fun v hv=>by
  obtain⟨i,hi⟩:=aaF (ZU hv)
  exact(h i v hi).1
 have hl: (flat (vs.take n)).length=n*sz:=by rw[ft hs,aac,Nat.min_eq_left hn]
 rw[←hl]
 refine run_loadCells_list w ⟨b,q,none⟩ _ fun p x hx=> ?_
 rw[eE]
 have hp:p<n*sz:=by rw[←hl];exact(Zs.1 hx).1
 have bM:0 <sz:=by
  rcases ZM sz with e| e
  ·subst e;simp at hp
  ·exact e
 have hi:p / sz<n:=Nat.div_lt_of_lt_mul (by rw[aay];exact hp)
 have wL:p / sz*sz+p % sz=p:=by rw[aay];exact Nat.div_add_mod p sz
 have TF:p / sz<vs.length:=Zl
 have hv:vs[p / sz]? =some vs[p / sz]:=Zv TF
 have Xp: (vs.take n)[p / sz]? =some vs[p / sz]:=by rw[Z7];simp[hi,hv]
 obtain⟨h1,h2⟩:=h _ _ hv
 have hm:p % sz< (vs[p / sz]).cells.size:=by rw[h1];exact Nat.mod_lt _ bM
 have hc: (vs[p / sz]).cells[p % sz]? =some (vs[p / sz]).cells[p % sz]:=ZQ hm
 have g1:=qB hs Xp hc
 rw[wL,hx] at g1
 injection g1 with g1
 have g2:=h2 _ _ hc
 rw[aaJ,wL,←g1] at g2
 exact g2
end Go.AM
namespace Go.AM
open Go Go.RowKit
theorem bH {v:V} {sz:Nat} (h:aJ v sz=true):v.cq=true∧v.cells.length=sz:=by
 simp[aJ] at h;exact⟨h.2,h.1⟩
theorem fP {X:Ctx} {t:TypeId} {z:V} (h:dU X t=some z) (w:World): ∃zv,(zeroValue t).run X.P w= .ok zv w∧uF zv=some z:=by
 simp only[dU,info,Option.bind_eq_some_iff] at h
 obtain⟨i,h1,zv,h2,h3⟩:=h
 exact⟨zv,by simp[zeroValue,Sem.run_bind,run_typeInfo w h1,h2],h3⟩
theorem ah.cells_one {X:Ctx} {μ:Mu} {ys:List V} {us:List Value} {sz:Nat} (h:ah X μ ys us) (hb:ys.all (aJ · sz)=true):
  (∀u ∈ us,u.cells.size=sz)∧ ∀c ∈ flat us,c.oneCell'=true:=by
 have hh: ∀u ∈ us,∃y,y ∈ ys∧aj X μ y u:=fun u hu=>by
  obtain⟨i,hi⟩:=aaF hu
  have bz:i<ys.length:=by rw[h.length];exact(Zs.1 hi).1
  obtain⟨u',h1,h2⟩:=h.get (Zv bz)
  rw[hi] at h1;injection h1 with h1;subst h1
  exact⟨_,aak bz,h2⟩
 simp only[Zx] at hb
 refine⟨fun u hu=> ?_,fun c hc=> ?_⟩
 ·obtain⟨y,hy,hr⟩:=hh u hu
  obtain⟨h1,h2⟩:=bH (hb y hy)
  rw[hr.dK h1,h2]
 ·simp only[flat,List.mem_flatMap] at hc
  obtain⟨u,hu,Xq⟩:=hc
  obtain⟨y,hy,hr⟩:=hh u hu
  obtain⟨h1,h2⟩:=bH (hb y hy)
  obtain⟨j,hj⟩:=aaF Xq
  have mD:=hr.cells h1
  have bz:j<y.cells.length:=by rw[mD.length];exact(Zs.1 hj).1
  obtain⟨u',g1,g2⟩:=mD.get (Zv bz)
  rw[hj] at g1;injection g1 with g1;subst g1
  have KN:=hr.iQ h1
  simp only[Zx] at KN
  exact(g2.lJ (KN _ (aak bz))).1
theorem gO {P:Program} {w:World} {g q:Nat} {cur:Array Value} {T:TypeId} (hg:w.heap[g]? =some (.cells cur T (0,0))) (m:List Value) (hl:q+m.length≤cur.size)
  (h1: ∀v ∈ m,v.oneCell'=true): (storeCells ⟨g,q,none⟩ m).run P w= .ok () (w.setRow g (bZ cur.toList q m).toArray):=by
 have:=run_storeCells_at (P:=P) g q T m 0 cur w hg (by simpa using hl) h1
 simpa [bZ] using this
section
variable {X:Ctx} {E:Env} {C:aQ} {o:Oper} {a:Go.Act} {T:Nat→V} {μ:Mu} {v:V} {σ':St}
theorem Hr (hr:Rel X T a μ) {r sz:Nat} {arr:Bool} {es:List V} {vs:List Value} {c:Array Value} {t:TypeId} {val:Value} (bM:0 <sz) (cap:Nat)
  (b7:es.length≤cap) (jI:es.all (aJ · sz)=true) (aV:ah X μ es vs) (hc:cap*sz≤c.size) (cE:cR c.toList 0 sz vs)
  (ag: (execOp a.eval o).run X.P μ.w= .ok (.value val) (μ.w.alloc (.cells c t (0,0))))
  (hv:let μ':Mu:=⟨μ.w.alloc (.cells c t (0,0)),cC μ.φ r ⟨μ.w.heap.size,0,cap⟩,cC μ.O r {gen:=(μ.O r).gen+1,sz:=sz,arr:=arr,fz:=false,es:=some es}⟩;aj X μ' v val):
  cg X o a μ (cC μ.O r {gen:=(μ.O r).gen+1,sz:=sz,arr:=arr,fz:=false,es:=some es}) v:=by
 obtain⟨h1,h2⟩:=ye (X:=X) hr.aS r sz cap arr (es:=es) (vs:=vs) (c:=c) t bM b7 jI aV hc (fun i u hu=>by
  obtain⟨k1,k2⟩:=cE i u hu
  exact⟨k1,fun j x hx=>by simpa using k2 j x hx⟩)
 exact⟨val,_,_,.inl ag,hv,h1,h2⟩
theorem Cn {x:Value}:cR x.cells.toList 0 x.cells.size [x]:=by
 intro i v hv
 cases i with
 | zero=>simp at hv;subst hv;exact⟨rfl,fun j y hy=>by simpa using hy⟩
 | succ i=>simp at hv
theorem Hs {t:TypeId} {x':aD} {r sz:Nat} {xv:Value} (hr:Rel X T a μ) (hx:aj X μ (aT ⟨T,μ.O⟩ x') xv)
  (PQ: (execOp a.eval o).run X.P μ.w= .ok (.value (.pointer (some ⟨μ.w.heap.size,0,none⟩))) (μ.w.alloc (.cells xv.cells t (0,0))))
  (ag: (av E (.new r sz x')).run C ⟨T,μ.O⟩=some (v,σ')):σ'.T=T∧cg X o a μ σ'.O v:=by
 simp only[av,aU] at ag
 split at ag
 ·rename_i hb
  simp only[Zt,decide_eq_true_eq] at hb
  simp only[Act.run,Zr,Zw] at ag
  obtain⟨rfl,rfl⟩:=ag
  obtain⟨hl,nT⟩:=bH hb.1
  have bM:xv.cells.size=sz:=by rw[hx.dK hl,nT]
  refine⟨rfl,Hr hr (cap:=1) (es:=[aT ⟨T,μ.O⟩ x']) (vs:=[xv]) (c:=xv.cells) hb.2 Zm (by simp[hb.1]) (by simp[ah,hx]) Zl (bM ▸ Cn) PQ ?_⟩
  simp only[aj,an]
  exact⟨_,rfl,Zy _,fun _=> ⟨hb.2,Zm⟩⟩
 ·exact absurd ag ak
theorem Ht {t:TypeId} {r sz:Nat} {z:V} (ks:List Nat) (hr:Rel X T a μ) (ho:o.op= .alloc t) (hz:dU X t=some z)
  (ag: (av E (.new r sz (.const (A0 ks z)))).run C ⟨T,μ.O⟩=some (v,σ')):σ'.T=T∧cg X o a μ σ'.O v:=by
 obtain⟨zv,h1,h2⟩:=fP hz μ.w
 refine Hs (t:=t) (xv:=zv) hr (aj.A0 ks (dL h2).1) ?_ ag
 simp only[execOp,ho]
 refine cH ?_
 simp[Instr.alloc,Sem.run_bind,h1,newVar,newRow]
theorem Mj {t:TypeId} {r sz:Nat} {x:Operand} {x':aD} (ks:List Nat) (hr:Rel X T a μ) (ho:o.op= .box t x) (h1:ct X x=some x')
  (ag: (av E (.new r sz (KG ks x'))).run C ⟨T,μ.O⟩=some (v,σ')):σ'.T=T∧cg X o a μ σ'.O v:=by
 refine Hs (t:=t) (xv:=a.eval x) hr (aj.KG ks (aC hr h1 μ.O)) ?_ ag
 simp only[execOp,ho]
 refine cH ?_
 simp[Instr.box,Sem.run_bind,newVar,newRow]
theorem Am {zv:Value} {sz n:Nat} (hz:zv.cells.size=sz):
  ((Array.range (n*sz)).map (fun i=>zv.cells[i % zv.cells.size]!)).size=n*sz∧
    cR ((Array.range (n*sz)).map (fun i=>zv.cells[i % zv.cells.size]!)).toList 0 sz (List.replicate n zv):=by
 refine⟨Zm,fun i v hv=> ?_⟩
 rw[List.getElem?_replicate] at hv
 split at hv<;>simp at hv
 rename_i hi
 subst hv
 refine⟨hz,fun j x hx=> ?_⟩
 have hj:j<sz:=hz ▸ (Zu.1 hx).1
 have bz:=tG hj hi
 have hm: (i*sz+j) % sz=j:=by rw[aay,Nat.mul_add_mod];exact aa0 hj
 have hr: (Array.range (n*sz))[i*sz+j]? =some (i*sz+j):=by simp[bz]
 simp only[aaa,aa1,ZI]
 rw[aaP,hr]
 simp only[ZE,hz,hm]
 rw[getElem!_def,hx]
theorem ah.replicate {z:V} {zv:Value} (h:aj X μ z zv): ∀n,ah X μ (List.replicate n z) (List.replicate n zv)
 | 0=>by simp[ah]
 | n+1=>by simp only[List.replicate_succ,ah];exact⟨h,ah.replicate h n⟩
theorem oy {c:V} {k:V→Act} {val:Value} {O:Nat→Obj} {p:V×St} (ho:aP X ⟨μ.w,μ.φ,O⟩) (hv:aj X ⟨μ.w,μ.φ,O⟩ c val) (ag: (gJ c k).run C ⟨T,O⟩=some p):
   ∃c' O',(k c').run C ⟨T,O'⟩=some p∧aj X ⟨μ.w,μ.φ,O'⟩ c' val∧Le ⟨μ.w,μ.φ,O⟩ ⟨μ.w,μ.φ,O'⟩∧aP X ⟨μ.w,μ.φ,O'⟩∧(c.aF=true→c'.aF=true):=by
 have same: (gJ c k).run C ⟨T,O⟩=(k c).run C ⟨T,O⟩→_:=fun e=> (⟨c,O,e ▸ ag,hv,Le.refl _,ho,id⟩: ∃c' O',(k c').run C ⟨T,O'⟩=some p∧aj X ⟨μ.w,μ.φ,O'⟩ c' val∧Le ⟨μ.w,μ.φ,O⟩ ⟨μ.w,μ.φ,O'⟩∧aP X ⟨μ.w,μ.φ,O'⟩∧(c.aF=true→c'.aF=true))
 cases c with
 | mp r g=>
   simp only[gJ,Act.run] at ag
   split at ag
   ·rename_i es aZ
    split at ag
    ·rename_i hc
     obtain⟨rG,qd,Mk,JP⟩:=hc
     simp only[Act.run] at ag
     obtain⟨le,qT⟩:=lK (μ:=⟨μ.w,μ.φ,O⟩) ho r
     refine⟨_,_,ag,?_,le,qT,fun _=>rfl⟩
     simp only[aj] at hv
     obtain⟨a,rfl,h1,h2⟩:=hv
     obtain⟨k0,rfl⟩:=h2 rG
     have qt:=qT.ents r es (by simp[an,aZ]) (by simp[an,qd])
     rcases qt with⟨b7,ents,clock,hm,aV,cD⟩ | ⟨_,s,pos,_,rfl⟩ | ⟨kp,rfl⟩
     rotate_left
     ·simp[V.isTuple] at JP
     ·simp[V.isTuple] at JP
     simp only[aj]
     refine⟨Mk,.inr ⟨_,ents,clock,rfl,?_,(Zu.1 hm).1,⟨hm,cD⟩,aV⟩⟩
     rintro(⟨r',h1,h2,h3,h4⟩ | Co)
     ·by_cases e:r'=r
      ·subst e;simp[an] at h2
      ·exact qT.inj r' r e h1 (by simp[an,aZ]) h3 b7 h4
     ·exact qT.qY r (by simp[an,aZ]) b7 Co
    ·exact absurd ag ak
   ·exact absurd ag ak
 | sl r g off len=>
   simp only[gJ,Act.run] at ag
   split at ag
   ·rename_i es aZ
    split at ag
    ·rename_i hc
     obtain⟨rG,qd,Mk,JP⟩:=hc
     simp only[Act.run] at ag
     obtain⟨le,qT⟩:=lK (μ:=⟨μ.w,μ.φ,O⟩) ho r
     refine⟨_,_,ag,?_,le,qT,fun _=>rfl⟩
     have kZ: (aw es off len).length=len:=by simp[aw];omega
     have yk:=aj.mono le hv
     simp only[aj,an] at yk
     obtain⟨a0,cap,rfl,hle,_,bq⟩:=yk
     obtain⟨k0,k1,k2⟩:=bq rG
     obtain⟨q1,q2,q3,q4⟩:=qT.row r es (by simp[an,aZ]) (by simpa [an] using k0)
     simp only[an] at q1 q2 q3 q4
     simp only[aj]
     refine⟨JP,?_,a0,cap,?_⟩
     ·simp only[Zx] at q3 ⊢
      exact fun x hx=> (bH (q3 x (Z5 (ZU hx)))).1
     ·by_cases b7:cap=0
      ·have:len=0:=Zl
       subst this
       refine⟨[],by rw[kZ],by rw[kZ];omega,?_,.inl ?_⟩
       ·simp[aw,ah]
       ·simp[aw]
      ·have gX: (μ.φ r).cap≠0:=Zl
       rcases q4 with q4| ⟨cc,TT,vs,p1,p2,p3,p4⟩
       ·exact absurd q4 gX
       ·refine⟨(vs.drop off).take len,by rw[kZ],by rw[kZ];omega,ah.take _ (ah.drop _ p3),.inr ⟨_,_,k2.resolve_left b7,?_,(Zu.1 p1).1,(p4.drop off).take len⟩⟩
        rintro(⟨r',h1,h2,h3,h4⟩ | Co)
        ·by_cases e:r'=r
         ·subst e;simp[an] at h2
         ·have:=qT.inj r' r e h1 (by simp[an,aZ]) h3 gX
          exact this h4
        ·exact qT.qY r (by simp[an,aZ]) gX Co
    ·exact absurd ag ak
   ·exact absurd ag ak
 | own _ _=>exact absurd ag ak
 | msl _ _ _ _=>exact absurd ag ak
 | mptr _ _ _ _=>exact absurd ag ak
 | any=>exact absurd ag ak
 | it _ _=>exact absurd ag ak
 | _=>exact same rfl
theorem mQ: ∀ {cs:List V} {k:List V→Act} {vals:List Value} {O:Nat→Obj} {p:V×St},aP X ⟨μ.w,μ.φ,O⟩→ah X ⟨μ.w,μ.φ,O⟩ cs vals→(jf cs k).run C ⟨T,O⟩=some p→
   ∃b6 O',(k b6).run C ⟨T,O'⟩=some p∧ah X ⟨μ.w,μ.φ,O'⟩ b6 vals∧Le ⟨μ.w,μ.φ,O⟩ ⟨μ.w,μ.φ,O'⟩∧aP X ⟨μ.w,μ.φ,O'⟩∧(cs.all V.aF=true→b6.all V.aF=true)
 | [],k,[],O,p,ho,_,ag=> ⟨[],O,ag,by simp[ah],Le.refl _,ho,id⟩
 | [],_,_::_,_,_,_,h,_=>by simp[ah] at h
 | _::_,_,[],_,_,_,h,_=>by simp[ah] at h
 | c::cs,k,v::vals,O,p,ho,h,ag=>by
   simp only[ah] at h
   obtain⟨c',O1,h1,h2,h3,h4,h5⟩:=oy ho h.1 ag
   obtain⟨b6,O2,k1,k2,k3,k4,k5⟩:=mQ h4 (ah.mono h3 h.2) h1
   refine⟨c'::b6,O2,k1,?_,h3.trans k3,k4,?_⟩
   ·simp only[ah];exact⟨aj.mono k3 h2,k2⟩
   ·intro hh
    simp only[aad,Zt] at hh ⊢
    exact⟨h5 hh.1,k5 hh.2⟩
theorem gz {c:V} {k:V→Act} {val:Value} {O:Nat→Obj} {p:V×St} (ho:aP X ⟨μ.w,μ.φ,O⟩) (hv:aj X ⟨μ.w,μ.φ,O⟩ c val) (ag: (xp c k).run C ⟨T,O⟩=some p):
  ∃c' O',(k c').run C ⟨T,O'⟩=some p∧aj X ⟨μ.w,μ.φ,O'⟩ c' val∧Le ⟨μ.w,μ.φ,O⟩ ⟨μ.w,μ.φ,O'⟩∧aP X ⟨μ.w,μ.φ,O'⟩:=by
 unfold xp at ag
 split at ag
 ·exact⟨c,O,ag,hv,Le.refl _,ho⟩
 ·split at ag
  ·simp only[aj] at hv
   obtain⟨h0,vs,rfl,la⟩:=hv
   obtain⟨b6,O',h1,h2,h3,h4,h5⟩:=mQ ho la ag
   exact⟨_,O',h1,by simp only[aj];exact⟨h5 h0,vs,rfl,h2⟩,h3,h4⟩
  ·obtain⟨c',O',h1,h2,h3,h4,_⟩:=oy ho hv ag
   exact⟨c',O',h1,h2,h3,h4⟩
theorem oz: ∀ {cs:List V} {k:List V→Act} {vals:List Value} {O:Nat→Obj} {p:V×St},aP X ⟨μ.w,μ.φ,O⟩→ah X ⟨μ.w,μ.φ,O⟩ cs vals→(ml.go cs k).run C ⟨T,O⟩=some p→
   ∃b6 O',(k b6).run C ⟨T,O'⟩=some p∧ah X ⟨μ.w,μ.φ,O'⟩ b6 vals∧Le ⟨μ.w,μ.φ,O⟩ ⟨μ.w,μ.φ,O'⟩∧aP X ⟨μ.w,μ.φ,O'⟩
 | [],k,[],O,p,ho,_,ag=> ⟨[],O,ag,by simp[ah],Le.refl _,ho⟩
 | [],_,_::_,_,_,_,h,_=>by simp[ah] at h
 | _::_,_,[],_,_,_,h,_=>by simp[ah] at h
 | c::cs,k,v::vals,O,p,ho,h,ag=>by
   simp only[ah] at h
   obtain⟨c',O1,h1,h2,h3,h4⟩:=gz ho h.1 ag
   obtain⟨b6,O2,k1,k2,k3,k4⟩:=oz h4 (ah.mono h3 h.2) h1
   refine⟨c'::b6,O2,k1,?_,h3.trans k3,k4⟩
   simp only[ah];exact⟨aj.mono k3 h2,k2⟩
theorem uP {cs:List V} {k:List V→Act} {vals:List Value} {O:Nat→Obj} {p:V×St} (ho:aP X ⟨μ.w,μ.φ,O⟩) (hv:ah X ⟨μ.w,μ.φ,O⟩ cs vals) (ag: (ml cs k).run C ⟨T,O⟩=some p):
  ∃b6 O',(k b6).run C ⟨T,O'⟩=some p∧ah X ⟨μ.w,μ.φ,O'⟩ b6 vals∧Le ⟨μ.w,μ.φ,O⟩ ⟨μ.w,μ.φ,O'⟩∧aP X ⟨μ.w,μ.φ,O'⟩:=by
 unfold ml at ag
 split at ag
 ·exact⟨cs,O,ag,hv,Le.refl _,ho⟩
 ·exact oz ho hv ag
theorem yl {b:Bool} {c:V} {k:V→Act} {val:Value} {O:Nat→Obj} {p:V×St} (ho:aP X ⟨μ.w,μ.φ,O⟩) (hv:aj X ⟨μ.w,μ.φ,O⟩ c val) (ag: (oT b c k).run C ⟨T,O⟩=some p):
  ∃c' O',(k c').run C ⟨T,O'⟩=some p∧aj X ⟨μ.w,μ.φ,O'⟩ c' val∧Le ⟨μ.w,μ.φ,O⟩ ⟨μ.w,μ.φ,O'⟩∧aP X ⟨μ.w,μ.φ,O'⟩:=by
 unfold oT at ag
 split at ag
 ·rename_i r g off
  simp only[Act.run] at ag
  split at ag
  ·rename_i e aZ
   split at ag
   ·rename_i hc
    obtain⟨rG,qd,Mk⟩:=hc
    simp only[Act.run] at ag
    obtain⟨le,qT⟩:=lK (μ:=⟨μ.w,μ.φ,O⟩) ho r
    refine⟨_,_,ag,?_,le,qT⟩
    have yk:=aj.mono le hv
    simp only[aj,an] at yk
    obtain⟨a0,rfl,_,bq⟩:=yk
    obtain⟨k0,rfl⟩:=bq rG
    obtain⟨q1,q2,q3,q4⟩:=qT.row r [e] (by simp[an,aZ]) (by simpa [an] using k0)
    simp only[an] at q1 q2 q3 q4
    simp only[ZH,ZL] at q2
    have hb:aJ e (O r).sz=true:=by simpa using q3
    have b7: (μ.φ r).cap≠0:=Zl
    rcases q4 with q4| ⟨cc,TT,vs,p1,p2,p3,p4⟩
    ·omega
    match vs,p3,p4 with
    | [x],p3,p4=>
      simp only[ah,and_true] at p3
      simp only[aj]
      refine⟨Mk,(bH hb).1,_,_,_,x,?_,?_,(Zu.1 p1).1,p3,p4⟩
      ·simp
      rintro(⟨r',h1,h2,h3,h4⟩ | Co)
      · by_cases e:r'=r
        ·subst e;simp[an] at h2
        ·exact qT.inj r' r e h1 (by simp[an,aZ]) h3 b7 h4
      ·exact qT.qY r (by simp[an,aZ]) b7 Co
    | [],p3,_=>simp[ah] at p3
    | _::_::_,p3,_=>simp[ah] at p3
   ·exact absurd ag ak
  ·exact absurd ag ak
 ·exact⟨c,O,ag,hv,Le.refl _,ho⟩
theorem oA {a:Go.Act} (ht: ∀t,aj X μ (T t) (a.tmps.getD t undef)): ∀ {xs:List Operand} {ys:List aD} {bs:List Bool} {k:List V→Act} {O:Nat→Obj} {p:V×St},kK X xs=some ys→bs.length=ys.length→
   aP X ⟨μ.w,μ.φ,O⟩→Le μ ⟨μ.w,μ.φ,O⟩→(iH (bs.zip ys) k).run C ⟨T,O⟩=some p→
   ∃cs O',(k cs).run C ⟨T,O'⟩=some p∧ah X ⟨μ.w,μ.φ,O'⟩ cs (xs.map a.eval)∧Le ⟨μ.w,μ.φ,O⟩ ⟨μ.w,μ.φ,O'⟩∧aP X ⟨μ.w,μ.φ,O'⟩
 | [],ys,bs,k,O,p,h,hl,ho,le,ag=>by
   simp[kK] at h;subst h
   simp only[List.zip_nil_right,iH] at ag
   exact⟨[],O,ag,by simp[ah],Le.refl _,ho⟩
 | x::xs,ys,bs,k,O,p,h,hl,ho,le,ag=>by
   simp only[kK] at h
   split at h
   ·rename_i y RA h1 h2
    injection h with h;subst h
    match bs,hl with
    | b::bs,hl=>
      simp only[List.zip_cons_cons,iH,aU] at ag
      have hx:=aC (μ:=⟨μ.w,μ.φ,O⟩) ⟨fun t=>aj.mono le (ht t),ho⟩ h1 O
      obtain⟨c',O1,k1,k2,k3,k4⟩:=yl ho hx ag
      obtain⟨cs,O2,g1,g2,g3,g4⟩:=oA ht h2 (by simpa using hl) k4 (le.trans k3) k1
      refine⟨c'::cs,O2,g1,?_,k3.trans g3,g4⟩
      simp only[List.map_cons,ah]
      exact⟨aj.mono g3 k2,g2⟩
   ·simp at h
theorem ym {f:FuncId} {first caps:Array Operand} {n:Nat} {cs:List aD} {b:Operand→Bool} (hr:Rel X T a μ) (ho:o.op= .makeFunc (.func f) first caps) (PI:first.isEmpty=true)
  (hn:X.eT f=some n) (ht:kK X caps.toList=some cs) (ag: (av E (.pX n ((caps.toList.map b).zip cs))).run C ⟨T,μ.O⟩=some (v,σ')):σ'.T=T∧cg X o a μ σ'.O v:=by
 simp only[av] at ag
 have hl: (caps.toList.map b).length=cs.length:=by
  have:=(kL hr μ.O ht).length
  simpa using this.symm
 obtain⟨vs,O',h1,h2,h3,h4⟩:=oA hr.tmps ht hl hr.aS (Le.refl _) ag
 obtain⟨rfl,rfl⟩:=aI h1
 obtain rfl:first= #[]:=by simpa using PI
 refine⟨rfl,.func (.func f) #[] (caps.map a.eval),μ.w,μ.φ,.inl ?_,?_,h3,h4⟩
 ·simp[execOp,ho,Instr.makeFunc,Sem.run_bind]
 ·simp only[aj]
  exact⟨f,_,rfl,hn,by simpa using h2⟩
end
end Go.AM
namespace Go.AM
open Go Go.RowKit
theorem oB {α:Type} (L:List α) (p:Nat) (x:α) (h:p<L.length):L.set p x=bZ L p [x]:=by
 apply aah
 intro q
 rw[dM (by simp;omega),aat]
 by_cases hq:q<p
 ·simp[hq];omega
 ·by_cases A7:p=q
  ·subst A7;simp[h]
  ·have: ¬q<p+1:=Zl
   simp[hq,A7,this]
theorem bI {α:Type} (xs:Array α):xs.toList.length=xs.size:=ZG
section
variable {X:Ctx} {E:Env} {C:aQ} {o:Oper} {a:Go.Act} {T:Nat→V} {μ:Mu} {v:V} {σ':St}
theorem An {agg:Bool} {off sz:Nat} {e u e':V} {x val:Value} (he:aj X μ e x) (hl:e.cq=true) (hu:aj X μ u val) (h:iG agg off sz e u=some e'):
  ∃x',aj X μ e' x'∧e'.cq=true∧e'.cells.length=e.cells.length∧val.cells.size=sz∧off+sz≤x.cells.size∧x'.cells.toList=bZ x.cells.toList off val.cells.toList∧
   ∀c ∈ val.cells.toList,c.oneCell'=true:=by
 unfold iG at h
 split at h
 ·split at h
  ·rename_i cs vs
   split at h<;>simp at h
   rename_i hc
   subst h
   simp only[aj] at he hu
   obtain⟨h0,xs,rfl,hx⟩:=he
   obtain⟨k0,ys,rfl,hy⟩:=hu
   have l1:=hx.length
   have l2:=hy.length
   rw[bI xs] at l1
   rw[bI ys] at l2
   refine⟨.agg (bZ xs.toList off ys.toList).toArray,?_,rfl,?_,?_,?_,?_,?_⟩
   ·simp only[aj]
    refine⟨?_,_,rfl,?_⟩
    ·have t1:=iZ (p:=V.aF) off h0
     have t2:=kM (p:=V.aF) (off+sz) h0
     simp only[aao,t1,k0,t2,Z6]
    ·have:=((ah.take off hx).append hy).append (ah.drop (off+sz) hx)
     simpa [bZ,←l2,hc.1] using this
   ·simp[V.cells];omega
   ·simp only[Value.cells];omega
   ·simp only[Value.cells];omega
   ·simp[Value.cells]
   ·intro c Q9
    simp only[Value.cells] at Q9
    obtain⟨j,hj⟩:=aaF Q9
    have bz:j<vs.length:=by rw[hy.length];exact(Zs.1 hj).1
    obtain⟨c',g1,g2⟩:=hy.get (Zv bz)
    rw[hj] at g1;injection g1 with g1;subst g1
    simp only[Zx] at k0
    exact(g2.lJ (k0 _ (aak bz))).1
  ·simp at h
 ·split at h
  ·rename_i fL
   obtain⟨yn,mD⟩:=hu.lJ fL.1
   have DK: ∀c ∈ val.cells.toList,c.oneCell'=true:=by rw[mD];simpa using yn
   split at h
   ·rename_i cs
    split at h<;>simp at h
    rename_i Ck
    subst h
    simp only[aj] at he
    obtain⟨h0,xs,rfl,hx⟩:=he
    have l1:=hx.length
    rw[bI xs] at l1
    refine⟨.agg (xs.toList.set off val).toArray,?_,rfl,?_,?_,?_,?_,DK⟩
    ·simp only[aj]
     refine⟨?_,_,rfl,by simpa using ah.set hx off hu⟩
     simp only[Zx] at h0 ⊢
     intro c Q9
     rcases aam Q9 with hm| rfl
     ·exact h0 c hm
     ·exact fL.1
    ·simp[V.cells]
    ·rw[mD,fL.2];rfl
    ·simp only[Value.cells];omega
    ·rw[mD]
     simp only[Value.cells]
     rw[oB _ _ _ (by rw[ZG];omega)]
   ·split at h<;>simp at h
    rename_i bQ gX
    subst h
    obtain⟨_,VB⟩:=he.lJ gX.1
    refine⟨val,hu,by simp[V.cq,fL.1],?_,?_,?_,?_,DK⟩
    ·rw[V.fj fL.1,V.fj gX.1];rfl
    ·rw[mD,fL.2];rfl
    ·rw[VB,fL.2,gX.2];simp
    ·rw[mD,VB,gX.2];simp[bZ]
  ·simp at h
theorem yo {t:TypeId} {w:World} {g q sz:Nat} {cur:Array Value} {T0:TypeId} {val:Value} (hn:bj X t=some sz) (hg:w.heap[g]? =some (.cells cur T0 (0,0)))
  (hs:val.cells.size=sz) (hl:q+sz≤cur.size) (h1: ∀c ∈ val.cells.toList,c.oneCell'=true):
  (storeVar t ⟨g,q,none⟩ val).run X.P w= .ok () (w.setRow g (bZ cur.toList q val.cells.toList).toArray):=by
 have:=gO (P:=X.P) hg val.cells.toList (by rw[ZG,hs];exact hl) h1
 simp[storeVar,Sem.run_bind,dx hn,hs,this]
theorem sI {t:TypeId} {agg:Bool} {sz r g idx off:Nat} {u:V} {val:Value} {O:Nat→Obj} (ho:aP X ⟨μ.w,μ.φ,O⟩) (hu:aj X ⟨μ.w,μ.φ,O⟩ u val) (hn:bj X t=some sz) (h0:0 < (O r).sz)
  (ag: (av.jj agg sz r g idx off u).run C ⟨T,O⟩=some (v,σ')):
  σ'.T=T∧v= .tuple []∧ ∃w' φ',(storeVar t ⟨(μ.φ r).bB,(μ.φ r).base+idx*(O r).sz+off,none⟩ val).run X.P μ.w= .ok () w'∧Le ⟨μ.w,μ.φ,O⟩ ⟨w',φ',σ'.O⟩∧aP X ⟨w',φ',σ'.O⟩:=by
 simp only[av.jj,Act.run] at ag
 split at ag
 ·rename_i es aZ
  split at ag
  ·rename_i hc
   split at ag
   ·rename_i e he
    split at ag
    ·rename_i e' hp
     simp only[Act.run,Zr,Zw] at ag
     obtain⟨rfl,rfl⟩:=ag
     obtain⟨k1,k2,k3,k4⟩:=ho.row r es aZ h0
     simp only at k1 k2 k3 k4
     have bz:idx<es.length:=(Zs.1 he).1
     have gX: (μ.φ r).cap≠0:=Zl
     rcases k4 with k4| ⟨c,T0,vs,hb,ju,la,cE⟩
     ·exact absurd k4 gX
     ·obtain⟨x,hx,aV⟩:=la.get he
      have jI:aJ e (O r).sz=true:=by
       simp only[Zx] at k3
       exact k3 e (List.mem_of_getElem? he)
      obtain⟨iC,nT⟩:=bH jI
      obtain⟨x',p1,p2,p3,p4,p5,p6,p7⟩:=An aV iC hu hp
      have CY:x.cells.size=(O r).sz:=by rw[aV.dK iC,nT]
      have wF:cR c.toList (μ.φ r).base (O r).sz vs:=gN hb cE
      have hmul: (idx+1)*(O r).sz≤(μ.φ r).cap*(O r).sz:=ZY _ Zl
      have Ml: (μ.φ r).base+(idx+1)*(O r).sz≤c.toList.length:=by rw[ZG];omega
      have jx:=wF.put (x':=x') hx Ml (m:=val.cells.toList) (by rw[ZG,p4];omega) p6
      have lX:=yo (X:=X) (t:=t) (q:=(μ.φ r).base+idx*(O r).sz+off) (val:=val) hn hb p4 (by rw[ZR] at hmul;omega) p7
      have hw:=iY (μ:=⟨μ.w,μ.φ,O⟩) ho r aZ hc.2 hb gX (c':=(bZ c.toList ((μ.φ r).base+idx*(O r).sz+off) val.cells.toList).toArray)
       (by
         have: (bZ c.toList ((μ.φ r).base+idx*(O r).sz+off) val.cells.toList).length=c.toList.length:=dZ (by
          rw[ZG,ZG,p4];rw[ZR] at hmul;omega)
         simpa using this)
       (O r).gen (μ.φ r).base (μ.φ r).cap (es':=es.set idx e') (vs':=vs.set idx x') (.inl ⟨rfl,rfl,rfl⟩) gX (by simpa using k2)
       (by
         simp only[Zx] at k3 ⊢
         intro y hy
         rcases aam hy with hm| rfl
         ·exact k3 y hm
         ·simp[aJ,p2,p3,nT])
       (ah.set la idx p1) ju (fun i y hy=>by
         obtain⟨q1,q2⟩:=jx i y hy
         exact⟨q1,fun j z hz=>by simpa using q2 j z hz⟩)
      refine⟨rfl,rfl,_,_,lX,hw.1,hw.2⟩
    ·exact absurd ag ak
   ·exact absurd ag ak
  ·exact absurd ag ak
 ·exact absurd ag ak
theorem Hu {t:TypeId} {x y:Operand} {x' y':aD} {agg:Bool} {sz:Nat} (hr:Rel X T a μ) (ho:o.op= .store t x y) (h1:ct X x=some x') (h2:ct X y=some y')
  (hn:bj X t=some sz) (ag: (av E (.store agg sz x' y')).run C ⟨T,μ.O⟩=some (v,σ')):σ'.T=T∧cg X o a μ σ'.O v:=by
 simp only[av,aU] at ag
 have hx:=aC hr h1 μ.O
 have hy:=aC hr h2 μ.O
 split at ag
 ·rename_i r g idx off e
  rw[e] at hx
  simp only[aj] at hx
  obtain⟨p,hp,mf,bq⟩:=hx
  have fin: ∀w',(storeVar t p (a.eval y)).run X.P μ.w= .ok () w'→(execOp a.eval o).run X.P μ.w= .ok .skip w':=fun w' hw=>by
   simp only[execOp,ho]
   refine uM ?_
   simp[Instr.storeAt,Instr.sureAddr,Sem.run_bind,hp,hw]
  have main: ∀ {O:Nat→Obj} {u:V},Le μ ⟨μ.w,μ.φ,O⟩→aP X ⟨μ.w,μ.φ,O⟩→aj X ⟨μ.w,μ.φ,O⟩ u (a.eval y)→(av.jj agg sz r g idx off u).run C ⟨T,O⟩=some (v,σ')→
    σ'.T=T∧cg X o a μ σ'.O v:=by
   intro O u le dW hu jx
   have Xr: (O r).gen=g:=by
    simp only[av.jj,Act.run] at jx
    split at jx
    ·split at jx
     ·rename_i hc;exact hc.1
     ·exact absurd jx ak
    ·exact absurd jx ak
   have Mm:=le.gen r
   simp only at Mm
   have Fw: (μ.O r).gen=g:=Zl
   obtain⟨_,yp⟩:=le.row r (by simp only;omega)
   obtain⟨q1,q2,w',φ',q3,q4,q5⟩:=sI (t:=t) dW hu hn (by simp only at yp;rw[yp];exact(bq Fw).1) jx
   refine⟨q1,undef,w',φ',.inr ⟨fin w' ?_,rfl⟩,?_,le.trans q4,q5⟩
   ·rw[(bq Fw).2]
    simp only at yp
    rw[←yp];exact q3
   ·rw[q2];simp only[aj];exact⟨#[],rfl,by simp[ah]⟩
  simp only[Act.run] at ag
  split at ag
  ·rw[aU] at ag
   obtain⟨u,O1,k1,k2,k3,k4⟩:=gz (μ:=μ) hr.aS hy ag
   exact main k3 k4 k2 k1
  ·rw[aU] at ag
   exact main (Le.refl μ) hr.aS hy ag
 ·exact absurd ag ak
theorem EN {t:TypeId} {x y:Operand} {x' y':aD} {agg:Bool} {sz:Nat} (hr:Rel X T a μ) (ho:o.op= .store t x y) (h1:ct X x=some x') (h2:ct X y=some y')
  (hn:bj X t=some sz) (ag: (av E (.uf agg sz x' y')).run C ⟨T,μ.O⟩=some (v,σ')):σ'.T=T∧cg X o a μ σ'.O v:=by
 simp only[av,aU] at ag
 have hx:=aC hr h1 μ.O
 have hy:=aC hr h2 μ.O
 split at ag
 ·rename_i r g idx off e
  rw[e] at hx
  simp only[aj] at hx
  obtain⟨p,hp,mf,bq⟩:=hx
  have fin: ∀w',(storeVar t p (a.eval y)).run X.P μ.w= .ok () w'→(execOp a.eval o).run X.P μ.w= .ok .skip w':=fun w' hw=>by
   simp only[execOp,ho]
   refine uM ?_
   simp[Instr.storeAt,Instr.sureAddr,Sem.run_bind,hp,hw]
  have main: ∀ {O:Nat→Obj} {u:V},Le μ ⟨μ.w,μ.φ,O⟩→aP X ⟨μ.w,μ.φ,O⟩→aj X ⟨μ.w,μ.φ,O⟩ u (a.eval y)→(av.jj agg sz r g idx off u).run C ⟨T,O⟩=some (v,σ')→
    σ'.T=T∧cg X o a μ σ'.O v:=by
   intro O u le dW hu jx
   have Xr: (O r).gen=g:=by
    simp only[av.jj,Act.run] at jx
    split at jx
    ·split at jx
     ·rename_i hc;exact hc.1
     ·exact absurd jx ak
    ·exact absurd jx ak
   have Mm:=le.gen r
   simp only at Mm
   have Fw: (μ.O r).gen=g:=Zl
   obtain⟨_,yp⟩:=le.row r (by simp only;omega)
   obtain⟨q1,q2,w',φ',q3,q4,q5⟩:=sI (t:=t) dW hu hn (by simp only at yp;rw[yp];exact(bq Fw).1) jx
   refine⟨q1,undef,w',φ',.inr ⟨fin w' ?_,rfl⟩,?_,le.trans q4,q5⟩
   ·rw[(bq Fw).2]
    simp only at yp
    rw[←yp];exact q3
   ·rw[q2];simp only[aj];exact⟨#[],rfl,by simp[ah]⟩
  rw[aU] at ag
  exact main (Le.refl μ) hr.aS hy ag
 ·exact absurd ag ak
theorem wM {off:Nat}: ∀ (m:List Value) (k:Nat) (cs:Array Value),off+k+m.length≤cs.size→
   ((m.zipIdx k).foldl (fun cs (p:Value×Nat)=>cs.setIfInBounds (off+p.2) p.1) cs).toList=bZ cs.toList (off+k) m
 | [],k,cs,_=>by simp[bZ]
 | x::m,k,cs,h=>by
   simp only[List.zipIdx_cons,List.foldl_cons]
   simp at h
   rw[wM m (k+1) _ (by simp;omega)]
   rw[Array.toList_setIfInBounds]
   apply aah
   intro q
   rw[dM (by simp;omega),dM (by simp;omega),aat]
   by_cases h1:q<off+k
   ·have:q<off+(k+1):=Zl
    have h2: ¬off+k=q:=Zl
    simp[h1,this,h2]
   ·by_cases h2:q=off+k
    ·subst h2
     have h3:off+k<off+(k+1):=Zl
     have h4:off+k<cs.size:=Zl
     simp[h3,h4]
    ·by_cases h3:q<off+k+(m.length+1)
     ·have h4: ¬q<off+(k+1):=Zl
      have h5:q<off+(k+1)+m.length:=Zl
      have h6:q - (off+k)=(q - (off+(k+1)))+1:=Zl
      simp[h1,h4,h3,h5,h6]
     ·have h4: ¬q<off+(k+1):=Zl
      have h5: ¬q<off+(k+1)+m.length:=Zl
      have h6: ¬off+k=q:=Zl
      simp[h1,h4,h3,h5,h6]
theorem wN {off:Nat} {x:Value} {cs:Array Value} (h:off+x.cells.size≤cs.size):
  (x.cells.zipIdx.foldl (fun cs (p:Value×Nat)=>cs.setIfInBounds (off+p.2) p.1) cs).toList=bZ cs.toList off x.cells.toList:=by
 rw[←Array.foldl_toList,Array.toList_zipIdx]
 have:=wM (off:=off) x.cells.toList 0 cs (by rw[ZG];omega)
 simpa using this
theorem Ao {place:Nat→Option (Nat×Nat)}: ∀ {ps:List (Nat×Nat×V)} {qs:List (Nat×Value)} {cs b6:List V} {xs:Array Value},
   (ps.length=qs.length)→(∀ (i:Nat) p q,ps[i]? =some p→qs[i]? =some q→place q.1=some (p.1,p.2.1)∧aj X μ p.2.2 q.2)→ah X μ cs xs.toList→cs.all V.aF=true→
   gi cs ps=some b6→ ∃IC,Instr.fill place xs qs=some IC∧ah X μ b6 IC.toList∧b6.all V.aF=true
 | [],[],cs,b6,xs,_,_,hv,hc,h=>by
   simp[gi] at h;subst h
   exact⟨xs,rfl,hv,hc⟩
 | [],_::_,_,_,_,h,_,_,_,_=>by simp at h
 | _::_,[],_,_,_,h,_,_,_,_=>by simp at h
 | (off,sz,u)::ps,(i,q)::qs,cs,b6,xs,hl,hp,hv,hc,h=>by
   simp only[gi] at h
   split at h
   · rename_i qC
     obtain⟨h1,h2,h3⟩:=qC
     obtain⟨Hv,aV⟩:=hp 0 _ _ rfl rfl
     simp only at Hv aV
     have OZ:q.cells.size=sz:=by rw[aV.dK h3,h1]
     have hlen:=hv.length
     rw[bI xs] at hlen
     have gY:off+q.cells.size≤xs.size:=Zl
     have wO:=wN (x:=q) (cs:=xs) gY
     have DF:ah X μ (cs.take off++u.cells++cs.drop (off+sz)) (q.cells.zipIdx.foldl (fun cs (p:Value×Nat)=>cs.setIfInBounds (off+p.2) p.1) xs).toList:=by
      rw[wO]
      have:=((ah.take off hv).append (aV.cells h3)).append (ah.drop (off+sz) hv)
      simpa [bZ,OZ] using this
     have qd: (cs.take off++u.cells++cs.drop (off+sz)).all V.aF=true:=by
      have t1:=iZ (p:=V.aF) off hc
      have t2:=kM (p:=V.aF) (off+sz) hc
      simp only[aao,t1,aV.iQ h3,t2,Z6]
     obtain⟨IC,g1,g2,g3⟩:=Ao (place:=place) (ps:=ps) (qs:=qs) (by simpa using hl) (fun j p q' hj ot=>hp (j+1) p q' (by simpa using hj) (by simpa using ot)) DF qd h
     refine⟨IC,?_,g2,g3⟩
     have Cp: ¬ (q.cells.size≠sz∨xs.size<off+q.cells.size):=Zl
     simp only[Instr.fill,Hv]
     rw[if_neg (by simpa using Cp)]
     exact g1
   ·simp at h
end
end Go.AM
namespace Go.AM
open Go Go.RowKit
theorem oC {α β:Type} {P:Program} {w:World} {f:α→Sem β} {g:α→β}: ∀ (l:List α),(∀x ∈ l,(f x).run P w= .ok (g x) w)→(l.mapM f).run P w= .ok (l.map g) w
 | [],_=>Zm
 | x::l,h=>by
   have h1:=h x Zm
   have h2:=oC (f:=f) (g:=g) l fun y hy=>h y (by simp[hy])
   simp[List.mapM_cons,Sem.run_bind,h1,h2]
theorem uQ {α β:Type} {P:Program} {w:World} {f:α→Sem β} {g:α→β} (l:Array α) (h: ∀x ∈ l.toList,(f x).run P w= .ok (g x) w): (l.mapM f).run P w= .ok (l.map g) w:=by
 have:=oC l.toList h
 rw[Array.mapM_eq_mapM_toList]
 simp only[map_eq_pure_bind,Sem.run_bind,this,Result.andThen_ok,Sem.run_pure]
 congr 1
 apply Array.ext';simp
section
variable {X:Ctx} {E:Env} {C:aQ} {o:Oper} {a:Go.Act} {T:Nat→V} {μ:Mu} {v:V} {σ':St}
theorem sJ: ∀ (ps:List (Nat×Nat×aD)) (k:List (Nat×Nat×V)→Act) (σ:St),(jL ps k).run C σ=(k (ps.map fun p=> (p.1,p.2.1,aT σ p.2.2))).run C σ
 | [],_,_=>rfl
 | (_,_,x)::ps,k,σ=>by simp only[jL,aU,sJ ps,List.map_cons]
theorem sK (hr:Rel X T a μ) (O:Nat→Obj) {place:Nat→Option (Nat×Nat)}: ∀ {ps:List (Nat×Operand)} {au:List (Nat×Nat×aD)},iT X place ps=some au→
   au.length=ps.length∧ ∀ (i:Nat) p q,au[i]? =some p→ps[i]? =some q→place q.1=some (p.1,p.2.1)∧aj X μ (aT ⟨T,O⟩ p.2.2) (a.eval q.2)
 | [],au,h=>by simp[iT] at h;subst h;simp
 | (i,x)::ps,au,h=>by
   simp only[iT] at h
   split at h
   · rename_i off sz y Mn h1 h2 h3
     injection h with h;subst h
     obtain⟨k1,k2⟩:=sK hr O h3
     refine⟨by simp[k1],fun j p q hp hq=> ?_⟩
     cases j with
     | zero=>simp at hp hq;subst hp;subst hq;exact⟨h1,aC hr h2 O⟩
     | succ j=>exact k2 j p q (by simpa using hp) (by simpa using hq)
   ·simp at h
theorem uR (ks:List Nat) (hr:Rel X T a μ) {t:TypeId} {z:List V} (hz:dU X t=some (.agg z)) {place:Nat→Option (Nat×Nat)} {parts:Array (Nat×Operand)} {au:List (Nat×Nat×aD)}
  (hp:iT X place parts.toList=some au) (ag: (av E (.build (xz ks z) au)).run C ⟨T,μ.O⟩=some (v,σ')):
  σ'=⟨T,μ.O⟩∧ ∃zv cells,(zeroValue t).run X.P μ.w= .ok zv μ.w∧Instr.fill place zv.cells (parts.map fun (i,x)=> (i,a.eval x)).toList=some cells∧aj X μ v (.agg cells):=by
 simp only[av,sJ] at ag
 obtain⟨zv,qW,wP⟩:=fP hz μ.w
 obtain⟨uS,_⟩:=dL (X:=X) (μ:=μ) wP
 simp only[aj] at uS
 obtain⟨h0,xs,rfl,CY⟩:=uS
 obtain⟨l1,l2⟩:=sK hr μ.O hp
 split at ag
 ·rename_i cs mD
  obtain⟨rfl,rfl⟩:=aI ag
  have key:=Ao (X:=X) (μ:=μ) (place:=place) (ps:=au.map fun p=> (p.1,p.2.1,aT ⟨T,μ.O⟩ p.2.2)) (qs:=(parts.map fun (i,x)=> (i,a.eval x)).toList) (xs:=xs)
   (by simp[l1]) (fun j p q hp hq=>by
     simp only[ZI,Zq] at hp
     obtain⟨p',Bd,rfl⟩:=hp
     rw[aa1,ZI,Zq] at hq
     obtain⟨q',Mo,rfl⟩:=hq
     exact l2 j p' q' Bd Mo) (CY.xz ks) (pk ks h0) mD
  obtain⟨IC,g1,g2,g3⟩:=key
  exact⟨rfl,_,IC,qW,g1,by simp only[aj];exact⟨g3,IC,rfl,g2⟩⟩
 ·exact absurd ag ak
theorem EO (ks:List Nat) {t:TypeId} {parts:Array (Nat×Operand)} {z:List V} {fs:Array Field} {au:List (Nat×Nat×aD)} (hr:Rel X T a μ) (ho:o.op= .build t parts) (hz:dU X t=some (.agg z))
  (hd:bd X t=some (.struct fs)) (kb:fs.toList.all (fun f=> (bj X f.type).isSome)=true)
  (hp:iT X (fun i=>match fs[i]? with| some f=> (bj X f.type).map fun s=> (f.offset,s) | none=>none) parts.toList=some au)
  (ag: (av E (.build (xz ks z) au)).run C ⟨T,μ.O⟩=some (v,σ')):σ'.T=T∧cg X o a μ σ'.O v:=by
 obtain⟨rfl,zv,cells,h1,h2,h3⟩:=uR ks hr hz hp ag
 refine⟨rfl,aB hr.aS ?_ h3⟩
 simp only[execOp,ho]
 refine cH ?_
 have kH:X.P.underlying t=some (.struct fs):=hd
 have hm:=uQ (P:=X.P) (w:=μ.w) (f:=fun f:Field=>do pure (f.offset,←sizeOf f.type)) (g:=fun f:Field=> (f.offset,(bj X f.type).getD 0)) fs (fun f hf=>by
  simp only[Zx] at kb
  obtain⟨s,hs⟩:=ZA.1 (kb f hf)
  simp[Sem.run_bind,dx hs,hs])
 have Fv: (fun (i:Nat)=> (fs.map fun (f:Field)=> (f.offset,(bj X f.type).getD 0))[i]?)=fun (i:Nat)=>match fs[i]? with| some f=> (bj X f.type).map fun s=> (f.offset,s) | none=>none:=by
  funext i
  rw[Array.getElem?_map]
  cases hf:fs[i]? with
  | none=>rfl
  | some f=>
    simp only[Zx] at kb
    obtain⟨s,hs⟩:=ZA.1 (kb f (by simpa using Array.mem_of_getElem? hf))
    simp[hs]
 simp only[Instr.build,Sem.run_bind,h1,Result.andThen_ok,run_underlying kH,hm,Fv,h2,Sem.run_pure]
theorem EP (ks:List Nat) {t e:TypeId} {n s:Nat} {parts:Array (Nat×Operand)} {z:List V} {au:List (Nat×Nat×aD)} (hr:Rel X T a μ) (ho:o.op= .build t parts) (hz:dU X t=some (.agg z))
  (hd:bd X t=some (.array n e)) (hs:bj X e=some s) (hp:iT X (fun i=>some (i*s,s)) parts.toList=some au)
  (ag: (av E (.build (xz ks z) au)).run C ⟨T,μ.O⟩=some (v,σ')):σ'.T=T∧cg X o a μ σ'.O v:=by
 obtain⟨rfl,zv,cells,h1,h2,h3⟩:=uR ks hr hz hp ag
 refine⟨rfl,aB hr.aS ?_ h3⟩
 simp only[execOp,ho]
 refine cH ?_
 have kH:X.P.underlying t=some (.array n e):=hd
 simp only[Instr.build,Sem.run_bind,h1,Result.andThen_ok,run_underlying kH,dx hs,h2,Sem.run_pure]
theorem oD (hr:Rel X T a μ): ∀ {ps:List (Nat×Operand)} {au:List (Nat×aD)} {k:List (Nat×V)→Act} {O:Nat→Obj} {p:V×St},nG X ps=some au→Le μ ⟨μ.w,μ.φ,O⟩→aP X ⟨μ.w,μ.φ,O⟩→
   (gL au k).run C ⟨T,O⟩=some p→
   ∃vs O',(k vs).run C ⟨T,O'⟩=some p∧vs.length=ps.length∧Le ⟨μ.w,μ.φ,O⟩ ⟨μ.w,μ.φ,O'⟩∧aP X ⟨μ.w,μ.φ,O'⟩∧
     ∀ (i:Nat) q q',vs[i]? =some q→ps[i]? =some q'→q.1=q'.1∧aj X ⟨μ.w,μ.φ,O'⟩ q.2 (a.eval q'.2)
 | [],au,k,O,p,h,le,ho,ag=>by
   simp[nG] at h;subst h
   exact⟨[],O,ag,rfl,Le.refl _,ho,Zm⟩
 | (i,x)::ps,au,k,O,p,h,le,ho,ag=>by
   simp only[nG] at h
   split at h
   · rename_i y Mn h1 h2
     injection h with h;subst h
     simp only[gL,aU] at ag
     have hx:aj X ⟨μ.w,μ.φ,O⟩ (aT ⟨T,O⟩ y) (a.eval x):=by
      have:=aj.mono le (aC hr h1 O)
      exact this
     obtain⟨u,O1,k1,k2,k3,k4⟩:=gz (μ:=μ) ho hx ag
     obtain⟨vs,O2,g1,g2,g3,g4,g5⟩:=oD hr h2 (le.trans k3) k4 k1
     refine⟨(i,u)::vs,O2,g1,by simp[g2],k3.trans g3,g4,fun j q q' hq Mo=> ?_⟩
     cases j with
     | zero=>simp at hq Mo;subst hq;subst Mo;exact⟨rfl,aj.mono g3 k2⟩
     | succ j=>exact g5 j q q' (by simpa using hq) (by simpa using Mo)
   ·simp at h
theorem rN {α:Type} (L:List α) (i:Nat) (x:α) (h:i<L.length):L.set i x=L.take i++[x]++L.drop (i+1):=by
 rw[oB L i x h];rfl
theorem oE {sz:Nat}: ∀ {vs:List (Nat×V)} {qs:List (Nat×Value)} {es es':List V} {us:List Value} {c:Array Value},vs.length=qs.length→
   (∀ (i:Nat) p q,vs[i]? =some p→qs[i]? =some q→p.1=q.1∧aj X μ p.2 q.2)→ah X μ es us→cR c.toList 0 sz us→c.size=us.length*sz→es.all (aJ · sz)=true→
   cW sz es vs=some es'→ ∃c' IF,Instr.fill (fun i=>some (i*sz,sz)) c qs=some c'∧ah X μ es' IF∧cR c'.toList 0 sz IF∧c'.size=IF.length*sz∧
     es'.all (aJ · sz)=true∧es'.length=es.length
 | [],[],es,es',us,c,_,_,hv,hs,hc,hb,h=>by
   simp[cW] at h;subst h
   exact⟨c,us,rfl,hv,hs,hc,hb,rfl⟩
 | [],_::_,_,_,_,_,h,_,_,_,_,_,_=>by simp at h
 | _::_,[],_,_,_,_,h,_,_,_,_,_,_=>by simp at h
 | (i,u)::vs,(i',q)::qs,es,es',us,c,hl,hp,hv,hs,hc,hb,h=>by
   simp only[cW] at h
   split at h
   · rename_i qC
     obtain⟨hi,jI⟩:=qC
     obtain⟨e1,aV⟩:=hp 0 _ _ rfl rfl
     simp only at e1 aV
     subst e1
     obtain⟨iC,nT⟩:=bH jI
     have OZ:q.cells.size=sz:=by rw[aV.dK iC,nT]
     have Xs:i<us.length:=by rw[←hv.length];exact hi
     have hmul: (i+1)*sz≤us.length*sz:=ZY _ Zl
     rw[ZR] at hmul
     have gY:i*sz+q.cells.size≤c.size:=Zl
     have wO:=wN (x:=q) (cs:=c) gY
     have PR:flat [q]=q.cells.toList:=by simp[flat]
     have hw:=hs.write (k:=i) (us:=[q]) Zl (by simpa using OZ) (by rw[bI];simp;omega)
     rw[PR,aaa] at hw
     have G8:us.take i++[q]++us.drop (i+[q].length)=us.set i q:=(rN us i q Xs).symm
     rw[G8,←wO] at hw
     have bM: (q.cells.zipIdx.foldl (fun cs (p:Value×Nat)=>cs.setIfInBounds (i*sz+p.2) p.1) c).size=(us.set i q).length*sz:=by
      rw[←bI,wO,dZ (by rw[bI,bI];exact gY),bI];simpa using hc
     have TG: (es.set i u).all (aJ · sz)=true:=by
      simp only[Zx] at hb ⊢
      intro y hy
      rcases aam hy with hm| rfl
      ·exact hb y hm
      ·exact jI
     obtain⟨c',IF,g1,g2,g3,g4,g5,g6⟩:=oE (vs:=vs) (qs:=qs) (by simpa using hl) (fun j p q' hj ot=>hp (j+1) p q' (by simpa using hj) (by simpa using ot)) (ah.set hv i aV) hw bM TG h
     refine⟨c',IF,?_,g2,g3,g4,g5,by simpa using g6⟩
     have Cp: ¬ (q.cells.size≠sz∨c.size<i*sz+q.cells.size):=Zl
     simp only[Instr.fill]
     rw[if_neg (by simpa using Cp)]
     exact g1
   ·simp at h
theorem po {t e:TypeId} {n sz r:Nat} {parts:Array (Nat×Operand)} {z:V} (hr:Rel X T a μ) (ho:o.op= .buildSlice t n parts) (hd:bd X t=some (.slice e))
  (hn:bj X e=some sz) (hz:dU X e=some z) (NI: ∃vs O',(match cW sz (List.replicate n z) vs with
    | some es=>if aJ z sz &&decide (0 <sz∧n*sz≤16777216) then AM.Act.bn r fun o=>AM.Act.bl r {gen:=o.gen+1,sz,arr:=true,fz:=false,es:=some es} (.done (.sl r (o.gen+1) 0 n)) else AM.Act.fail
    | none=>AM.Act.fail).run C ⟨T,O'⟩=some (v,σ')∧vs.length=parts.toList.length∧Le μ ⟨μ.w,μ.φ,O'⟩∧aP X ⟨μ.w,μ.φ,O'⟩∧
    ∀ (i:Nat) q q',vs[i]? =some q→parts.toList[i]? =some q'→q.1=q'.1∧aj X ⟨μ.w,μ.φ,O'⟩ q.2 (a.eval q'.2)):σ'.T=T∧cg X o a μ σ'.O v:=by
 obtain⟨vs,O1,k1,k2,k3,k4,k5⟩:=NI
 split at k1
 ·rename_i es aZ
  split at k1
  · rename_i hc
    simp only[Zt,decide_eq_true_eq] at hc
    obtain⟨Hw,bM,Ap⟩:=hc
    simp only[Act.run,Zr,Zw] at k1
    obtain⟨rfl,rfl⟩:=k1
    refine⟨rfl,?_⟩
    obtain⟨zv,qW,wP⟩:=fP hz μ.w
    obtain⟨uS,Cq⟩:=dL (X:=X) (μ:=⟨μ.w,μ.φ,O1⟩) wP
    have Hx:zv.cells.size=sz:=by rw[uS.dK Cq,(bH Hw).2]
    obtain⟨q1,q2⟩:=Am (n:=n) Hx
    have Xt: (List.replicate n z).all (aJ · sz)=true:=by
     simp only[Zx,List.mem_replicate]
     rintro y ⟨_,rfl⟩;exact Hw
    obtain⟨c',IF,g1,g2,g3,g4,g5,g6⟩:=oE (X:=X) (μ:=⟨μ.w,μ.φ,O1⟩) (sz:=sz) (vs:=vs) (qs:=(parts.map fun (i,x)=> (i,a.eval x)).toList) (by simp[k2]) (fun j p q hj hq=>by
     rw[aa1,ZI,Zq] at hq
     obtain⟨q',Mo,rfl⟩:=hq
     exact k5 j p q' hj Mo) (ah.replicate uS n) q2 (by rw[q1];simp) Xt aZ
    have hlen:es.length=n:=by simpa using g6
    have sC:IF.length=n:=by rw[←g2.length];exact hlen
    obtain⟨Cr,KO⟩:=ye (X:=X) (μ:=⟨μ.w,μ.φ,O1⟩) k4 r sz n true (es:=es) (vs:=IF) (c:=c') e bM Zl g5 g2 (by rw[g4,sC];exact Zy _) (fun i u hu=>by
     obtain⟨m1,m2⟩:=g3 i u hu
     exact⟨m1,fun j x hx=>by simpa using m2 j x hx⟩)
    refine⟨.slice (some ⟨μ.w.heap.size,0,none⟩) n n,_,_,.inl ?_,?_,k3.trans Cr,KO⟩
    ·simp only[execOp,ho]
     refine cH ?_
     have kH:X.P.underlying t=some (.slice e):=hd
     have PS: ¬n*sz >2 ^ 24:=by
      have: (2:Nat) ^ 24=16777216:=Zn
      omega
     simp only[Instr.buildSlice,Sem.run_bind,run_underlying kH,Result.andThen_ok,dx hn]
     rw[if_neg PS]
     have iU: ∀zero:Array Value,(n*sz=0∨zero=zv.cells)→(Array.range (n*sz)).map (fun i=>zero[i % zero.size]!)=(Array.range (n*sz)).map (fun i=>zv.cells[i % zv.cells.size]!):=by
      rintro zero (h0| rfl)
      ·have Lt:Array.range 0= #[]:=rfl
       rw[h0,Lt];simp
      ·rfl
     by_cases Iv:n*sz=0
     ·rw[if_pos Iv]
      simp only[Sem.run_bind,Sem.run_pure,Result.andThen_ok]
      rw[iU #[] (.inl Iv),g1]
      simp only[newRow,Sem.run_bind,run_newObj,Result.andThen_ok,Sem.run_pure]
      rfl
     ·rw[if_neg Iv]
      simp only[Sem.run_bind,qW,Result.andThen_ok,Sem.run_pure]
      rw[iU zv.cells (.inr rfl),g1]
      simp only[newRow,Sem.run_bind,run_newObj,Result.andThen_ok,Sem.run_pure]
      rfl
    ·simp only[aj,an]
     exact⟨_,_,rfl,Zy _,Zy _,fun _=> ⟨bM,Zm,Zm⟩⟩
  ·exact absurd k1 ak
 ·exact absurd k1 ak
theorem vH {t e:TypeId} {n sz r:Nat} {parts:Array (Nat×Operand)} {z:V} {au:List (Nat×aD)} (hr:Rel X T a μ) (ho:o.op= .buildSlice t n parts) (hd:bd X t=some (.slice e))
  (hn:bj X e=some sz) (hz:dU X e=some z) (hp:nG X parts.toList=some au) (ag: (av E (.buildSlice r sz z n au)).run C ⟨T,μ.O⟩=some (v,σ')):σ'.T=T∧cg X o a μ σ'.O v:=by
 simp only[av] at ag
 exact po hr ho hd hn hz (oD hr hp (Le.refl μ) hr.aS ag)
end
end Go.AM
