/- Texts of the proof. -/
import Derived.Test.YtdldmebldkgcnaaGreatDefs
import Derived.Calls
import Derived.Orders
import Derived.Below
import Derived.Laws.Cells
import Derived.Laws.Rows
import Derived.Laws.Tables
import Derived.Laws.CopyRow
import Derived.ChangeKeysEq
import Derived.Laws.StructEq
import Derived.IntWalk
set_option linter.unusedSimpArgs false
set_option linter.unusedVariables false
namespace Go.AM
structure Hints where
 cu:List (Option Nat):=[]
 bB:List Nat:=[]
 name:List (Nat×Nat):=[]
 lits:List (Nat×List Nat):=[]
 mP:List (Nat×Nat×Nat):=[]
 ig:List (Nat×Nat×Nat):=[]
 dyn:List (Nat×Nat):=[]
 bS:List Nat:=[]
 deep:List Nat:=[]
 QA:List Nat:=[]
 tag:Option (Nat×Nat):=none
 keys:List (Nat×List Nat×List Nat):=[]
 n:Nat:=0
structure TrEnv where
 P:Program
 fH:FuncId→Option Nat
 qM:TypeId→Option Nat
variable (X:TrEnv)
def r9:Value→Option V
 | .bool b=>some (.bool b)
 | .int k n=>some (.int k n)
 | .float .f64 b=>some (.float b)
 | .string s=>some (.str s.data.toList)
 | .pointer none=>some .nilp
 | .slice none 0 0=>some .nils
 | .map none=>some (.mlit [])
 | .nilFunc=>some .nilfn
 | .nilIface=>some .nili
 | _=>none
def mF:List Value→Option (List V)
 | []=>some []
 | v::vs=>match r9 v,mF vs with
   | some c,some cs=>some (c::cs)
   | _,_=>none
def BC:Value→Option V
 | .agg cs=> (mF cs.toList).map .agg
 | v=>r9 v
def info (t:TypeId):Option TypeInfo:=X.P.info? t
def bQ (t:TypeId):Option Nat:=(info X t).map (·.size)
def bL (t:TypeId):Option TypeDesc:=X.P.underlying t
def gN (t:TypeId):Option Bool:=(bL X t).map fun| .struct _=>true| .array .. =>true| _=>false
def ft (t:TypeId):Option V:=(info X t).bind fun i=>i.zero.bind BC
def dm:Operand→Option aU
 | .tmp t=>some (.tmp t)
 | .const v=> (BC v).map .const
 | .func f=> (X.fH f).map fun n=> .const (.fn n [])
 | .global _=>none
def oD:List Operand→Option (List aU)
 | []=>some []
 | o::os=>match dm X o,oD os with
   | some a,some asq=>some (a::asq)
   | _,_=>none
def CN:Option Operand→Option (Option aU)
 | none=>some none
 | some o=> (dm X o).map some
mutual
def gO:Nat→TypeId→Option (List Nat)
 | 0,_=>none
 | d+1,t=>match bL X t with
   | some .bool=>if bQ X t=some 1 then some [0] else none
   | some (.int _)=>if bQ X t=some 1 then some [1] else none
   | some .string=>if bQ X t=some 1 then some [2] else none
   | some (.struct fs)=>if X.P.stoodInHeld t=false then(match pq d fs.toList 0 with
      | some ks=>if bQ X t=some ks.length then some ks else none
      | none=>none) else none
   | some (.array n e)=>if gN X e=some false∧bQ X t=some n then(match gO d e with
      | some [k]=>some (List.replicate n k)
      | _=>none) else none
   | _=>none
def pq:Nat→List Field→Nat→Option (List Nat)
 | 0,_,_=>none
 | _+1,[],_=>some []
 | d+1,f::fs,off=>if f.name≠ "_" ∧f.offset=off then match gO d f.type with
    | some ks=>match pq d fs (off+ks.length) with
      | some wG=>some (ks++wG)
      | none=>none
    | none=>none
   else none
end
def lK (place:Nat→Option (Nat×Nat)):List (Nat×Operand)→Option (List (Nat×Nat×aU))
 | []=>some []
 | (i,o)::ps=>match place i,dm X o,lK place ps with
   | some (off,sz),some a,some asq=>some ((off,sz,a)::asq)
   | _,_,_=>none
def sg:List (Nat×Operand)→Option (List (Nat×aU))
 | []=>some []
 | (i,o)::ps=>match dm X o,sg ps with
   | some a,some asq=>some ((i,a)::asq)
   | _,_=>none
def nu (t:Nat):Nat:=16*(t+1)
def nameOf (h:Hints) (dst:Nat):Nat:=((h.name.find? (·.1==dst)).map (·.2)).getD (nu dst)
def XH (ks:List Nat):aU→aU
 | .const v=> .const (Ji ks v)
 | x=>x
def adz (h:Hints) (dst:Nat):Option Nat:=(h.dyn.find? (·.1==dst)).map (·.2)
def ud (h:Hints) (dst:Nat):List Nat:=((h.lits.find? (·.1==dst)).map (·.2)).getD []
def adA (h:Hints) (dst:Nat):Option (Nat×Nat):=(h.mP.find? (·.1==dst)).map (·.2)
def isNil:Operand→Bool
 | .const (.slice none 0 0)=>true
 | _=>false
def adB (h:Hints) (dst:Nat) (x:Operand):Option Nat:=match x with
 | .tmp t=> (h.ig.find? (fun p=>p.1==dst &&p.2.1==t)).map (·.2.2)
 | _=>none
def BD (h:Hints) (dst:Nat) (x:Operand):Option uC:=
 match isNil x,adA h dst with
 | true,some (r,sz)=>some (.uK r sz)
 | _,_=>match adB h dst x with
   | some r=> (dm X x).map fun y=> .ren r y
   | none=> (dm X x).map fun y=> .move (XH (ud h dst) y)
def vK (bytes:Nat):Nat:=(140737488355328 - 200*(bytes+1)) / (bytes+1)
def Wr (h:Hints) (dst r sz lim:Nat) (s x:aU):uC:=
 match adz h dst with
 | some ix=> .uP ix (16000000+nu dst) sz lim s x
 | none=> .append r sz lim s x
def BE (h:Hints) (dst:Nat) (c:Call):Option uC:=
 match c.callee with
 | .value f=>match dm X f,oD X c.args.toList with
   | some f,some asq=>some (.call (nu dst+(if h.bS.contains dst then 1 else 0)+(if h.deep.contains dst then 4 else 0)) (h.bB.contains dst) f asq)
   | _,_=>none
 | .invoke .. =>none
 | .builtin b=>match b,c.args.toList,c.argTypes.toList with
   | .len,[x],[t]=>match dm X x,bL X t with
     | some x,some (.slice _)=>some (.len x)
     | some x,some .string=>some (.Aa x)
     | some _,some (.array n _)=>some (.move (.const (.int .i64 n)))
     | _,_=>none
   | .min,xs,_=> (oD X xs).map .min
   | .max,xs,_=> (oD X xs).map .max
   | .append,[s,x],[t,t']=>match dm X s,dm X x,bL X t,bL X t' with
     | some s,some x,some (.slice e),some d=>match bQ X e,info X e,ft X e,d with
       | some sz,some i,some z,.slice _| some sz,some i,some z,.string=>if aV z sz then some (Wr h dst (nameOf h dst) sz (vK i.bytes) s x) else none
       | _,_,_,_=>none
     | _,_,_,_=>none
   | .clear,[x],[t]=>match dm X x,bL X t with
     | some x,some (.slice e)=>match bQ X e,ft X e with
       | some sz,some z=>some (.clear sz z x)
       | _,_=>none
     | _,_=>none
   | _,_,_=>none
def Tc:BinOp→Bool
 | .eql=>true
 | .neq=>true
 | _=>false
def yB:BinOp→Bool
 | .neq=>true
 | _=>false
def MN (op:BinOp) (t:TypeId) (x y:aU):Option uC:=
 if Tc op then match bL X t with
  | some (.int _) | some .string=>some (.bin op x y)
  | some (.pointer e)=> (match bQ X e with
    | some (_+1)=>some (.Yf (yB op) x y)
    | _=>none)
  | some (.struct _)=>if X.P.eqGuardType X.P.depth t=false then(gO X 100 t).map fun ks=> .eqA (yB op) ks x y else none
  | some (.array _ _)=>if X.P.eqGuardType X.P.depth t=false then(gO X 100 t).map fun ks=> .eqA (yB op) ks x y else none
  | _=>none
 else some (.bin op x y)
def vL (kt:TypeId):Option (Option IntKind):=match bL X kt with
 | some (.int k)=>some (some k)
 | some .string=>some none
 | _=>none
def cN (kt:TypeId):Option (List Nat):=match bL X kt with
 | some (.struct _)=>gO X 100 kt
 | _=>none
def isZero:V→Bool
 | .int .i64 n=>n==0
 | _=>false
def XI (h:Hints):Operand→Bool
 | .tmp t=>h.bS.contains t
 | _=>false
def CO (h:Hints) (dst:Nat):Op→Option uC
 | .move x| .assign x=>if h.deep.contains dst then(dm X x).map .deep else if h.QA.contains dst then(dm X x).map .Ql else BD X h dst x
 | .pick c a b=>match dm X c,dm X a,dm X b with
   | some c,some a,some b=>some (.pick c a b)
   | _,_,_=>none
 | .alloc t=>match bQ X t,ft X t with
   | some sz,some z=>some (.new (nu dst) sz (.const (Ji (ud h dst) z)))
   | _,_=>none
 | .box t x=>match bQ X t,dm X x with
   | some sz,some x=>some (.new (nu dst) sz (XH (ud h dst) x))
   | _,_=>none
 | .build t ps=>match ft X t,bL X t with
   | some (.agg z),some (.struct fs)=>if !fs.toList.all (fun f=> (bQ X f.type).isSome) then none else(lK X (fun i=>match fs[i]? with| some f=> (bQ X f.type).map fun s=> (f.offset,s) | none=>none) ps.toList).map (.build (EN (ud h dst) z))
   | some (.agg z),some (.array _ e)=>match bQ X e with
     | some s=> (lK X (fun i=>some (i*s,s)) ps.toList).map (.build (EN (ud h dst) z))
     | none=>none
   | _,_=>none
 | .buildSlice t n ps=>match bL X t with
   | some (.slice e)=>match bQ X e,ft X e,sg X ps.toList with
     | some sz,some z,some asq=>some (.buildSlice (nu dst) sz z n asq)
     | _,_,_=>none
   | _=>none
 | .load t x=>match gN X t,bQ X t,dm X x with
   | some a,some sz,some x=>some (if (ud h dst).isEmpty then .load a sz x else .C7 (ud h dst) a sz x)
   | _,_,_=>none
 | .store t x v=>match gN X t,bQ X t,dm X x,dm X v with
   | some a,some sz,some x',some v=>some (if XI h x then .Ac a sz x' v else .store a sz x' v)
   | _,_,_,_=>none
 | .nilCheck x=> (dm X x).map .nilCheck
 | .binOp op t x y _=>match dm X x,dm X y with
   | some x,some y=>MN X op t x y
   | _,_=>none
 | .unOp op _ x=> (dm X x).map (.un op)
 | .convert s d x=>match bL X s,bL X d,dm X x with
   | some (.int _),some (.int k),some x=>some (.uL k x)
   | some (.int _),some (.float .f64),some x=>some (.z6 x)
   | some (.float .f64),some (.int k),some x=>some (.z7 k x)
   | _,_,_=>none
 | .makeInterface _ _=>some .bad
 | .makeFunc (.func f) first caps=>if first.isEmpty then match X.fH f,oD X caps.toList with
     | some n,some cs=>some (if h.deep.contains dst then .uR n ((caps.toList.map (XI h)).zip cs) else .z8 n cs)
     | _,_=>none
   else if caps.isEmpty then match X.fH f,(if h.bS.contains dst then some (first.toList.map fun _=> .const .any) else oD X first.toList) with
     | some n,some cs=>some (.uQ n cs)
     | _,_=>none
   else none
 | .slice t x lo hi mx=>match bL X t,dm X x,CN X lo,CN X hi,CN X mx with
   | some (.slice e),some x,some lo,some hi,some mx=> (bQ X e).map fun sz=> .slice sz x lo hi mx
   | _,_,_,_,_=>none
 | .fieldAddr s x i=>match bL X s,dm X x with
   | some (.struct fs),some x=>match fs[i]? with
     | some f=>match bQ X f.type with
       | some (_+1)=>some (.fieldAddr f.offset x)
       | _=>none
     | none=>none
   | _,_=>none
 | .indexAddr t x i=>match bL X t,dm X x,dm X i with
   | some (.slice e),some x,some i=> (bQ X e).map fun sz=> .indexAddr sz x i
   | some (.array n e),some x,some i=> (bQ X e).map fun sz=> .p8 n sz x i
   | _,_,_=>none
 | .index t x i=>match bL X t,dm X x,dm X i with
   | some .string,some x,some i=>some (.qa x i)
   | _,_,_=>none
 | .extract x i=> (dm X x).map fun x=> .extract x i
 | .makeMap _ none=>some (.mkMap (nu dst))
 | .range t x=>match bL X t,dm X x with
   | some (.map _ _),some x=>some (.mapIter (nu dst) x)
   | _,_=>none
 | .lookup t x i ok=>match bL X t,dm X x,dm X i with
   | some (.map kt et),some x,some i=>match vL X kt,ft X et with
     | some q,some z=>some (.Ab q ok z x i)
     | none,some z=> (cN X kt).map fun ks=>if h.bS.contains dst && !ok &&isZero z then .lu ks x i else .rN ks ok z x i
     | _,_=>none
   | _,_,_=>none
 | .mapUpdate t m k v=>match bL X t,dm X m,dm X k,dm X v with
   | some (.map kt _),some m,some k,some v=>match vL X kt with
     | some q=>some (.wP q m k v)
     | none=> (cN X kt).map fun ks=> .rM ks m k v
   | _,_,_,_=>none
 | .mapEntry t m k=>match bL X t,dm X m,dm X k with
   | some (.map kt et),some m,some k=>match cN X kt,ft X et with
     | some ks,some z=>if h.bS.contains dst &&isZero z then some (.lz ks m k) else none
     | _,_=>none
   | _,_,_=>none
 | .entryStore _ m s v=>match dm X m,dm X s,dm X v with
   | some m,some s,some v=>some (.uO m s v)
   | _,_,_=>none
 | .insert t m k v=>match bL X t,dm X m,dm X k,dm X v with
   | some (.map kt _),some m,some k,some v=>match vL X kt with
     | some q=>some (.wP q m k v)
     | none=> (cN X kt).map fun ks=> .rM ks m k v
   | _,_,_,_=>none
 | .call c=>BE X h dst c
 | _=>none
def nR (h:Hints) (ops:Array Oper) (o:Oper):Option b9:=
 let g:Option (Option (Nat×Bool)):=match o.guard with
  | none=>some none
  | some (j,want)=>match (ops[j]?).bind (·.dst) with
    | some d=>some (some (d,want))
    | none=>none
 match g,o.dst.all (· <h.n) with
 | some g,true=>some {dst:=o.dst,op:=(CO X h (o.dst.getD 0) o.op).getD .bad,guard:=g,pre:=(o.after.toList.filter (Region.binds .any)).map (·.on)}
 | _,_=>none
def iJ (h:Hints) (ops:Array Oper):List Oper→Option (List b9)
 | []=>some []
 | o::os=>match nR X h ops o,iJ h ops os with
   | some a,some asq=>some (a::asq)
   | _,_=>none
def FJ (h:Hints) (a:Code):Option (Nat×Nat×Nat×Nat×List Nat×List Nat):=
 match a with
 | .seq (.region ..) (.block id (.loop (.seq (.region _ ops false) (.seq (.cond ..) (.block _ (.seq (.region _ iA false) _))))))=>match ops[0]?,iA[0]? with
   | some o,some o5=>match o.op,o.dst,o.guard,o5.op,o5.dst,o5.guard with
     | .next (.tmp it) false,some nx,none,.entry (.tmp it'),some ne,none=> (match h.keys.find? (·.1==nx) with
       | some k=>if nx<h.n∧ne<h.n∧it'=it then some (it,nx,ne,id,k.2.1,k.2.2) else none
       | none=>none)
     | _,_,_,_,_,_=>none
   | _,_=>none
 | _=>none
def Ip:Code→Bool
 | .seq (.region ..) _=>true
 | _=>false
def Iq (h:Hints) (a b:Code) (ta tb:aY):aY:=
 match FJ h a,Ip b,ta,tb with
 | some (it,nx,ne,id,kT,kO),true,.seq tR (.block _ (.loop (.seq (.region asq) (.seq tc (.block b1 (.seq (.region bs) tz)))))),.seq tS BF=> .seq tR (.seq (.keys it nx ne id kT kO (.seq (.region (asq.drop 1)) tc) (.block b1 (.seq (.region (bs.drop 1)) tz)) tS) BF)
 | _,_,_,_=> .seq ta tb
def cD (h:Hints):Code→Option aY
 | .skip=>some .skip
 | .region _ ops false=> (iJ X h ops ops.toList).map fun l=> .region (l.map fun o=> {o with pre:=[]})
 | .region _ ops true=> (iJ X h ops ops.toList).map .drawn
 | .seq a b=>match cD h a,cD h b with
   | some ta,some tb=>some (Iq h a b ta tb)
   | _,_=>none
 | .cond c a b=>match dm X c,cD h a,cD h b with
   | some c,some a,some b=>some (.cond c a b)
   | _,_,_=>none
 | .block id b=> (cD h b).map (.block id)
 | .loop b=> (cD h b).map .loop
 | .exit id=>some (.exit id)
 | .ret=>some .ret
 | .scope b=> (cD h b).map .scope
 | .rangeFunc f ps a b=>match dm X f,cD h a,cD h b with
   | some f,some a,some b=>if ps.toList.all (fun p=>Nat.blt p h.n)=true then some (.pW f ps.toList a b) else none
   | _,_,_=>none
 | .label _=>some .skip
 | _=>some .bad
def vM:ResultVar→Option uA
 | .tmp t=>some (.tmp t)
 | .cell a t=>match gN X t,bQ X t with
   | some g,some sz=>some (.cell a g sz)
   | _,_=>none
def j0:List ResultVar→Option (List uA)
 | []=>some []
 | r::rs=>match vM X r,j0 rs with
   | some a,some asq=>some (a::asq)
   | _,_=>none
def EP (h:Hints) (f:Func):Option aQ:=
 match f.body with
 | none=>none
 | some b=>match cD X {h with n:=f.ntmps} b,j0 X f.results.toList with
   | some c,some rs=>some {nparams:=f.params.size+f.nfree,ntmps:=f.ntmps,cu:=h.cu,results:=rs,body:=c,tag:=h.tag}
   | _,_=>none
end Go.AM
namespace Go.AM
open Go Go.RowKit
structure Ctx extends TrEnv where
 XJ:Nat→Prop
 tok:Nat×Nat
instance:CoeOut Ctx TrEnv:=⟨Ctx.toTrEnv⟩
structure Row where
 bY:Nat
 base:Nat
 cap:Nat
structure Mu where
 w:World
 φ:Nat→Row
 O:Nat→Obj
def Mu.own (μ:Mu) (b:Nat):Prop:= ∃r,(μ.O r).es.isSome=true∧(μ.O r).fz=false∧(μ.φ r).cap≠0∧(μ.φ r).bY=b
def Own (X:Ctx) (μ:Mu) (b:Nat):Prop:=μ.own b∨X.XJ b
def dH (w:World) (b off sz:Nat) (vs:List Value):Prop:=
 ∀i v,vs[i]? =some v→v.cells.size=sz∧ ∀j c,v.cells[j]? =some c→w.cell? ⟨b,off+i*sz+j,none⟩=some c
def gQ (ents:Array MapEntry) (clock:Nat):Prop:=clock=ents.size∧ents.toList.map (·.born)=List.range ents.size
theorem gQ.nodup {ents:Array MapEntry} {clock:Nat} (h:gQ ents clock): (ents.toList.map (·.born)).Nodup:=by rw[h.2];exact List.nodup_range
theorem gQ.lt {ents:Array MapEntry} {clock:Nat} (h:gQ ents clock): ∀e ∈ ents.toList,e.born<clock:=fun e he=>by
 have:e.born ∈ ents.toList.map (·.born):=ai9.2 ⟨e,he,rfl⟩
 rw[h.2,List.mem_range] at this
 rw[h.1];exact this
theorem gQ.at {ents:Array MapEntry} {clock:Nat} (h:gQ ents clock) {j:Nat} {e:MapEntry} (he:ents[j]? =some e):e.born=j:=by
 have h2:=congrArg (fun l=>l[j]?) h.2
 have hj:=(aiV.1 he).1
 simp only[List.getElem?_map,akD,he,ai4] at h2
 rw[akT hj] at h2
 exact Option.some.inj h2
section
variable (X:Ctx) (μ:Mu)
mutual
def aj:V→Value→Prop
 | .bool b,v=>v= .bool b
 | .int k n,v=>v= .int k n
 | .float b,v=>v= .float .f64 b
 | .str s,v=> ∃bs:ByteArray,v= .string bs∧bs.data.toList=s
 | .agg cs,v=>cs.all V.aT=true∧ ∃vs,v= .agg vs∧ag cs vs.toList
 | .tuple cs,v=> ∃vs,v= .tuple vs∧ag cs vs.toList
 | .nilp,v=>v= .pointer none
 | .nilfn,v=>v= .nilFunc
 | .nili,v=>v= .nilIface
 | .fn f caps,v=> ∃F cv,v= .func (.func F) #[] cv∧X.fH F=some f∧ag caps cv.toList
 | .bfn f caps,v=> ∃F cv,v= .func (.func F) cv #[]∧X.fH F=some f∧ag caps cv.toList
 | .iface t x,v=> ∃T y,v= .iface T y∧X.qM T=some t∧aj x y
 | .nils,v=> ∃a,v= .slice a 0 0
 | .lit sz xs,v=>V.al xs=true∧xs.all V.dh=true∧ ∃a cap vs,v= .slice a xs.length cap∧xs.length≤cap∧ag xs vs∧
    (xs=[]∨ ∃b o,a=some ⟨b,o,none⟩∧ ¬Own X μ b∧b<μ.w.heap.size∧dH μ.w b o sz vs)
 | .own ..,_=>False
 | .sl r g off len,v=> ∃a cap,v= .slice a len cap∧len≤cap∧g≤(μ.O r).gen∧
    ((μ.O r).gen=g→0 < (μ.O r).sz∧cap+off=(μ.φ r).cap∧(cap=0∨a=some ⟨(μ.φ r).bY,(μ.φ r).base+off*(μ.O r).sz,none⟩))
 | .ptr r g idx off,v=> ∃a,v= .pointer (some a)∧g≤(μ.O r).gen∧
    ((μ.O r).gen=g→0 < (μ.O r).sz∧a=⟨(μ.φ r).bY,(μ.φ r).base+idx*(μ.O r).sz+off,none⟩)
 | .eptr e off,v=>V.aw e=true∧V.dh e=true∧ ∃b o sz x,v= .pointer (some ⟨b,o+off,none⟩)∧ ¬Own X μ b∧b<μ.w.heap.size∧aj e x∧dH μ.w b o sz [x]
 | .mp r g,v=> ∃a,v= .map (some a)∧g≤(μ.O r).gen∧((μ.O r).gen=g→(μ.O r).sz=0∧a=(μ.φ r).bY)
 | .mlit es,v=>V.al es=true∧(es=[]∧v= .map none∨ ∃a ents clock,v= .map (some a)∧ ¬Own X μ a∧a<μ.w.heap.size∧(μ.w.heap[a]? =some (.map ents clock)∧gQ ents clock)∧
    ag es (ents.toList.map fun e=> .tuple #[e.key,e.val]))
 | .it r g,v=> ∃a,v= .pointer (some ⟨a,0,none⟩)∧g≤(μ.O r).gen∧((μ.O r).gen=g→(μ.O r).sz=0∧a=(μ.φ r).bY)
 | .litk sz xs,v=>V.al xs=true∧xs.all V.dh=true∧ ∃a cap vs,v= .slice a xs.length cap∧xs.length≤cap∧ag xs vs∧
    (xs=[]∨a=some ⟨X.tok.1,X.tok.2,none⟩∧ ¬Own X μ X.tok.1∧X.tok.1 <μ.w.heap.size∧dH μ.w X.tok.1 X.tok.2 sz vs)
 | .epk i sz e off,v=>V.aw e=true∧V.dh e=true∧ ∃x,v= .pointer (some ⟨X.tok.1,X.tok.2+i*sz+off,none⟩)∧ ¬Own X μ X.tok.1∧X.tok.1 <μ.w.heap.size∧aj e x∧dH μ.w X.tok.1 (X.tok.2+i*sz) sz [x]
 | .msl ..,_=>False
 | .mptr ..,_=>False
 | .any,_=>True
def ag:List V→List Value→Prop
 | [],[]=>True
 | x::xs,v::vs=>aj x v∧ag xs vs
 | _,_=>False
end
end
theorem ag.length {X:Ctx} {μ:Mu}: ∀ {xs:List V} {vs:List Value},ag X μ xs vs→xs.length=vs.length
 | [],[],_=>rfl
 | [],_::_,h=>by simp[ag] at h
 | _::_,[],h=>by simp[ag] at h
 | _::_,_::_,h=>by simp only[ag] at h;simp[ag.length h.2]
theorem ag.get {X:Ctx} {μ:Mu}: ∀ {xs:List V} {vs:List Value},ag X μ xs vs→ ∀ {i:Nat} {x:V},xs[i]? =some x→ ∃v,vs[i]? =some v∧aj X μ x v
 | [],_,_,i,x,hx=>by simp at hx
 | _::_,[],h,_,_,_=>by simp[ag] at h
 | y::ys,v::vs,h,i,x,hx=>by
   simp only[ag] at h
   cases i with
   | zero=>simp at hx;subst hx;exact⟨v,abW,h.1⟩
   | succ i=>simp at hx;simpa using ag.get h.2 hx
theorem ag.BG {X:Ctx} {μ:Mu}: ∀ {xs:List V} {vs:List Value},xs.length=vs.length→(∀ (i:Nat) (x:V) (v:Value),xs[i]? =some x→vs[i]? =some v→aj X μ x v)→ag X μ xs vs
 | [],[],_,_=>by simp[ag]
 | [],_::_,h,_=>by simp at h
 | _::_,[],h,_=>by simp at h
 | x::xs,v::vs,h,hg=>by
   simp only[ag]
   exact⟨hg 0 x v abW abW,ag.BG (by simpa using h) fun i y u hy hu=>hg (i+1) y u (by simpa using hy) (by simpa using hu)⟩
theorem ag.append {X:Ctx} {μ:Mu}: ∀ {xs ys:List V} {vs us:List Value},ag X μ xs vs→ag X μ ys us→ag X μ (xs++ys) (vs++us)
 | [],_,[],_,_,h=>by simpa using h
 | [],_,_::_,_,h,_=>by simp[ag] at h
 | _::_,_,[],_,h,_=>by simp[ag] at h
 | x::xs,ys,v::vs,us,h,h'=>by
   simp only[ag] at h
   simp only[ajn,ag]
   exact⟨h.1,ag.append h.2 h'⟩
theorem ag.take {X:Ctx} {μ:Mu}: ∀ {xs:List V} {vs:List Value} (n:Nat),ag X μ xs vs→ag X μ (xs.take n) (vs.take n)
 | _,_,0,_=>by simp[ag]
 | [],[],n+1,_=>by simp[ag]
 | [],_::_,n+1,h=>by simp[ag] at h
 | _::_,[],n+1,h=>by simp[ag] at h
 | x::xs,v::vs,n+1,h=>by
   simp only[ag] at h
   simp only[ajO,ag]
   exact⟨h.1,ag.take n h.2⟩
theorem ag.drop {X:Ctx} {μ:Mu}: ∀ {xs:List V} {vs:List Value} (n:Nat),ag X μ xs vs→ag X μ (xs.drop n) (vs.drop n)
 | _,_,0,h=>by simpa using h
 | [],[],n+1,_=>by simp[ag]
 | [],_::_,n+1,h=>by simp[ag] at h
 | _::_,[],n+1,h=>by simp[ag] at h
 | x::xs,v::vs,n+1,h=>by
   simp only[ag] at h
   simpa using ag.drop n h.2
theorem ag.set {X:Ctx} {μ:Mu} {xs:List V} {vs:List Value} (h:ag X μ xs vs) (i:Nat) {x:V} {v:Value} (hx:aj X μ x v):ag X μ (xs.set i x) (vs.set i v):=by
 refine ag.BG (by simpa using h.length) fun j y u hy hu=> ?_
 rw[ajQ] at hy hu
 split at hy
 ·rename_i e
  subst e
  by_cases hl:i<xs.length
  ·have Ak:i<vs.length:=by rw[←h.length];exact hl
   simp[hl] at hy;simp[Ak] at hu
   subst hy hu;exact hx
  ·simp[hl] at hy
 ·rename_i e
  simp[e] at hu
  obtain⟨u',Dn,hr⟩:=h.get hy
  rw[hu] at Dn;injection Dn with Dn;subst Dn;exact hr
structure Le (μ μ':Mu):Prop where
 size:μ.w.heap.size≤μ'.w.heap.size
 bS: ∀b,b<μ.w.heap.size→ ¬μ.own b→μ'.w.heap[b]? =μ.w.heap[b]? ∧ ¬μ'.own b
 gen: ∀r,(μ.O r).gen≤(μ'.O r).gen
 row: ∀r,(μ'.O r).gen=(μ.O r).gen→μ'.φ r=μ.φ r∧(μ'.O r).sz=(μ.O r).sz
 os:μ'.w.os=μ.w.os
 output:μ'.w.output=μ.w.output
 tape:μ'.w.tape=μ.w.tape
 frozen: ∀a:Addr,a.block<μ.w.heap.size→μ'.w.frozen? a=μ.w.frozen? a
theorem Le.refl (μ:Mu):Le μ μ:=
 ⟨aiZ _,fun _ _ h=> ⟨rfl,h⟩,fun _=>aiZ _,fun _ _=> ⟨rfl,rfl⟩,rfl,rfl,rfl,fun _ _=>rfl⟩
theorem Le.trans {a b c:Mu} (h:Le a b) (k:Le b c):Le a c where
 size:=ajb h.size k.size
 bS:=fun i hi ho=>by
  obtain⟨h1,h2⟩:=h.bS i hi ho
  obtain⟨k1,k2⟩:=k.bS i (ai2 hi h.size) h2
  exact⟨k1.trans h1,k2⟩
 gen:=fun r=>ajb (h.gen r) (k.gen r)
 row:=fun r e=>by
  have h1:=h.gen r
  have k1:=k.gen r
  obtain⟨a1,a2⟩:=h.row r abV
  obtain⟨b1,b2⟩:=k.row r abV
  exact⟨b1.trans a1,b2.trans a2⟩
 os:=k.os.trans h.os
 output:=k.output.trans h.output
 tape:=k.tape.trans h.tape
 frozen:=fun x hx=> (k.frozen x (ai2 hx h.size)).trans (h.frozen x hx)
theorem dH.bS {w w':World} {b off sz:Nat} {vs:List Value} (h:dH w b off sz vs) (e:w'.heap[b]? =w.heap[b]?):dH w' b off sz vs:=by
 intro i v hv
 obtain⟨h1,h2⟩:=h i v hv
 refine⟨h1,fun j c hc=> ?_⟩
 rw[←h2 j c hc]
 simp[World.cell?,e]
mutual
theorem aj.mono {X:Ctx} {μ μ':Mu} (le:Le μ μ'): ∀ {x:V} {v:Value},aj X μ x v→aj X μ' x v
 | .bool _,_,h| .int ..,_,h| .float _,_,h| .str _,_,h| .nilp,_,h| .nilfn,_,h| .nili,_,h| .nils,_,h=>by simpa [aj] using h
 | .any,_,_=>by simp[aj]
 | .own ..,_,h| .msl ..,_,h| .mptr ..,_,h=>by simp[aj] at h
 | .agg cs,_,h=>by
   simp only[aj] at h ⊢
   obtain⟨h1,vs,rfl,h2⟩:=h
   exact⟨h1,vs,rfl,ag.mono le h2⟩
 | .tuple cs,_,h=>by
   simp only[aj] at h ⊢
   obtain⟨vs,rfl,h2⟩:=h
   exact⟨vs,rfl,ag.mono le h2⟩
 | .bfn f cs,_,h=>by
   simp only[aj] at h ⊢
   obtain⟨F,cv,rfl,h1,h2⟩:=h
   exact⟨F,cv,rfl,h1,ag.mono le h2⟩
 | .fn f cs,_,h=>by
   simp only[aj] at h ⊢
   obtain⟨F,cv,rfl,h1,h2⟩:=h
   exact⟨F,cv,rfl,h1,ag.mono le h2⟩
 | .iface t x,_,h=>by
   simp only[aj] at h ⊢
   obtain⟨T,y,rfl,h1,h2⟩:=h
   exact⟨T,y,rfl,h1,aj.mono le h2⟩
 | .lit sz xs,_,h=>by
   simp only[aj] at h ⊢
   obtain⟨h0,jX,a,cap,vs,rfl,h1,h2,h3⟩:=h
   refine⟨h0,jX,a,cap,vs,rfl,h1,ag.mono le h2,h3.imp id ?_⟩
   rintro⟨b,o,rfl,hb,hs,hr⟩
   obtain⟨k1,k2⟩:=le.bS b hs (fun h=>hb (.inl h))
   exact⟨b,o,rfl,(fun h=>h.elim k2 fun h=>hb (.inr h)),ai2 hs le.size,hr.bS k1⟩
 | .sl r g off len,_,h=>by
   simp only[aj] at h ⊢
   obtain⟨a,cap,rfl,h1,h2,h3⟩:=h
   have hg:=le.gen r
   refine⟨a,cap,rfl,h1,abV,fun e=> ?_⟩
   obtain⟨e1,e2⟩:=le.row r abV
   rw[e1,e2];exact h3 abV
 | .ptr r g idx off,_,h=>by
   simp only[aj] at h ⊢
   obtain⟨a,rfl,h2,h3⟩:=h
   have hg:=le.gen r
   refine⟨a,rfl,abV,fun e=> ?_⟩
   obtain⟨e1,e2⟩:=le.row r abV
   rw[e1,e2];exact h3 abV
 | .eptr e off,_,h=>by
   simp only[aj] at h ⊢
   obtain⟨h0,jX,b,o,sz,x,rfl,hb,hs,h1,hr⟩:=h
   obtain⟨k1,k2⟩:=le.bS b hs (fun h=>hb (.inl h))
   exact⟨h0,jX,b,o,sz,x,rfl,(fun h=>h.elim k2 fun h=>hb (.inr h)),ai2 hs le.size,aj.mono le h1,hr.bS k1⟩
 | .litk sz xs,_,h=>by
   simp only[aj] at h ⊢
   obtain⟨h0,jX,a,cap,vs,rfl,h1,h2,h3⟩:=h
   refine⟨h0,jX,a,cap,vs,rfl,h1,ag.mono le h2,h3.imp id ?_⟩
   rintro⟨rfl,hb,hs,hr⟩
   obtain⟨k1,k2⟩:=le.bS _ hs (fun h=>hb (.inl h))
   exact⟨rfl,(fun h=>h.elim k2 fun h=>hb (.inr h)),ai2 hs le.size,hr.bS k1⟩
 | .epk i sz e off,_,h=>by
   simp only[aj] at h ⊢
   obtain⟨h0,jX,x,rfl,hb,hs,h1,hr⟩:=h
   obtain⟨k1,k2⟩:=le.bS _ hs (fun h=>hb (.inl h))
   exact⟨h0,jX,x,rfl,(fun h=>h.elim k2 fun h=>hb (.inr h)),ai2 hs le.size,aj.mono le h1,hr.bS k1⟩
 | .mp r g,_,h=>by
   simp only[aj] at h ⊢
   obtain⟨a,rfl,h2,h3⟩:=h
   have hg:=le.gen r
   refine⟨a,rfl,abV,fun e=> ?_⟩
   obtain⟨e1,e2⟩:=le.row r abV
   rw[e1,e2];exact h3 abV
 | .it r g,_,h=>by
   simp only[aj] at h ⊢
   obtain⟨a,rfl,h2,h3⟩:=h
   have hg:=le.gen r
   refine⟨a,rfl,abV,fun e=> ?_⟩
   obtain⟨e1,e2⟩:=le.row r abV
   rw[e1,e2];exact h3 abV
 | .mlit es,_,h=>by
   simp only[aj] at h ⊢
   obtain⟨h0,h⟩:=h
   refine⟨h0,h.imp id ?_⟩
   rintro⟨a,ents,clock,rfl,hb,hs,h1,h2⟩
   obtain⟨k1,k2⟩:=le.bS a hs (fun h=>hb (.inl h))
   exact⟨a,ents,clock,rfl,(fun h=>h.elim k2 fun h=>hb (.inr h)),ai2 hs le.size,by rw[k1];exact h1,ag.mono le h2⟩
theorem ag.mono {X:Ctx} {μ μ':Mu} (le:Le μ μ'): ∀ {xs:List V} {vs:List Value},ag X μ xs vs→ag X μ' xs vs
 | [],[],_=>by simp[ag]
 | [],_::_,h=>by simp[ag] at h
 | _::_,[],h=>by simp[ag] at h
 | x::xs,v::vs,h=>by
   simp only[ag] at h ⊢
   exact⟨aj.mono le h.1,ag.mono le h.2⟩
end
def nv (X:Ctx) (μ:Mu) (r:Nat) (es:List V):Prop:=0 < (μ.O r).sz∧es.length≤(μ.φ r).cap∧es.all (aV · (μ.O r).sz)=true∧
 ((μ.φ r).cap=0∨ ∃c T vs,μ.w.heap[(μ.φ r).bY]? =some (.cells c T (0,0))∧(μ.φ r).base+(μ.φ r).cap*(μ.O r).sz≤c.size∧ag X μ es vs∧
   dH μ.w (μ.φ r).bY (μ.φ r).base (μ.O r).sz vs)
def pt (X:Ctx) (μ:Mu) (ob:Go.Obj) (es:List V):Prop:=
 (∃ents clock,ob= .map ents clock∧ag X μ es (ents.toList.map fun e=> .tuple #[e.key,e.val])∧gQ ents clock)∨(∃ (s:ByteArray) (pos:Nat),ob= .stringIter s pos∧es=[.str s.data.toList,.int .i64 (pos:Int)])∨
 ∃mo since mY,ob= .mapIter mo since #[] since∧es=[.mlit mY]∧(mo=none∧mY=[]∨ ∃m ents,mo=some m∧ ¬Own X μ m∧m<μ.w.heap.size∧μ.w.heap[m]? =some (.map ents since)∧gQ ents since∧ag X μ mY (ents.toList.map fun e=> .tuple #[e.key,e.val]))
theorem pt.mono {X:Ctx} {μ μ':Mu} (le:Le μ μ') {ob:Go.Obj} {es:List V} (h:pt X μ ob es):pt X μ' ob es:=by
 rcases h with⟨ents,clock,h1,h2,h3⟩ | h| ⟨mo,since,mY,h1,h2,h3⟩
 ·exact .inl ⟨ents,clock,h1,ag.mono le h2,h3⟩
 ·exact .inr (.inl h)
 ·refine .inr (.inr ⟨mo,since,mY,h1,h2,h3.imp id ?_⟩)
  rintro⟨m,ents,k1,k2,k3,k4,k5,k6⟩
  obtain⟨l1,l2⟩:=le.bS m k3 (fun h=>k2 (.inl h))
  exact⟨m,ents,k1,(fun h=>h.elim l2 fun h=>k2 (.inr h)),ai2 k3 le.size,by rw[l1];exact k4,k5,ag.mono le k6⟩
theorem pt.live {X:Ctx} {μ:Mu} {ob:Go.Obj} {es:List V} (h:pt X μ ob es) (a:Addr) (w:World) (hw:w.heap[a.block]? =some ob):w.frozen? a=false:=by
 rcases h with⟨_,_,rfl,_⟩ | ⟨_,_,rfl,_⟩ | ⟨_,_,_,rfl,_⟩ <;>simp only[World.frozen?,hw]
def vN (X:Ctx) (μ:Mu) (r:Nat) (es:List V):Prop:=(μ.O r).sz=0∧(μ.φ r).cap≠0∧
 ∃ob,μ.w.heap[(μ.φ r).bY]? =some ob∧pt X μ ob es
def gu (X:Ctx) (μ:Mu) (r:Nat):Prop:= ∀es,(μ.O r).es=some es→nv X μ r es∨vN X μ r es
def Inj (μ:Mu):Prop:= ∀r r',r≠r'→(μ.O r).es.isSome=true→(μ.O r').es.isSome=true→(μ.φ r).cap≠0→(μ.φ r').cap≠0→(μ.φ r).bY≠(μ.φ r').bY
structure bk (X:Ctx) (μ:Mu):Prop where
 ok: ∀r,gu X μ r
 inj:Inj μ
 uz: ∀r,(μ.O r).es.isSome=true→(μ.φ r).cap≠0→ ¬X.XJ (μ.φ r).bY
 blt: ∀b,X.XJ b→b<μ.w.heap.size
theorem bk.row {X:Ctx} {μ:Mu} (ho:bk X μ) (r:Nat) (es:List V) (bq: (μ.O r).es=some es) (h0:0 < (μ.O r).sz):nv X μ r es:=by
 rcases ho.ok r es bq with h| ⟨h,_⟩
 ·exact h
 ·omega
theorem bk.map {X:Ctx} {μ:Mu} (ho:bk X μ) (r:Nat) (es:List V) (bq: (μ.O r).es=some es) (h0: (μ.O r).sz=0):vN X μ r es:=by
 rcases ho.ok r es bq with⟨h,_⟩ | h
 ·omega
 ·exact h
theorem bk.ents {X:Ctx} {μ:Mu} (ho:bk X μ) (r:Nat) (es:List V) (bq: (μ.O r).es=some es) (h0: (μ.O r).sz=0): ((μ.φ r).cap≠0∧ ∃ents clock,μ.w.heap[(μ.φ r).bY]? =some (.map ents clock)∧ag X μ es (ents.toList.map fun e=> .tuple #[e.key,e.val])∧gQ ents clock)∨
  ((μ.φ r).cap≠0∧ ∃ (s:ByteArray) (pos:Nat),μ.w.heap[(μ.φ r).bY]? =some (.stringIter s pos)∧es=[.str s.data.toList,.int .i64 (pos:Int)])∨ ∃mY,es=[.mlit mY]:=by
 obtain⟨_,h2,ob,h3,h4⟩:=ho.map r es bq h0
 rcases h4 with⟨ents,clock,rfl,h⟩ | ⟨s,pos,rfl,h⟩ | ⟨_,_,mY,_,h,_⟩
 ·exact .inl ⟨h2,ents,clock,h3,h⟩
 ·exact .inr (.inl ⟨h2,s,pos,h3,h⟩)
 ·exact .inr (.inr ⟨mY,h⟩)
theorem gu.bY {X:Ctx} {μ:Mu} {r:Nat} {es:List V} (h:nv X μ r es∨vN X μ r es) (hc: (μ.φ r).cap≠0): (μ.φ r).bY<μ.w.heap.size:=by
 rcases h with⟨_,_,_,h⟩ | ⟨_,_,ob,h,_⟩
 ·rcases h with h| ⟨_,_,_,h,_⟩
  ·exact absurd h hc
  ·exact(aiV.1 h).1
 ·exact(aiV.1 h).1
theorem gu.bS {X:Ctx} {μ μ':Mu} {r r':Nat} {es:List V} (le:Le μ μ') (h:nv X μ r es∨vN X μ r es) (bI: (μ'.O r').sz=(μ.O r).sz) (hφ:μ'.φ r'=μ.φ r)
  (hb: (μ.φ r).cap≠0→μ'.w.heap[(μ.φ r).bY]? =μ.w.heap[(μ.φ r).bY]?):nv X μ' r' es∨vN X μ' r' es:=by
 rcases h with⟨h1,h2,h3,h4⟩ | ⟨h1,h2,ob,h3,h4⟩
 ·left
  unfold nv
  rw[bI,hφ]
  by_cases hc: (μ.φ r).cap=0
  ·exact⟨h1,h2,h3,.inl hc⟩
  ·rcases h4 with h4| ⟨c,T,vs,k1,k2,k3,k4⟩
   ·exact absurd h4 hc
   ·exact⟨h1,h2,h3,.inr ⟨c,T,vs,by rw[hb hc];exact k1,k2,ag.mono le k3,k4.bS (hb hc)⟩⟩
 ·right
  unfold vN
  rw[bI,hφ]
  exact⟨h1,h2,ob,by rw[hb h2];exact h3,h4.mono le⟩
structure K0 (w0:World) (Wt:Nat→Prop) (μ:Mu):Prop where
 size:w0.heap.size≤μ.w.heap.size
 bS: ∀b,b<w0.heap.size→ ¬Wt b→μ.w.heap[b]? =w0.heap[b]? ∧ ¬μ.own b
 os:μ.w.os=w0.os
 output:μ.w.output=w0.output
 tape:μ.w.tape=w0.tape
 frozen: ∀a:Addr,a.block<w0.heap.size→μ.w.frozen? a=w0.frozen? a
theorem K0.step {w0:World} {Wt:Nat→Prop} {μ μ':Mu} (h:K0 w0 Wt μ) (k:Le μ μ'):K0 w0 Wt μ' where
 size:=ajb h.size k.size
 bS:=fun i hi ho=>by
  obtain⟨h1,h2⟩:=h.bS i hi ho
  obtain⟨k1,k2⟩:=k.bS i (ai2 hi h.size) h2
  exact⟨k1.trans h1,k2⟩
 os:=k.os.trans h.os
 output:=k.output.trans h.output
 tape:=k.tape.trans h.tape
 frozen:=fun x hx=> (k.frozen x (ai2 hx h.size)).trans (h.frozen x hx)
theorem aj.pw {X:Ctx} {μ:Mu} {x:V} {v:Value} (h:aj X μ x v) (hc:x.aT=true):v.oneCell'=true∧v.cells= #[v]:=by
 cases x<;>simp[V.aT] at hc<;>simp only[aj] at h
 case bool=>subst h;exact⟨rfl,rfl⟩
 case int=>subst h;exact⟨rfl,rfl⟩
 case float=>subst h;exact⟨rfl,rfl⟩
 case str=>obtain⟨_,rfl,_⟩:=h;exact⟨rfl,rfl⟩
 case nilp=>subst h;exact⟨rfl,rfl⟩
 case nilfn=>subst h;exact⟨rfl,rfl⟩
 case nili=>subst h;exact⟨rfl,rfl⟩
 case fn=>obtain⟨_,_,rfl,_⟩:=h;exact⟨rfl,rfl⟩
 case bfn=>obtain⟨_,_,rfl,_⟩:=h;exact⟨rfl,rfl⟩
 case iface=>obtain⟨_,_,rfl,_⟩:=h;exact⟨rfl,rfl⟩
 case nils=>obtain⟨_,rfl⟩:=h;exact⟨rfl,rfl⟩
 case lit=>obtain⟨_,_,_,_,_,rfl,_⟩:=h;exact⟨rfl,rfl⟩
 case sl=>obtain⟨_,_,rfl,_⟩:=h;exact⟨rfl,rfl⟩
 case ptr=>obtain⟨_,rfl,_⟩:=h;exact⟨rfl,rfl⟩
 case eptr=>obtain⟨_,_,_,_,_,_,rfl,_⟩:=h;exact⟨rfl,rfl⟩
 case litk=>obtain⟨_,_,_,_,_,rfl,_⟩:=h;exact⟨rfl,rfl⟩
 case epk=>obtain⟨_,_,_,rfl,_⟩:=h;exact⟨rfl,rfl⟩
 case mp=>obtain⟨_,rfl,_⟩:=h;exact⟨rfl,rfl⟩
 case it=>obtain⟨_,rfl,_⟩:=h;exact⟨rfl,rfl⟩
 case mlit=>obtain⟨_,⟨_,rfl⟩ | ⟨_,_,_,rfl,_⟩⟩:=h<;>exact⟨rfl,rfl⟩
theorem V.iK {x:V} (h:x.aT=true):x.cells=[x]:=by
 cases x<;>simp_all[V.aT,V.cells]
theorem aj.cells {X:Ctx} {μ:Mu} {x:V} {v:Value} (h:aj X μ x v) (hl:x.dh=true):ag X μ x.cells v.cells.toList:=by
 simp only[V.dh,ajX] at hl
 rcases hl with hl| hl
 ·cases x<;>simp[V.isAgg] at hl
  simp only[aj] at h
  obtain⟨_,vs,rfl,h2⟩:=h
  exact h2
 ·rw[(h.pw hl).2,V.iK hl]
  simp[ag,h]
theorem aj.fI {X:Ctx} {μ:Mu} {x:V} {v:Value} (h:aj X μ x v) (hl:x.dh=true):v.cells.size=x.cells.length:=by
 have:=(h.cells hl).length
 simpa using this.symm
theorem aj.lJ {X:Ctx} {μ:Mu} {x:V} {v:Value} (h:aj X μ x v) (hl:x.dh=true):x.cells.all V.aT=true:=by
 simp only[V.dh,ajX] at hl
 rcases hl with hl| hl
 ·cases x<;>simp[V.isAgg] at hl
  simp only[aj] at h
  exact h.1
 ·rw[V.iK hl];simp[hl]
end Go.AM
namespace Go.AM
open Go Go.RowKit
theorem aA {α:Type} (f:Nat→α) (t:Nat) (v:α):da f t v t=v:=by simp[da]
theorem aX {α:Type} (f:Nat→α) {t n:Nat} (v:α) (h:n≠t):da f t v n=f n:=by simp[da,h]
theorem dH.Ir {w:World} {b off sz:Nat} {vs:List Value} {c:Array Value} {T:TypeId} {fr:Nat×Nat} (hb:w.heap[b]? =some (.cells c T fr))
  (h: ∀i v,vs[i]? =some v→v.cells.size=sz∧ ∀j x,v.cells[j]? =some x→c[off+i*sz+j]? =some x):dH w b off sz vs:=by
 intro i v hv
 obtain⟨h1,h2⟩:=h i v hv
 refine⟨h1,fun j x hx=> ?_⟩
 simp[World.cell?,hb,h2 j x hx]
theorem dH.Td {w:World} {b off sz:Nat} {vs:List Value} {c:Array Value} {T:TypeId} {fr:Nat×Nat} (hb:w.heap[b]? =some (.cells c T fr))
  (h:dH w b off sz vs): ∀i v,vs[i]? =some v→v.cells.size=sz∧ ∀j x,v.cells[j]? =some x→c[off+i*sz+j]? =some x:=by
 intro i v hv
 obtain⟨h1,h2⟩:=h i v hv
 refine⟨h1,fun j x hx=> ?_⟩
 have:=h2 j x hx
 simpa [World.cell?,hb] using this
theorem Is {μ:Mu} {r:Nat} {o:Obj} {w':World} (h:o.es.isSome=true→o.fz=false→(μ.O r).es.isSome=true∧(μ.O r).fz=false) {b:Nat}
  (hb: (⟨w',μ.φ,da μ.O r o⟩:Mu).own b):μ.own b:=by
 obtain⟨r',h1,h2,h3,h4⟩:=hb
 by_cases e:r'=r
 ·subst e
  simp only[aA] at h1 h2
  obtain⟨k1,k2⟩:=h h1 h2
  exact⟨r',k1,k2,h3,h4⟩
 ·simp only[aX _ _ e] at h1 h2
  exact⟨r',h1,h2,h3,h4⟩
theorem bk.ue {X:Ctx} {μ μ':Mu} (ho:bk X μ) (le:Le μ μ') (hO:μ'.O=μ.O) (hφ:μ'.φ=μ.φ)
  (hb: ∀b,b<μ.w.heap.size→μ'.w.heap[b]? =μ.w.heap[b]?):bk X μ' where
 ok:=fun r es bq=>by
  rw[hO] at bq
  exact gu.bS le (ho.ok r es bq) (by rw[hO]) (by rw[hφ]) fun hc=>hb _ (gu.bY (ho.ok r es bq) hc)
 inj:=by unfold Inj;rw[hO,hφ];exact ho.inj
 uz:=by rw[hO,hφ];exact ho.uz
 blt:=fun b hb=>ai2 (ho.blt b hb) le.size
theorem Le.drew {X:Ctx} {μ:Mu} (ho:bk X μ):Le μ ⟨μ.w.drew,μ.φ,μ.O⟩∧bk X ⟨μ.w.drew,μ.φ,μ.O⟩:=by
 have le:Le μ ⟨μ.w.drew,μ.φ,μ.O⟩:=
  ⟨aiZ _,fun _ _ h=> ⟨rfl,h⟩,fun _=>aiZ _,fun _ _=> ⟨rfl,rfl⟩,rfl,rfl,rfl,fun _ _=>rfl⟩
 exact⟨le,ho.ue le rfl rfl fun _ _=>rfl⟩
theorem FK {X:Ctx} {μ:Mu} (ho:bk X μ) (r sz cap:Nat) (arr:Bool) {es:List V} {vs:List Value} {c:Array Value} (T:TypeId) (bI:0 <sz)
  (cS:es.length≤cap) (lf:es.all (aV · sz)=true) (bp:ag X μ es vs) (hc:cap*sz≤c.size)
  (dA: ∀i v,vs[i]? =some v→v.cells.size=sz∧ ∀j x,v.cells[j]? =some x→c[i*sz+j]? =some x):
  let μ':Mu:=⟨μ.w.alloc (.cells c T (0,0)),da μ.φ r ⟨μ.w.heap.size,0,cap⟩,da μ.O r {gen:=(μ.O r).gen+1,sz:=sz,arr:=arr,fz:=false,es:=some es}⟩
  Le μ μ'∧bk X μ':=by
 intro μ'
 have kH: ∀b,b<μ.w.heap.size→μ'.w.heap[b]? =μ.w.heap[b]? :=fun b hb=>heap_alloc_old _ _ _ hb
 have ny:μ'.w.heap.size=μ.w.heap.size+1:=Array.size_push _
 have qP:μ'.w.heap[μ.w.heap.size]? =some (.cells c T (0,0)):=heap_alloc_new _ _
 have le:Le μ μ':=by
  refine⟨abV,fun b hb ij=> ⟨kH b hb,?_⟩,fun r'=> ?_,fun r' e=> ?_,rfl,rfl,rfl,fun a ha=> ?_⟩
  ·rintro⟨r',h1,h2,h3,h4⟩
   by_cases e:r'=r
   ·subst e
    simp only[μ',aA] at h4
    omega
   ·simp only[μ',aX _ _ e] at h1 h2 h3 h4
    exact ij ⟨r',h1,h2,h3,h4⟩
  ·by_cases e:r'=r
   ·subst e;simp[μ',aA]
   ·simp[μ',aX _ _ e]
  ·by_cases e':r'=r
   ·subst e';simp[μ',aA] at e
   ·simp[μ',aX _ _ e']
  ·simp only[World.frozen?,kH a.block ha]
 refine⟨le,fun r' es' fG=> ?_,fun r1 r2 cL h1 h2 h3 h4=> ?_,fun r' h1 h2 hb=> ?_,fun b hb=>ai2 (ho.blt b hb) le.size⟩
 rotate_left 2
 ·by_cases e:r'=r
  ·subst e
   simp only[μ',aA] at hb
   have:=ho.blt _ hb
   omega
  ·simp only[μ',aX _ _ e] at h1 h2 hb
   exact ho.uz r' h1 h2 hb
 ·by_cases e:r'=r
  ·subst e
   simp only[μ',aA] at fG ⊢
   injection fG with fG
   subst fG
   refine .inl ?_
   unfold nv
   simp only[μ',aA]
   refine⟨bI,cS,lf,.inr ⟨c,T,vs,qP,by simpa using hc,ag.mono le bp,dH.Ir qP ?_⟩⟩
   simpa using dA
  ·have hO:μ'.O r'=μ.O r':=by simp[μ',aX _ _ e]
   have hφ:μ'.φ r'=μ.φ r':=by simp[μ',aX _ _ e]
   rw[hO] at fG
   exact gu.bS le (ho.ok r' es' fG) (by rw[hO]) hφ fun hc=>kH _ (gu.bY (ho.ok r' es' fG) hc)
 ·have hold: ∀r',r'≠r→(μ.O r').es.isSome=true→(μ.φ r').cap≠0→(μ.φ r').bY<μ.w.heap.size:=fun r' _ hs EC=>by
   obtain⟨es',he⟩:=ai1.1 hs
   exact gu.bY (ho.ok r' es' he) EC
  by_cases e1:r1=r
  ·subst e1
   have e2:r2≠r1:=fun e=>cL e.symm
   simp only[μ',aA,aX _ _ e2] at h1 h2 h3 h4 ⊢
   have:=hold r2 e2 h2 h4
   omega
  ·by_cases e2:r2=r
   ·subst e2
    simp only[μ',aA,aX _ _ e1] at h1 h2 h3 h4 ⊢
    have:=hold r1 e1 h1 h3
    omega
   ·simp only[μ',aX _ _ e1,aX _ _ e2] at h1 h2 h3 h4 ⊢
    exact ho.inj r1 r2 cL h1 h2 h3 h4
theorem OU {X:Ctx} {μ:Mu} (ho:bk X μ) (r sz:Nat) (bI:0 <sz):
  let μ':Mu:=⟨μ.w,da μ.φ r ⟨0,0,0⟩,da μ.O r {gen:=(μ.O r).gen+1,sz:=sz,arr:=true,fz:=false,es:=some []}⟩
  Le μ μ'∧bk X μ':=by
 intro μ'
 have le:Le μ μ':=by
  refine⟨aiZ _,fun b hb ij=> ⟨rfl,?_⟩,fun r'=> ?_,fun r' e=> ?_,rfl,rfl,rfl,fun _ _=>rfl⟩
  ·rintro⟨r',h1,h2,h3,h4⟩
   by_cases e:r'=r
   ·subst e
    simp only[μ',aA] at h3
    exact h3 rfl
   ·simp only[μ',aX _ _ e] at h1 h2 h3 h4
    exact ij ⟨r',h1,h2,h3,h4⟩
  ·by_cases e:r'=r
   ·subst e;simp[μ',aA]
   ·simp[μ',aX _ _ e]
  ·by_cases e':r'=r
   ·subst e';simp[μ',aA] at e
   ·simp[μ',aX _ _ e']
 refine⟨le,fun r' es' fG=> ?_,fun r1 r2 cL h1 h2 h3 h4=> ?_,fun r' h1 h2 hb=> ?_,ho.blt⟩
 ·by_cases e:r'=r
  ·subst e
   simp only[μ',aA] at fG
   injection fG with fG
   subst fG
   refine .inl ?_
   unfold nv
   simp only[μ',aA]
   exact⟨bI,aiZ _,rfl,.inl abW⟩
  ·have hO:μ'.O r'=μ.O r':=by simp[μ',aX _ _ e]
   have hφ:μ'.φ r'=μ.φ r':=by simp[μ',aX _ _ e]
   rw[hO] at fG
   exact gu.bS le (ho.ok r' es' fG) (by rw[hO]) hφ fun _=>rfl
 ·have e1:r1≠r:=by
   intro e;subst e
   simp only[μ',aA] at h3
   exact h3 rfl
  have e2:r2≠r:=by
   intro e;subst e
   simp only[μ',aA] at h4
   exact h4 rfl
  simp only[μ',aX _ _ e1,aX _ _ e2] at h1 h2 h3 h4 ⊢
  exact ho.inj r1 r2 cL h1 h2 h3 h4
 ·have e:r'≠r:=by
   intro e;subst e
   simp only[μ',aA] at h2
   exact h2 rfl
  simp only[μ',aX _ _ e] at h1 h2 hb
  exact ho.uz r' h1 h2 hb
theorem Wu {X:Ctx} {μ:Mu} (ho:bk X μ) {r r1:Nat} (cL:r1≠r):
  let μ':Mu:=⟨μ.w,da μ.φ r (μ.φ r1),da (da μ.O r ⟨(μ.O r).gen+1,(μ.O r1).sz,(μ.O r1).arr,(μ.O r1).fz,(μ.O r1).es⟩) r1 ⟨(μ.O r1).gen+1,(μ.O r1).sz,(μ.O r1).arr,(μ.O r1).fz,none⟩⟩
  Le μ μ'∧bk X μ':=by
 intro μ'
 have BH:r≠r1:=aj4 cL
 have ZT:μ'.O r1=⟨(μ.O r1).gen+1,(μ.O r1).sz,(μ.O r1).arr,(μ.O r1).fz,none⟩:=by simp[μ',aA]
 have hOr:μ'.O r=⟨(μ.O r).gen+1,(μ.O r1).sz,(μ.O r1).arr,(μ.O r1).fz,(μ.O r1).es⟩:=by simp[μ',aX _ _ BH,aA]
 have hφr:μ'.φ r=μ.φ r1:=by simp[μ',aA]
 have hO: ∀r',r'≠r→r'≠r1→μ'.O r'=μ.O r':=fun r' h1 h2=>by simp[μ',aX _ _ h1,aX _ _ h2]
 have hφ: ∀r',r'≠r→μ'.φ r'=μ.φ r':=fun r' h1=>by simp[μ',aX _ _ h1]
 have jy: ∀b,μ'.own b→μ.own b:=by
  rintro b ⟨r',h1,h2,h3,h4⟩
  by_cases e1:r'=r1
  ·subst e1;rw[ZT] at h1;simp at h1
  ·by_cases e:r'=r
   ·subst e
    rw[hOr] at h1 h2
    rw[hφr] at h3 h4
    exact⟨r1,h1,h2,h3,h4⟩
   ·rw[hO _ e e1] at h1 h2
    rw[hφ _ e] at h3 h4
    exact⟨r',h1,h2,h3,h4⟩
 have le:Le μ μ':=by
  refine⟨aiZ _,fun b hb ij=> ⟨rfl,fun h=>ij (jy b h)⟩,fun r'=> ?_,fun r' e=> ?_,rfl,rfl,rfl,fun _ _=>rfl⟩
  ·by_cases e1:r'=r1
   ·subst e1;rw[ZT];simp
   ·by_cases e:r'=r
    ·subst e;rw[hOr];simp
    ·rw[hO _ e e1];exact aiZ _
  ·by_cases e1:r'=r1
   ·subst e1;rw[ZT] at e;simp at e
   ·by_cases e2:r'=r
    ·subst e2;rw[hOr] at e;simp at e
    ·rw[hO _ e2 e1,hφ _ e2];exact⟨rfl,rfl⟩
 refine⟨le,fun r' es' fG=> ?_,fun r2 r3 adC h1 h2 h3 h4=> ?_,fun r' h1 h2 hb=> ?_,ho.blt⟩
 ·by_cases e1:r'=r1
  ·subst e1;rw[ZT] at fG;simp at fG
  ·by_cases e:r'=r
   ·subst e
    rw[hOr] at fG
    exact gu.bS (r:=r1) le (ho.ok r1 es' fG) (by rw[hOr]) hφr fun _=>rfl
   ·rw[hO _ e e1] at fG
    exact gu.bS le (ho.ok r' es' fG) (by rw[hO _ e e1]) (hφ _ e) fun _=>rfl
 ·have ne1:r2≠r1:=by intro e;subst e;rw[ZT] at h1;simp at h1
  have ne2:r3≠r1:=by intro e;subst e;rw[ZT] at h2;simp at h2
  by_cases e2:r2=r
  ·subst e2
   have e3:r3≠r2:=aj4 adC
   rw[hOr] at h1
   rw[hO _ e3 ne2] at h2
   rw[hφr] at h3 ⊢
   rw[hφ _ e3] at h4 ⊢
   exact ho.inj r1 r3 (aj4 ne2) h1 h2 h3 h4
  ·rw[hO _ e2 ne1] at h1
   rw[hφ _ e2] at h3 ⊢
   by_cases e3:r3=r
   ·subst e3
    rw[hOr] at h2
    rw[hφr] at h4 ⊢
    exact ho.inj r2 r1 ne1 h1 h2 h3 h4
   ·rw[hO _ e3 ne2] at h2
    rw[hφ _ e3] at h4 ⊢
    exact ho.inj r2 r3 adC h1 h2 h3 h4
 ·have ne1:r'≠r1:=by intro e;subst e;rw[ZT] at h1;simp at h1
  by_cases e:r'=r
  ·subst e
   rw[hOr] at h1
   rw[hφr] at h2 hb
   exact ho.uz r1 h1 h2 hb
  ·rw[hO _ e ne1] at h1
   rw[hφ _ e] at h2 hb
   exact ho.uz r' h1 h2 hb
theorem lT {X:Ctx} {μ:Mu} (ho:bk X μ) (r:Nat) {es:List V} {c:Array Value} {T:TypeId} (bq: (μ.O r).es=some es) (gz: (μ.O r).fz=false)
  (hb:μ.w.heap[(μ.φ r).bY]? =some (.cells c T (0,0))) (iw: (μ.φ r).cap≠0)
  {c':Array Value} (hc:c'.size=c.size) (ZU MO OV:Nat) {es':List V} {vs':List Value}
  (hg: (ZU=(μ.O r).gen∧MO=(μ.φ r).base∧OV=(μ.φ r).cap)∨(μ.O r).gen<ZU) (ail:OV≠0)
  (hlen:es'.length≤OV) (lf:es'.all (aV · (μ.O r).sz)=true) (bp:ag X μ es' vs') (mG:MO+OV*(μ.O r).sz≤c.size)
  (dA: ∀i v,vs'[i]? =some v→v.cells.size=(μ.O r).sz∧ ∀j x,v.cells[j]? =some x→c'[MO+i*(μ.O r).sz+j]? =some x):
  let μ':Mu:=⟨μ.w.setRow (μ.φ r).bY c',da μ.φ r ⟨(μ.φ r).bY,MO,OV⟩,da μ.O r {μ.O r with gen:=ZU,es:=some es'}⟩
  Le μ μ'∧bk X μ':=by
 intro μ'
 have qP:μ'.w.heap[(μ.φ r).bY]? =some (.cells c' T (0,0)):=setRow_heap _ _ _ _ _ _ hb
 have uf: ∀b,b≠(μ.φ r).bY→μ'.w.heap[b]? =μ.w.heap[b]? :=fun b cL=>setRow_other _ _ _ _ cL
 have ny:μ'.w.heap.size=μ.w.heap.size:=by simp[μ',World.setRow]
 have bl: (μ.φ r).bY<μ.w.heap.size:=(aiV.1 hb).1
 have jy:μ.own (μ.φ r).bY:=⟨r,by simp[bq],gz,iw,rfl⟩
 have le:Le μ μ':=by
  refine⟨abV,fun b kK ij=> ⟨uf b (fun e=>ij (e ▸ jy)),?_⟩,fun r'=> ?_,fun r' e=> ?_,rfl,rfl,rfl,fun a ha=> ?_⟩
  ·rintro⟨r',h1,h2,h3,h4⟩
   by_cases e:r'=r
   ·subst e
    simp only[μ',aA] at h4
    exact ij (h4 ▸ jy)
   ·simp only[μ',aX _ _ e] at h1 h2 h3 h4
    exact ij ⟨r',h1,h2,h3,h4⟩
  ·by_cases e:r'=r
   ·subst e;simp only[μ',aA];omega
   ·simp[μ',aX _ _ e]
  ·by_cases e':r'=r
   ·subst e'
    simp only[μ',aA] at e ⊢
    rcases hg with⟨_,g2,g3⟩ | hg
    ·subst g2;subst g3;exact⟨rfl,trivial⟩
    ·omega
   ·simp[μ',aX _ _ e']
  ·by_cases e:a.block=(μ.φ r).bY
   ·simp only[World.frozen?,e,qP,hb]
   ·simp only[World.frozen?,uf _ e]
 refine⟨le,fun r' Ct ug=> ?_,fun r1 r2 cL h1 h2 h3 h4=> ?_,fun r' h1 h2 hb=> ?_,fun b hb=>ai2 (ho.blt b hb) le.size⟩
 rotate_left 2
 ·by_cases e:r'=r
  ·subst e
   simp only[μ',aA] at hb
   exact ho.uz r' (by simp[bq]) iw hb
  ·simp only[μ',aX _ _ e] at h1 h2 hb
   exact ho.uz r' h1 h2 hb
 ·by_cases e:r'=r
  ·subst e
   have bI:0 < (μ.O r').sz:=by
    rcases ho.ok r' es bq with⟨h,_⟩ | ⟨_,_,ob,hm,Gq⟩
    ·exact h
    ·rw[hb] at hm;injection hm with hm;subst hm
     rcases Gq with⟨_,_,h,_⟩ | ⟨_,_,h,_⟩ | ⟨_,_,_,h,_⟩ <;>cases h
   simp only[μ',aA] at ug
   injection ug with ug
   subst ug
   refine .inl ?_
   unfold nv
   simp only[μ',aA]
   exact⟨bI,hlen,lf,.inr ⟨c',T,vs',qP,abV,ag.mono le bp,dH.Ir qP dA⟩⟩
  ·have hO:μ'.O r'=μ.O r':=by simp[μ',aX _ _ e]
   have hφ:μ'.φ r'=μ.φ r':=by simp[μ',aX _ _ e]
   rw[hO] at ug
   exact gu.bS le (ho.ok r' Ct ug) (by rw[hO]) hφ fun hcr=>uf _ (ho.inj r' r e (by simp[ug]) (by simp[bq]) hcr iw)
 ·have hs: ∀x,(μ'.O x).es.isSome=true→(μ.O x).es.isSome=true:=fun x hx=>by
   by_cases e:x=r
   ·subst e;simp[bq]
   ·simpa [μ',aX _ _ e] using hx
  have rQ: ∀x,(μ'.φ x).cap≠0→(μ.φ x).cap≠0:=fun x hx=>by
   by_cases e:x=r
   ·subst e;exact iw
   ·simpa [μ',aX _ _ e] using hx
  have Cm: ∀x,(μ'.φ x).bY=(μ.φ x).bY:=fun x=>by
   by_cases e:x=r
   ·subst e;simp[μ',aA]
   ·simp[μ',aX _ _ e]
  rw[Cm,Cm]
  exact ho.inj r1 r2 cL (hs _ h1) (hs _ h2) (rQ _ h3) (rQ _ h4)
theorem pz {X:Ctx} {μ:Mu} (ho:bk X μ) (r:Nat):
  let μ':Mu:=⟨μ.w,μ.φ,da μ.O r {μ.O r with fz:=true}⟩
  Le μ μ'∧bk X μ':=by
 intro μ'
 have cK: ∀x,(μ'.O x).gen=(μ.O x).gen∧(μ'.O x).sz=(μ.O x).sz∧(μ'.O x).es=(μ.O x).es:=fun x=>by
  by_cases e:x=r
  ·subst e;simp[μ',aA]
  ·simp[μ',aX _ _ e]
 have le:Le μ μ':=
  ⟨aiZ _,fun b hb h=> ⟨rfl,fun kK=>h (Is (r:=r) (w':=μ.w) abW kK)⟩,fun x=>by rw[(cK x).1];exact aiZ _,fun x _=> ⟨rfl,(cK x).2.1⟩,rfl,rfl,rfl,fun _ _=>rfl⟩
 refine⟨le,fun x es bq=> ?_,fun r1 r2 cL h1 h2 h3 h4=> ?_,fun x h1 h2 hb=>ho.uz x (by rw[(cK x).2.2] at h1;exact h1) h2 hb,ho.blt⟩
 ·rw[(cK x).2.2] at bq
  exact gu.bS le (ho.ok x es bq) (cK x).2.1 rfl fun _=>rfl
 ·rw[(cK r1).2.2] at h1
  rw[(cK r2).2.2] at h2
  exact ho.inj r1 r2 cL h1 h2 h3 h4
theorem OW {X:Ctx} {μ:Mu} (ho:bk X μ) (r:Nat) {es':List V} (h0: (μ.O r).es.isSome=true) (bI:0 < (μ.O r).sz) (hl:es'.length≤(μ.φ r).cap) (lf:es'.all (aV · (μ.O r).sz)=true)
  (hc: (μ.φ r).cap=0∨ ∃c T vs,μ.w.heap[(μ.φ r).bY]? =some (.cells c T (0,0))∧(μ.φ r).base+(μ.φ r).cap*(μ.O r).sz≤c.size∧ag X μ es' vs∧
    dH μ.w (μ.φ r).bY (μ.φ r).base (μ.O r).sz vs):
  let μ':Mu:=⟨μ.w,μ.φ,da μ.O r {μ.O r with es:=some es'}⟩
  Le μ μ'∧bk X μ':=by
 intro μ'
 have cK: ∀x,(μ'.O x).gen=(μ.O x).gen∧(μ'.O x).sz=(μ.O x).sz∧(μ'.O x).es.isSome=(μ.O x).es.isSome∧(μ'.O x).fz=(μ.O x).fz:=fun x=>by
  by_cases e:x=r
  ·subst e;simp[μ',aA,h0]
  ·simp[μ',aX _ _ e]
 have jy: ∀b,μ'.own b→μ.own b:=by
  rintro b ⟨r',h1,h2,h3,h4⟩
  rw[(cK r').2.2.1] at h1
  rw[(cK r').2.2.2] at h2
  exact⟨r',h1,h2,h3,h4⟩
 have le:Le μ μ':=
  ⟨aiZ _,fun b hb h=> ⟨rfl,fun kK=>h (jy b kK)⟩,fun x=>by rw[(cK x).1];exact aiZ _,fun x _=> ⟨rfl,(cK x).2.1⟩,rfl,rfl,rfl,fun _ _=>rfl⟩
 refine⟨le,fun x es bq=> ?_,fun r1 r2 cL h1 h2 h3 h4=> ?_,fun x h1 h2 hb=>ho.uz x (by rw[(cK x).2.2.1] at h1;exact h1) h2 hb,ho.blt⟩
 ·by_cases e:x=r
  · subst e
    have:es=es':=by simp[μ',aA] at bq;exact bq.symm
    subst this
    refine .inl ?_
    unfold nv
    rw[(cK x).2.1]
    refine⟨bI,hl,lf,hc.imp id ?_⟩
    rintro⟨c,T,vs,q1,q2,q3,q4⟩
    exact⟨c,T,vs,q1,q2,ag.mono le q3,q4⟩
  · have hx:μ'.O x=μ.O x:=by simp[μ',aX _ _ e]
    rw[hx] at bq
    exact gu.bS le (ho.ok x es bq) (by rw[hx]) rfl fun _=>rfl
 ·rw[(cK r1).2.2.1] at h1
  rw[(cK r2).2.2.1] at h2
  exact ho.inj r1 r2 cL h1 h2 h3 h4
theorem BI {X:Ctx} {μ:Mu} (ho:bk X μ) (r:Nat) (ob:Go.Obj) (es:List V) (Gq:pt X μ ob es):
  let μ':Mu:=⟨μ.w.alloc ob,da μ.φ r ⟨μ.w.heap.size,0,1⟩,da μ.O r {gen:=(μ.O r).gen+1,sz:=0,arr:=false,fz:=false,es:=some es}⟩
  Le μ μ'∧bk X μ':=by
 intro μ'
 have kH: ∀b,b<μ.w.heap.size→μ'.w.heap[b]? =μ.w.heap[b]? :=fun b hb=>heap_alloc_old _ _ _ hb
 have ny:μ'.w.heap.size=μ.w.heap.size+1:=Array.size_push _
 have qP:μ'.w.heap[μ.w.heap.size]? =some ob:=heap_alloc_new _ _
 have le:Le μ μ':=by
  refine⟨abV,fun b hb ij=> ⟨kH b hb,?_⟩,fun r'=> ?_,fun r' e=> ?_,rfl,rfl,rfl,fun a ha=> ?_⟩
  ·rintro⟨r',h1,h2,h3,h4⟩
   by_cases e:r'=r
   ·subst e
    simp only[μ',aA] at h4
    omega
   ·simp only[μ',aX _ _ e] at h1 h2 h3 h4
    exact ij ⟨r',h1,h2,h3,h4⟩
  ·by_cases e:r'=r
   ·subst e;simp[μ',aA]
   ·simp[μ',aX _ _ e]
  ·by_cases e':r'=r
   ·subst e';simp[μ',aA] at e
   ·simp[μ',aX _ _ e']
  ·simp only[World.frozen?,kH a.block ha]
 refine⟨le,fun r' es' fG=> ?_,fun r1 r2 cL h1 h2 h3 h4=> ?_,fun r' h1 h2 hb=> ?_,fun b hb=>ai2 (ho.blt b hb) le.size⟩
 rotate_left 2
 ·by_cases e:r'=r
  ·subst e
   simp only[μ',aA] at hb
   have:=ho.blt _ hb
   omega
  ·simp only[μ',aX _ _ e] at h1 h2 hb
   exact ho.uz r' h1 h2 hb
 ·by_cases e:r'=r
  ·subst e
   simp only[μ',aA] at fG
   injection fG with fG
   subst fG
   refine .inr ?_
   unfold vN
   simp only[μ',aA]
   exact⟨trivial,abW,ob,qP,Gq.mono le⟩
  ·have hO:μ'.O r'=μ.O r':=by simp[μ',aX _ _ e]
   have hφ:μ'.φ r'=μ.φ r':=by simp[μ',aX _ _ e]
   rw[hO] at fG
   exact gu.bS le (ho.ok r' es' fG) (by rw[hO]) hφ fun hc=>kH _ (gu.bY (ho.ok r' es' fG) hc)
 ·have hold: ∀r',r'≠r→(μ.O r').es.isSome=true→(μ.φ r').cap≠0→(μ.φ r').bY<μ.w.heap.size:=fun r' _ hs EC=>by
   obtain⟨es',he⟩:=ai1.1 hs
   exact gu.bY (ho.ok r' es' he) EC
  by_cases e1:r1=r
  ·subst e1
   have e2:r2≠r1:=fun e=>cL e.symm
   simp only[μ',aA,aX _ _ e2] at h1 h2 h3 h4 ⊢
   have:=hold r2 e2 h2 h4
   omega
  ·by_cases e2:r2=r
   ·subst e2
    simp only[μ',aA,aX _ _ e1] at h1 h2 h3 h4 ⊢
    have:=hold r1 e1 h1 h3
    omega
   ·simp only[μ',aX _ _ e1,aX _ _ e2] at h1 h2 h3 h4 ⊢
    exact ho.inj r1 r2 cL h1 h2 h3 h4
theorem gR {X:Ctx} {μ:Mu} (ho:bk X μ) (r:Nat) {es es':List V} {ob ob':Go.Obj} (bq: (μ.O r).es=some es) (gz: (μ.O r).fz=false) (bI: (μ.O r).sz=0)
  (hb:μ.w.heap[(μ.φ r).bY]? =some ob) (iw: (μ.φ r).cap≠0) (Gq:pt X μ ob es) (adD:pt X μ ob' es'):
  let μ':Mu:=⟨{μ.w with heap:=μ.w.heap.set! (μ.φ r).bY ob'},μ.φ,da μ.O r {μ.O r with es:=some es'}⟩
  Le μ μ'∧bk X μ':=by
 intro μ'
 have bl: (μ.φ r).bY<μ.w.heap.size:=(aiV.1 hb).1
 have qP:μ'.w.heap[(μ.φ r).bY]? =some ob':=by simp[μ',ajY,bl]
 have uf: ∀b,b≠(μ.φ r).bY→μ'.w.heap[b]? =μ.w.heap[b]? :=fun b cL=>by simp[μ',ajY,aj4 cL]
 have ny:μ'.w.heap.size=μ.w.heap.size:=by simp[μ']
 have jy:μ.own (μ.φ r).bY:=⟨r,by simp[bq],gz,iw,rfl⟩
 have kZ: ∀x,(μ'.O x).gen=(μ.O x).gen∧(μ'.O x).sz=(μ.O x).sz∧(μ'.O x).fz=(μ.O x).fz∧(μ'.O x).es.isSome=(μ.O x).es.isSome:=fun x=>by
  by_cases e:x=r
  ·subst e;simp[μ',aA,bq]
  ·simp[μ',aX _ _ e]
 have QD: ∀b,μ'.own b→μ.own b:=by
  rintro b ⟨r',h1,h2,h3,h4⟩
  rw[(kZ r').2.2.2] at h1
  rw[(kZ r').2.2.1] at h2
  exact⟨r',h1,h2,h3,h4⟩
 have le:Le μ μ':=by
  refine⟨abV,fun b kK ij=> ⟨uf b (fun e=>ij (e ▸ jy)),fun h=>ij (QD b h)⟩,fun r'=>by rw[(kZ r').1];exact aiZ _,fun r' _=> ⟨rfl,(kZ r').2.1⟩,rfl,rfl,rfl,fun a ha=> ?_⟩
  by_cases e:a.block=(μ.φ r).bY
  ·rw[adD.live a μ'.w (by rw[e];exact qP),Gq.live a μ.w (by rw[e];exact hb)]
  ·simp only[World.frozen?,uf _ e]
 refine⟨le,fun r' Ct ug=> ?_,fun r1 r2 cL h1 h2 h3 h4=> ?_,fun r' h1 h2 hb=> ?_,fun b hb=>ai2 (ho.blt b hb) le.size⟩
 ·by_cases e:r'=r
  ·subst e
   simp only[μ',aA] at ug
   injection ug with ug
   subst ug
   refine .inr ?_
   unfold vN
   rw[(kZ r').2.1]
   exact⟨bI,iw,ob',qP,adD.mono le⟩
  ·have hO:μ'.O r'=μ.O r':=by simp[μ',aX _ _ e]
   rw[hO] at ug
   exact gu.bS le (ho.ok r' Ct ug) (by rw[hO]) rfl fun hcr=>uf _ (ho.inj r' r e (by simp[ug]) (by simp[bq]) hcr iw)
 ·rw[(kZ r1).2.2.2] at h1
  rw[(kZ r2).2.2.2] at h2
  exact ho.inj r1 r2 cL h1 h2 h3 h4
 ·rw[(kZ r').2.2.2] at h1
  exact ho.uz r' h1 h2 hb
end Go.AM
namespace Go.AM
open Go Go.RowKit
structure Rel (X:Ctx) (T:Nat→V) (a:Go.Act) (μ:Mu):Prop where
 tmps: ∀t,aj X μ (T t) (a.tmps.getD t undef)
 bg:bk X μ
def c6 (X:Ctx) (o:Oper) (a:Go.Act) (μ:Mu) (O':Nat→Obj) (v:V):Prop:=
 ∃val w' φ',((execOp a.eval o).run X.P μ.w= .ok (.value val) w'∨((execOp a.eval o).run X.P μ.w= .ok .skip w'∧val=undef))∧
  aj X ⟨w',φ',O'⟩ v val∧Le μ ⟨w',φ',O'⟩∧bk X ⟨w',φ',O'⟩
theorem aP {X:Ctx} {o:Oper} {a:Go.Act} {μ:Mu} {v:V} {val:Value} (ho:bk X μ) (ah: (execOp a.eval o).run X.P μ.w= .ok (.value val) μ.w)
  (hv:aj X μ v val):c6 X o a μ μ.O v:=
 ⟨val,μ.w,μ.φ,.inl ah,hv,Le.refl μ,ho⟩
theorem dy {P:Program} {s:Sem Value} {w w':World} {val:Value} (h:s.run P w= .ok val w'): (do pure (Next.value (←s)):Sem Next).run P w= .ok (.value val) w':=by
 simp[Sem.run_bind,h]
theorem BJ {P:Program} {s:Sem Unit} {w w':World} (h:s.run P w= .ok () w'): (do s;pure Next.skip:Sem Next).run P w= .ok .skip w':=by
 simp[Sem.run_bind,h]
theorem bA (C:bo) (x:aU) (k:V→Act) (σ:St): (ev x k).run C σ=(k (bu σ x)).run C σ:=by cases x<;>rfl
theorem pA (C:bo): ∀ (xs:List aU) (k:List V→Act) (σ:St),(evs xs k).run C σ=(k (xs.map (bu σ))).run C σ
 | [],_,_=>rfl
 | x::xs,k,σ=>by simp only[evs,bA,pA C xs,List.map_cons]
theorem Wv (C:bo) (x:Option aU) (k:Option V→Act) (σ:St): (PJ x k).run C σ=(k (x.map (bu σ))).run C σ:=by
 cases x with
 | none=>rfl
 | some x=>exact bA C x _ σ
theorem fQ {C:bo} {r:Option V} {σ σ':St} {v:V} (h: (eP r).run C σ=some (v,σ')):r=some v∧σ'=σ:=by
 cases r with
 | none=>simp[eP,Act.run] at h
 | some u=>simp only[eP,Act.run,aiT,aiX] at h;exact⟨by rw[h.1],h.2.symm⟩
theorem aZ {C:bo} {u v:V} {σ σ':St} (h: (Act.done u).run C σ=some (v,σ')):u=v∧σ'=σ:=by
 simp only[Act.run,aiT,aiX] at h;exact⟨h.1,h.2.symm⟩
theorem au {C:bo} {p:V×St} {σ:St}: (Act.fail).run C σ≠some p:=by simp[Act.run]
theorem sX {X:Ctx} {μ:Mu} {v:Value} {c:V} (h:r9 v=some c):aj X μ c v∧c.aT=true:=by
 unfold r9 at h
 split at h<;>first
  | (injection h with h;subst h;simp[aj,V.aT,V.al])
  | simp at h
theorem qQ {X:Ctx} {μ:Mu}: ∀ {vs:List Value} {cs:List V},mF vs=some cs→ag X μ cs vs∧cs.all V.aT=true
 | [],cs,h=>by simp[mF] at h;subst h;simp[ag]
 | v::vs,cs,h=>by
   simp only[mF] at h
   split at h
   ·rename_i c cU h1 h2
    injection h with h;subst h
    obtain⟨a1,a2⟩:=sX (X:=X) (μ:=μ) h1
    obtain⟨b1,b2⟩:=qQ (X:=X) (μ:=μ) h2
    simp[ag,a1,a2,b1,b2]
   ·simp at h
theorem eT {X:Ctx} {μ:Mu} {v:Value} {c:V} (h:BC v=some c):aj X μ c v∧c.dh=true:=by
 unfold BC at h
 split at h
 ·rename_i cs
  simp only[aiU] at h
  obtain⟨l,h1,rfl⟩:=h
  obtain⟨a1,a2⟩:=qQ (X:=X) (μ:=μ) h1
  simp[aj,V.dh,V.isAgg,a1,a2]
 ·obtain⟨a1,a2⟩:=sX (X:=X) (μ:=μ) h
  exact⟨a1,by simp[V.dh,a2]⟩
theorem aS {X:Ctx} {μ:Mu} {T:Nat→V} {a:Go.Act} {x:Operand} {y:aU} (hr:Rel X T a μ) (h:dm X x=some y) (O:Nat→Obj):aj X μ (bu ⟨T,O⟩ y) (a.eval x):=by
 cases x with
 | tmp t=>simp[dm] at h;subst h;exact hr.tmps t
 | const v=>
   simp only[dm,aiU] at h
   obtain⟨c,h1,rfl⟩:=h
   exact(eT h1).1
 | global g=>simp[dm] at h
 | func f=>
   simp only[dm,aiU] at h
   obtain⟨n,h1,rfl⟩:=h
   simp only[bu,Go.Act.eval,aj]
   exact⟨f,#[],rfl,h1,by simp[ag]⟩
theorem oE {X:Ctx} {μ:Mu} {T:Nat→V} {a:Go.Act} (hr:Rel X T a μ) (O:Nat→Obj): ∀ {xs:List Operand} {ys:List aU},oD X xs=some ys→
   ag X μ (ys.map (bu ⟨T,O⟩)) (xs.map a.eval)
 | [],ys,h=>by simp[oD] at h;subst h;simp[ag]
 | x::xs,ys,h=>by
   simp only[oD] at h
   split at h
   ·rename_i b bs h1 h2
    injection h with h;subst h
    simp only[List.map_cons,ag]
    exact⟨aS hr h1 O,oE hr O h2⟩
   ·simp at h
theorem FL {X:Ctx} {μ:Mu} {e u:V} {x:Value} {off sz:Nat} (h:aj X μ e x) (hp:part true off sz e=some u):
  ∃cs,x= .agg cs∧off+sz≤cs.size∧aj X μ u (.agg (cs.extract off (off+sz))):=by
 cases e<;>simp[part] at hp
 rename_i cs
 obtain⟨h1,h2⟩:=hp
 subst h2
 simp only[aj] at h
 obtain⟨h0,vs,rfl,hv⟩:=h
 have hl:=hv.length
 simp at hl
 refine⟨vs,rfl,abV,?_⟩
 simp only[aj]
 refine⟨?_,_,rfl,?_⟩
 ·simp only[aiY] at h0 ⊢
  intro c hc
  exact h0 c (ajz (ajh hc))
 ·have:=ag.take sz (ag.drop off hv)
  simpa [aks,aj2] using this
theorem CP {X:Ctx} {μ:Mu} {e u:V} {x:Value} {off sz:Nat} (h:aj X μ e x) (hp:part false off sz e=some u):
  e.dh=true∧ ∃c,x.cells[off]? =some c∧aj X μ u c:=by
 by_cases ha: ∃cs,e= .agg cs
 ·obtain⟨cs,rfl⟩:=ha
  simp only[part] at hp
  simp only[aj] at h
  obtain⟨h0,vs,rfl,hv⟩:=h
  obtain⟨c,h1,h2⟩:=hv.get hp
  exact⟨by simp[V.dh,V.isAgg],c,by simpa [Value.cells] using h1,h2⟩
 ·have:part false off sz e=if e.aT∧off=0 then some e else none:=by
   cases e<;>first| rfl| exact absurd ⟨_,rfl⟩ ha
  rw[this] at hp
  split at hp
  ·rename_i hc
   injection hp with hp;subst hp
   refine⟨by simp[V.dh,hc.1],x,?_,h⟩
   rw[(h.pw hc.1).2,hc.2];simp
  ·simp at hp
section
variable {X:Ctx} {h:Hints} {dst:Nat} {E:Env} {C:bo} {o:Oper} {a:Go.Act} {T:Nat→V} {μ:Mu} {v:V} {σ':St}
theorem ag.EN {X:Ctx} {μ:Mu}: ∀ (ks:List Nat) {cs:List V} {vs:List Value},ag X μ cs vs→ag X μ (AM.EN ks cs) vs
 | [],cs,vs,h=>by simpa [AM.EN] using h
 | k::ks,[],vs,h=>by simpa [AM.EN] using h
 | k::ks,c::cs,[],h=>by simp[ag] at h
 | k::ks,c::cs,v::vs,h=>by
   simp only[ag] at h
   simp only[AM.EN,ag]
   refine⟨?_,ag.EN ks h.2⟩
   split
   ·obtain⟨a,rfl⟩:=by simpa [aj] using h.1
    simp only[aj]
    exact⟨rfl,rfl,a,0,[],rfl,aiZ _,by simp[ag],.inl trivial⟩
   ·exact h.1
theorem uh: ∀ (ks:List Nat) {cs:List V},cs.all V.aT=true→(AM.EN ks cs).all V.aT=true
 | [],cs,h=>by simpa [AM.EN] using h
 | k::ks,[],h=>by simp[AM.EN]
 | k::ks,c::cs,h=>by
   simp only[aja,Bool.and_eq_true] at h
   simp only[AM.EN,aja,Bool.and_eq_true]
   refine⟨?_,uh ks h.2⟩
   split
   ·rfl
   ·exact h.1
theorem aj.Ji {X:Ctx} {μ:Mu} (ks:List Nat) {v:V} {val:Value} (h:aj X μ v val):aj X μ (AM.Ji ks v) val:=by
 unfold AM.Ji
 split
 ·simp only[aj] at h ⊢
  obtain⟨h1,vs,rfl,h2⟩:=h
  exact⟨uh ks h1,vs,rfl,h2.EN ks⟩
 ·split
  ·obtain⟨a,rfl⟩:=by simpa [aj] using h
   simp only[aj]
   exact⟨rfl,rfl,a,0,[],rfl,aiZ _,by simp[ag],.inl trivial⟩
  ·exact h
 ·exact h
theorem aj.XH {X:Ctx} {μ:Mu} (ks:List Nat) {σ:St} {y:aU} {val:Value} (h:aj X μ (bu σ y) val):aj X μ (bu σ (AM.XH ks y)) val:=by
 cases y with
 | tmp t=>exact h
 | const v=>exact aj.Ji ks h
theorem ZV {x:Operand} {y:aU} (ks:List Nat) (hr:Rel X T a μ) (ho:o.op= .move x∨o.op= .assign x) (ht:dm X x=some y) (ah: (aM E (.move (XH ks y))).run C ⟨T,μ.O⟩=some (v,σ')):
  σ'.T=T∧c6 X o a μ σ'.O v:=by
 simp only[aM,bA] at ah
 obtain⟨rfl,rfl⟩:=aZ ah
 refine⟨rfl,aP hr.bg ?_ (aj.XH ks (aS hr ht _))⟩
 rcases ho with ho| ho<;>simp[execOp,ho]
theorem XK {h:Hints} {dst:Nat} {x:Operand} {sG:uC} (hr:Rel X T a μ) (ho:o.op= .move x∨o.op= .assign x) (ht:BD X h dst x=some sG) (ah: (aM E sG).run C ⟨T,μ.O⟩=some (v,σ')):
  σ'.T=T∧c6 X o a μ σ'.O v:=by
 unfold BD at ht
 split at ht
 ·rename_i r sz hn hb
  injection ht with ht;subst ht
  simp only[aM] at ah
  split at ah
  ·rename_i bI
   simp only[Act.run,aiT,aiX] at ah
   obtain⟨rfl,rfl⟩:=ah
   have hx:x= .const (.slice none 0 0):=by
    unfold isNil at hn
    split at hn
    ·rfl
    ·simp at hn
   subst hx
   obtain⟨le,wF⟩:=OU hr.bg r sz bI
   refine⟨rfl,.slice none 0 0,μ.w,da μ.φ r ⟨0,0,0⟩,.inl ?_,?_,le,wF⟩
   ·rcases ho with ho| ho<;>simp[execOp,ho,Go.Act.eval]
   ·simp only[aj,aA]
    exact⟨_,0,rfl,aiZ _,aiZ _,fun _=> ⟨bI,rfl,.inl rfl⟩⟩
  ·exact absurd ah au
 ·split at ht
  ·rename_i r hrn
   simp only[aiU] at ht
   obtain⟨y,h1,rfl⟩:=ht
   simp only[aM,bA] at ah
   have bp:=aS hr h1 μ.O
   have jL: (execOp a.eval o).run X.P μ.w= .ok (.value (a.eval x)) μ.w:=by rcases ho with ho| ho<;>simp[execOp,ho]
   split at ah
   ·rename_i r1 g off len he
    rw[he] at bp
    split at ah
    ·obtain⟨rfl,rfl⟩:=aZ ah
     exact⟨rfl,aP hr.bg jL bp⟩
    ·rename_i cL
     simp only[Act.run] at ah
     split at ah
     ·rename_i hg
      simp only[Act.run,aiT,aiX] at ah
      obtain⟨rfl,rfl⟩:=ah
      obtain⟨le,wF⟩:=Wu hr.bg (r:=r) (r1:=r1) cL
      refine⟨rfl,a.eval x,μ.w,da μ.φ r (μ.φ r1),.inl jL,?_,le,wF⟩
      simp only[aj] at bp ⊢
      obtain⟨ad,cap,k1,k2,k3,k4⟩:=bp
      obtain⟨k5,k6⟩:=k4 hg
      have BH:r≠r1:=fun e=>cL e.symm
      simp only[aX _ _ BH,aA]
      exact⟨ad,cap,k1,k2,aiZ _,fun _=> ⟨k5,k6⟩⟩
     ·simp[Act.run] at ah
   ·obtain⟨rfl,rfl⟩:=aZ ah
    exact⟨rfl,aP hr.bg jL bp⟩
  ·simp only[aiU] at ht
   obtain⟨y,h1,rfl⟩:=ht
   exact ZV _ hr ho h1 ah
theorem Ww {c p q:Operand} {c' p' q':aU} (hr:Rel X T a μ) (ho:o.op= .pick c p q) (h1:dm X c=some c') (h2:dm X p=some p') (h3:dm X q=some q')
  (ah: (aM E (.pick c' p' q')).run C ⟨T,μ.O⟩=some (v,σ')):σ'.T=T∧c6 X o a μ σ'.O v:=by
 simp only[aM,bA] at ah
 have hc:=aS hr h1 μ.O
 split at ah
 ·rename_i e
  rw[e] at hc
  simp only[aj] at hc
  rw[bA] at ah
  obtain⟨rfl,rfl⟩:=aZ ah
  refine⟨rfl,aP hr.bg ?_ (aS hr h2 _)⟩
  simp[execOp,ho,hc,asBool,Sem.run_bind]
 ·rename_i e
  rw[e] at hc
  simp only[aj] at hc
  rw[bA] at ah
  obtain⟨rfl,rfl⟩:=aZ ah
  refine⟨rfl,aP hr.bg ?_ (aS hr h3 _)⟩
  simp[execOp,ho,hc,asBool,Sem.run_bind]
 ·exact absurd ah au
theorem It {x:Operand} {y:aU} (hr:Rel X T a μ) (ho:o.op= .nilCheck x) (ht:dm X x=some y) (ah: (aM E (.nilCheck y)).run C ⟨T,μ.O⟩=some (v,σ')):
  σ'.T=T∧c6 X o a μ σ'.O v:=by
 simp only[aM,bA] at ah
 have hx:=aS hr ht μ.O
 split at ah
 ·rename_i e
  obtain⟨rfl,rfl⟩:=aZ ah
  refine⟨rfl,aP hr.bg ?_ (e ▸ hx)⟩
  rw[e] at hx
  simp only[aj] at hx
  obtain⟨p,hp,_⟩:=hx
  simp[execOp,ho,hp]
 ·rename_i e
  obtain⟨rfl,rfl⟩:=aZ ah
  refine⟨rfl,aP hr.bg ?_ (e ▸ hx)⟩
  rw[e] at hx
  simp only[aj] at hx
  obtain⟨_,_,b,o',sz,q,hp,_⟩:=hx
  simp[execOp,ho,hp]
 ·rename_i e
  obtain⟨rfl,rfl⟩:=aZ ah
  refine⟨rfl,aP hr.bg ?_ (e ▸ hx)⟩
  rw[e] at hx
  simp only[aj] at hx
  obtain⟨_,_,q,hp,_⟩:=hx
  simp[execOp,ho,hp]
 ·rename_i e
  obtain⟨rfl,rfl⟩:=aZ ah
  refine⟨rfl,aP hr.bg ?_ (e ▸ hx)⟩
  rw[e] at hx
  simp only[aj] at hx
  obtain⟨F,cv,hp,_⟩:=hx
  simp[execOp,ho,hp]
 ·rename_i e
  obtain⟨rfl,rfl⟩:=aZ ah
  refine⟨rfl,aP hr.bg ?_ (e ▸ hx)⟩
  rw[e] at hx
  simp only[aj] at hx
  obtain⟨F,cv,hp,_⟩:=hx
  simp[execOp,ho,hp]
 ·exact absurd ah au
theorem FM {s:TypeId} {x:Operand} {i:Nat} {y:aU} {fs:Array Field} {f:Field} {n:Nat} (hr:Rel X T a μ) (ho:o.op= .fieldAddr s x i) (ht:dm X x=some y)
  (hd:bL X s=some (.struct fs)) (hf:fs[i]? =some f) (hn:bQ X f.type=some (n+1)) (ah: (aM E (.fieldAddr f.offset y)).run C ⟨T,μ.O⟩=some (v,σ')):
  σ'.T=T∧c6 X o a μ σ'.O v:=by
 simp only[aM,bA] at ah
 have hx:=aS hr ht μ.O
 have hi: ∃inf,X.P.info? f.type=some inf∧inf.size=n+1:=by
  simpa [bQ,info] using hn
 obtain⟨inf,sM,Io⟩:=hi
 have bI:X.P.cellsOf f.type=n+1:=by simp[Program.cellsOf,sM,Io]
 have key: ∀p:Addr,a.eval x= .pointer (some p)→(execOp a.eval o).run X.P μ.w= .ok (.value (.pointer (some (p.add f.offset)))) μ.w:=fun p hp=>by
  simp only[execOp,ho]
  refine dy ?_
  simp[Instr.fieldAt,Sem.run_bind,run_underlying hd,hf,Instr.sureAddr,hp,fieldPlace,run_sizeOf (w:=μ.w) sM,bI]
 have u4: ∀ (b q:Nat),(⟨b,q,none⟩:Addr).add f.offset=⟨b,q+f.offset,none⟩:=fun b q=>by unfold Addr.add;split<;>simp_all
 split at ah
 ·rename_i e
  obtain⟨rfl,rfl⟩:=aZ ah
  rw[e] at hx
  simp only[aj] at hx
  obtain⟨p,hp,h1,h2⟩:=hx
  refine⟨rfl,aP hr.bg (key p hp) ?_⟩
  simp only[aj]
  refine⟨_,rfl,h1,fun eg=> ⟨(h2 eg).1,?_⟩⟩
  rw[(h2 eg).2,u4];simp[aky]
 ·rename_i e
  obtain⟨rfl,rfl⟩:=aZ ah
  rw[e] at hx
  simp only[aj] at hx
  obtain⟨h0,jX,b,o',sz,q,hp,h1,h2,h3,h4⟩:=hx
  refine⟨rfl,aP hr.bg (key _ hp) ?_⟩
  simp only[aj]
  exact⟨h0,jX,b,o',sz,q,by rw[u4];simp[aky],h1,h2,h3,h4⟩
 ·rename_i e
  obtain⟨rfl,rfl⟩:=aZ ah
  rw[e] at hx
  simp only[aj] at hx
  obtain⟨h0,jX,q,hp,h1,h2,h3,h4⟩:=hx
  refine⟨rfl,aP hr.bg (key _ hp) ?_⟩
  simp only[aj]
  exact⟨h0,jX,q,by rw[u4];simp[aky],h1,h2,h3,h4⟩
 ·exact absurd ah au
theorem K1 {x:Operand} {i:Nat} {y:aU} (hr:Rel X T a μ) (ho:o.op= .extract x i) (ht:dm X x=some y) (ah: (aM E (.extract y i)).run C ⟨T,μ.O⟩=some (v,σ')):
  σ'.T=T∧c6 X o a μ σ'.O v:=by
 simp only[aM,bA] at ah
 have hx:=aS hr ht μ.O
 split at ah
 ·rename_i vs e
  obtain⟨h1,rfl⟩:=fQ ah
  rw[e] at hx
  simp only[aj] at hx
  obtain⟨us,hu,hv⟩:=hx
  obtain⟨c,h2,h3⟩:=hv.get h1
  refine⟨rfl,aP hr.bg ?_ h3⟩
  simp only[execOp,ho]
  refine dy ?_
  have NF:us[i]? =some c:=by simpa using h2
  simp[Instr.extract,hu,NF]
 ·exact absurd ah au
theorem Iu {f:FuncId} {first caps:Array Operand} {n:Nat} {cs:List aU} (hr:Rel X T a μ) (ho:o.op= .makeFunc (.func f) first caps) (JY:first.isEmpty=true)
  (hn:X.fH f=some n) (ht:oD X caps.toList=some cs) (ah: (aM E (.z8 n cs)).run C ⟨T,μ.O⟩=some (v,σ')):σ'.T=T∧c6 X o a μ σ'.O v:=by
 simp only[aM,pA] at ah
 obtain⟨rfl,rfl⟩:=aZ ah
 have hx:=oE hr μ.O ht
 obtain rfl:first= #[]:=by simpa using JY
 refine⟨rfl,aP (val:= .func (.func f) #[] (caps.map a.eval)) hr.bg ?_ ?_⟩
 ·simp[execOp,ho,Instr.makeFunc,Sem.run_bind]
 ·simp only[aj]
  exact⟨f,_,rfl,hn,by simpa using hx⟩
theorem Iv {X:Ctx} {μ:Mu} {a:Go.Act} (σ:St): ∀ (xs:List Operand),ag X μ ((xs.map fun _=>aU.const .any).map (bu σ)) (xs.map a.eval)
 | []=>by simp[ag]
 | x::xs=>by
   simp only[List.map_cons,ag]
   exact⟨by simp[bu,aj],Iv σ xs⟩
theorem FN {f:FuncId} {first caps:Array Operand} {n:Nat} {cs:List aU} {k:Bool} (hr:Rel X T a μ) (ho:o.op= .makeFunc (.func f) first caps) (JY:caps.isEmpty=true)
  (hn:X.fH f=some n) (ht: (if k=true then some (first.toList.map fun _=>aU.const .any) else oD X first.toList)=some cs) (ah: (aM E (.uQ n cs)).run C ⟨T,μ.O⟩=some (v,σ')):σ'.T=T∧c6 X o a μ σ'.O v:=by
 simp only[aM,pA] at ah
 obtain⟨rfl,rfl⟩:=aZ ah
 have hx:ag X μ (cs.map (bu ⟨T,μ.O⟩)) (first.toList.map a.eval):=by
  split at ht
  ·injection ht with ht;subst ht
   exact Iv _ _
  ·exact oE hr μ.O ht
 obtain rfl:caps= #[]:=by simpa using JY
 refine⟨rfl,aP (val:= .func (.func f) (first.map a.eval) #[]) hr.bg ?_ ?_⟩
 ·simp[execOp,ho,Instr.makeFunc,Sem.run_bind]
 ·simp only[aj]
  exact⟨f,_,rfl,hn,by simpa using hx⟩
end
end Go.AM
namespace Go.AM
open Go Go.RowKit
theorem sh {X:Ctx} {t:TypeId} {g:Bool} (hg:gN X t=some g) (w:World): (isAgg t).run X.P w= .ok g w:=by
 simp only[gN,bL,aiU] at hg
 obtain⟨d,hdd,hg⟩:=hg
 simp only[isAgg,Sem.run_bind,run_underlying hdd,Result.andThen_ok]
 subst hg
 cases d<;>rfl
theorem fj {X:Ctx} {t:TypeId} {sz:Nat} (hn:bQ X t=some sz) (w:World): (sizeOf t).run X.P w= .ok sz w:=by
 obtain⟨inf,sM,Io⟩: ∃inf,X.P.info? t=some inf∧inf.size=sz:=by simpa [bQ,info] using hn
 have bI:X.P.cellsOf t=sz:=by simp[Program.cellsOf,sM,Io]
 rw[run_sizeOf (w:=w) sM,bI]
theorem vO {X:Ctx} {t:TypeId} {sz:Nat} (hg:gN X t=some true) (hn:bQ X t=some sz) (cs:Array Value) (off:Nat) (w:World):
  (Go.part t cs off).run X.P w= .ok (.agg (cs.extract off (off+sz))) w:=by
 simp[Go.part,Sem.run_bind,sh hg,fj hn]
theorem fV {X:Ctx} {t:TypeId} (hg:gN X t=some false) (cs:Array Value) (off:Nat) (c:Value) (hc:cs[off]? =some c) (w:World):
  (Go.part t cs off).run X.P w= .ok c w:=by
 simp[Go.part,Sem.run_bind,sh hg,hc]
theorem ui: ∀ (ks:List Nat) {wG:List Nat} {cs ds:List V} {b:Bool},cX (ks++wG) cs ds=some b→
   ∃b1 b2,cX ks (cs.take ks.length) (ds.take ks.length)=some b1∧cX wG (cs.drop ks.length) (ds.drop ks.length)=some b2∧b=(b1 &&b2)
 | [],wG,cs,ds,b,h=> ⟨true,b,by simp[cX],by simpa using h,abW⟩
 | k::ks,wG,[],_,b,h=>by simp[cX] at h
 | k::ks,wG,_::_,[],b,h=>by simp[cX] at h
 | k::ks,wG,c::cs,d::ds,b,h=>by
   simp only[ajn,cX] at h
   split at h
   ·rename_i x y hx hy
    injection h with h;subst h
    obtain⟨b1,b2,h1,h2,h3⟩:=ui ks hy
    refine⟨x &&b1,b2,?_,by simpa using h2,by rw[h3,Bool.and_assoc]⟩
    simp[cX,hx,h1]
   ·simp at h
theorem qR: ∀ {ks:List Nat} {cs ds:List V} {b:Bool},cX ks cs ds=some b→cs.length=ks.length∧ds.length=ks.length
 | [],[],[],_,_=> ⟨rfl,rfl⟩
 | [],[],_::_,_,h=>by simp[cX] at h
 | [],_::_,_,_,h=>by simp[cX] at h
 | _::_,[],_,_,h=>by simp[cX] at h
 | _::_,_::_,[],_,h=>by simp[cX] at h
 | k::ks,c::cs,d::ds,b,h=>by
   simp only[cX] at h
   split at h
   ·rename_i x y hx hy
    obtain⟨h1,h2⟩:=qR hy
    simp[h1,h2]
   ·simp at h
theorem Wx {X:Ctx} {μ:Mu} {t:TypeId} {m k:Nat} {c e:V} {x y:Value} {b:Bool} {D:TypeDesc} (hd:bL X t=some D)
  (hk: (k=0∧D= .bool)∨(k=1∧ ∃q,D= .int q)∨(k=2∧D= .string))
  (hc:aj X μ c x) (he:aj X μ e y) (hb:Jj k c e=some b) (w:World): (Op.equalIn (m+1) t x y).run X.P w= .ok b w:=by
 unfold Jj at hb
 split at hb
 ·injection hb with hb;subst hb
  simp only[aj] at hc he
  subst hc;subst he
  rcases hk with⟨_,rfl⟩ | ⟨h,_⟩ | ⟨h,_⟩
  ·exact run_equalIn_bool' w m t _ _ hd
  ·cases h
  ·cases h
 ·split at hb
  ·injection hb with hb;subst hb
   simp only[aj] at hc he
   subst hc;subst he
   rename_i hkk
   subst hkk
   rcases hk with⟨h,_⟩ | ⟨_,q,rfl⟩ | ⟨h,_⟩
   ·cases h
   ·exact run_equalIn_int w m t _ _ _ _ hd
   ·cases h
  ·simp at hb
 ·injection hb with hb;subst hb
  simp only[aj] at hc he
  obtain⟨p,rfl,hp⟩:=hc
  obtain⟨q,rfl,hq⟩:=he
  rcases hk with⟨h,_⟩ | ⟨h,_⟩ | ⟨_,rfl⟩
  ·cases h
  ·cases h
  ·rw[run_equalIn_string w m t _ _ hd]
   congr 1
   rw[ByteArray.toList_eq,ByteArray.toList_eq,hp,hq]
   rw[akf];simp
 ·simp at hb
theorem yC {X:Ctx} {μ:Mu} (w:World) {e:TypeId} {k m:Nat} (hg:gN X e=some false) (h1:X.P.cellsOf e=1)
   (ih: ∀c f x y b,aj X μ c x→aj X μ f y→Jj k c f=some b→(Op.equalIn m e x y).run X.P w= .ok b w):
   ∀ (n off:Nat) (cs ds:List V) (xs ys:List Value) (b:Bool),ag X μ cs xs→ag X μ ds ys→cX (List.replicate n k) (cs.drop off) (ds.drop off)=some b→
     (Op.eqItems m e (X.P.cellsOf e) xs.toArray ys.toArray (List.range' off n)).run X.P w= .ok b w
 | 0,off,cs,ds,xs,ys,b,hx,hy,hb=>by
   cases hc:cs.drop off<;>cases he:ds.drop off<;>rw[hc,he] at hb<;>simp[cX] at hb
   subst hb
   simp[Op.eqItems]
 | n+1,off,cs,ds,xs,ys,b,hx,hy,hb=>by
   rw[List.replicate_succ] at hb
   cases hc:cs.drop off with
   | nil=>rw[hc] at hb;simp[cX] at hb
   | cons c cU=>
     cases he:ds.drop off with
     | nil=>rw[hc,he] at hb;simp[cX] at hb
     | cons f ds'=>
       rw[hc,he] at hb
       simp only[cX] at hb
       split at hb
       ·rename_i p q hp hq
        injection hb with hb;subst hb
        have gc:cs[off]? =some c:=by
         have:=congrArg (fun l=>l[0]?) hc
         simpa using this
        have gf:ds[off]? =some f:=by
         have:=congrArg (fun l=>l[0]?) he
         simpa using this
        obtain⟨x,gx,rx⟩:=hx.get gc
        obtain⟨y,gy,ry⟩:=hy.get gf
        have u5:cs.drop (off+1)=cU:=by
         have:=congrArg (List.drop 1) hc
         simpa [aj9] using this
        have UA:ds.drop (off+1)=ds':=by
         have:=congrArg (List.drop 1) he
         simpa [aj9] using this
        have rest:=yC w hg h1 ih n (off+1) cs ds xs ys q hx hy (by rw[u5,UA];exact hq)
        have px:xs.toArray[off*X.P.cellsOf e]? =some x:=by rw[h1];simpa using gx
        have py:ys.toArray[off*X.P.cellsOf e]? =some y:=by rw[h1];simpa using gy
        rw[List.range'_succ]
        simp only[Op.eqItems,Sem.run_bind,fV hg _ _ _ px,fV hg _ _ _ py,Result.andThen_ok,ih c f x y p rx ry hp]
        cases p
        ·simp
        ·simpa using rest
       ·simp at hb
theorem Te {  X:Ctx} {μ:Mu} (w:World): ∀d:Nat,
   (∀t ks cs ds xs ys b m,gO X d t=some ks→d≤m→ag X μ cs xs→ag X μ ds ys→cX ks cs ds=some b→
     bQ X t=some ks.length∧((gN X t=some true∧(Op.equalIn m t (.agg xs.toArray) (.agg ys.toArray)).run X.P w= .ok b w)∨
       (gN X t=some false∧ks.length=1∧ ∃x y,xs=[x]∧ys=[y]∧(Op.equalIn m t x y).run X.P w= .ok b w)))∧
   (∀fs off ks cs ds xs ys b m,pq X d fs off=some ks→d≤m→ag X μ cs xs→ag X μ ds ys→cX ks (cs.drop off) (ds.drop off)=some b→
     (Op.eqFields m xs.toArray ys.toArray fs).run X.P w= .ok b w):=by
 intro d
 induction d with
 | zero=>exact⟨fun _ _ _ _ _ _ _ _ h=>by simp[gO] at h,fun _ _ _ _ _ _ _ _ _ h=>by simp[pq] at h⟩
 | succ d ih=>
   refine⟨fun t ks cs ds xs ys b m hk hm hx hy hb=> ?_,fun fs off ks cs ds xs ys b m hk hm hx hy hb=> ?_⟩
   · obtain⟨m,rfl⟩: ∃m',m=m'+1:=⟨m - 1,abV⟩
     have scalar: ∀ (D:TypeDesc) (k:Nat),bL X t=some D→((k=0∧D= .bool)∨(k=1∧ ∃q,D= .int q)∨(k=2∧D= .string))→bQ X t=some 1→ks=[k]→
         bQ X t=some ks.length∧((gN X t=some true∧(Op.equalIn (m+1) t (.agg xs.toArray) (.agg ys.toArray)).run X.P w= .ok b w)∨
       (gN X t=some false∧ks.length=1∧ ∃x y,xs=[x]∧ys=[y]∧(Op.equalIn (m+1) t x y).run X.P w= .ok b w)):=by
       intro D k hd hD hs e
       subst e
       obtain⟨l1,l2⟩:=qR hb
       have lx:=hx.length
       have ly:=hy.length
       match cs,ds,xs,ys,l1,l2,lx,ly with
       | [c],[e],[x],[y],_,_,_,_=>
         simp only[ag,and_true] at hx hy
         simp only[cX,ajy] at hb
         have kK:Jj k c e=some b:=by
           cases hq:Jj k c e<;>rw[hq] at hb<;>simp at hb;rw[hb]
         refine⟨by simpa using hs,.inr ⟨?_,rfl,x,y,rfl,rfl,Wx hd hD hx hy kK w⟩⟩
         simp only[gN,hd,ai4]
         rcases hD with⟨_,rfl⟩ | ⟨_,q,rfl⟩ | ⟨_,rfl⟩ <;>rfl
     simp only[gO] at hk
     split at hk
     · split at hk<;>simp at hk
       rename_i hd hs
       exact scalar _ 0 hd abW hs hk.symm
     · split at hk<;>simp at hk
       rename_i hd hs
       exact scalar _ 1 hd abW hs hk.symm
     · split at hk<;>simp at hk
       rename_i hd hs
       exact scalar _ 2 hd abW hs hk.symm
     · rename_i fs hd
       split at hk
       · rename_i eW
         split at hk
         · rename_i wG hkf
           split at hk
           ·rename_i hs
            injection hk with hk;subst hk
            refine⟨hs,.inl ⟨by simp[gN,hd],?_⟩⟩
            have GV:X.P.fieldsOf t=fs:=by
              have pj:X.P.underlying t=some (.struct fs):=hd
              simp[Program.fieldsOf,pj]
            rw[run_equalIn_struct w m t _ _ (by rw[GV];exact hd) eW,GV]
            exact ih.2 _ 0 _ cs ds xs ys b m hkf abV hx hy (by simpa using hb)
           ·simp at hk
         ·simp at hk
       ·simp at hk
     · rename_i n e hd
       split at hk
       · rename_i oO
         obtain⟨oO,bI⟩:=oO
         split at hk
         · rename_i k r5
           injection hk with hk;subst hk
           refine⟨by rw[aj3];exact bI,.inl ⟨by simp[gN,hd],?_⟩⟩
           have iv:bQ X e=some 1:=by
            cases d with
            | zero=>simp[gO] at r5
            | succ d=>
              simp only[gO] at r5
              split at r5<;> (try (split at r5<;>simp at r5<;>assumption)) <;> (try (rename_i Zx;simp[gN,Zx] at oO)) <;>simp at r5
           obtain⟨inf,sM,Io⟩: ∃inf,X.P.info? e=some inf∧inf.size=1:=by simpa [bQ,info] using iv
           have rQ:X.P.cellsOf e=1:=by simp[Program.cellsOf,sM,Io]
           rw[run_equalIn_array w m _ _ hd sM,aj7]
           refine yC w oO rQ (fun c f x y b' rx ry kK=> ?_) n 0 cs ds xs ys b hx hy (by simpa using hb)
           obtain⟨_,hq⟩:=ih.1 e [k] [c] [f] [x] [y] b' m r5 abV (by simp only[ag,and_true];exact rx) (by simp only[ag,and_true];exact ry) (by simp[cX,kK])
           rcases hq with⟨hq,_⟩ | ⟨_,_,x',y',uy,J2,hq⟩
           ·rw[oO] at hq;cases hq
           ·obtain rfl:x=x':=by simpa using uy
            obtain rfl:y=y':=by simpa using J2
            exact hq
         ·simp at hk
       ·simp at hk
     ·simp at hk
   · obtain⟨m,rfl⟩: ∃m',m=m'+1:=⟨m - 1,abV⟩
     cases fs with
     | nil=>
       simp only[pq,aiT] at hk
       subst hk
       cases hc:cs.drop off<;>cases he:ds.drop off<;>rw[hc,he] at hb<;>simp[cX] at hb
       subst hb
       simp[Op.eqFields]
     | cons f fs=>
       simp only[pq] at hk
       split at hk
       · rename_i hn
         split at hk
         · rename_i k1 Aw
           split at hk
           ·rename_i k2 Mv
            injection hk with hk;subst hk
            obtain⟨b1,b2,e1,e2,e3⟩:=ui k1 hb
            obtain⟨hs,ha⟩:=ih.1 f.type k1 _ _ _ _ b1 (m+1) Aw abV (ag.take k1.length (ag.drop off hx)) (ag.take k1.length (ag.drop off hy)) e1
            have eX:=ih.2 fs (off+k1.length) k2 cs ds xs ys b2 (m+1) Mv abV hx hy (by simpa [aj9] using e2)
            have K2:=hn.2
            have head: (do let a ←Go.part f.type xs.toArray f.offset;let c ←Go.part f.type ys.toArray f.offset;Op.equalIn (m+1) f.type a c:Sem Bool).run X.P w= .ok b1 w:=by
              rcases ha with⟨hg,hq⟩ | ⟨hg,h1,x,y,P0,hy1,hq⟩
              · simp only[Sem.run_bind,vO hg hs,Result.andThen_ok,K2]
                rw[←hq]
                congr 3 <;> (apply Array.ext';simp[aks,aj2])
              · have gx:xs.toArray[f.offset]? =some x:=by
                 have:=congrArg (fun l=>l[0]?) P0
                 simpa [ajl,h1,K2] using this
                have gy:ys.toArray[f.offset]? =some y:=by
                 have:=congrArg (fun l=>l[0]?) hy1
                 simpa [ajl,h1,K2] using this
                simp only[Sem.run_bind,fV hg _ _ _ gx,fV hg _ _ _ gy,Result.andThen_ok]
                exact hq
            simp only[Op.eqFields,Sem.run_ite,if_pos hn.1]
            simp only[Sem.run_bind] at head ⊢
            generalize (Go.part f.type xs.toArray f.offset).run X.P w=r1 at head ⊢
            cases r1 with
            | halt _ _=>simp[Result.andThen] at head
            | ok a1 w1=>
              simp only[Result.andThen_ok] at head ⊢
              generalize (Go.part f.type ys.toArray f.offset).run X.P w1=r2 at head ⊢
              cases r2 with
              | halt _ _=>simp[Result.andThen] at head
              | ok a2 w2=>
                simp only[Result.andThen_ok] at head ⊢
                rw[head]
                simp only[Result.andThen_ok,Sem.run_ite]
                subst e3
                cases b1
                ·simp
                ·simpa using eX
           ·simp at hk
         ·simp at hk
       ·simp at hk
end Go.AM
namespace Go.AM
open Go Go.RowKit
theorem Tf {X:Ctx} {μ:Mu} {T:Nat→V} {a:Go.Act} {x:Option Operand} {y:Option aU} (hr:Rel X T a μ) (h:CN X x=some y) (O:Nat→Obj):
   (x=none∧y=none)∨ ∃x' y',x=some x'∧y=some y'∧aj X μ (bu ⟨T,O⟩ y') (a.eval x'):=by
 cases x with
 | none=>simp[CN] at h;exact .inl ⟨rfl,h.symm⟩
 | some x=>
   simp only[CN,aiU] at h
   obtain⟨c,h1,rfl⟩:=h
   exact .inr ⟨x,c,rfl,rfl,aS hr h1 O⟩
section
variable {X:Ctx} {E:Env} {C:bo} {o:Oper} {a:Go.Act} {T:Nat→V} {μ:Mu} {v:V} {σ':St}
theorem Th {op:BinOp} {t:TypeId} {x y:V} {xv yv:Value} {u:V} (hx:aj X μ x xv) (hy:aj X μ y yv) (h:tE op x y=some u) (p q:Operand):
  ∃val,(do eqGuard op t p q xv yv;Go.binOp op t xv yv:Sem Value).run X.P μ.w= .ok val μ.w∧aj X μ u val:=by
 unfold tE at h
 split at h
 ·rename_i k n k' n'
  simp only[aj] at hx hy
  subst hx;subst hy
  have hg: (eqGuard op t p q (.int k n) (.int k' n')).run X.P μ.w= .ok () μ.w:=by
    cases op<;>simp[eqGuard]
  simp only[Sem.run_bind,hg,Result.andThen_ok]
  cases op with
  | shl=>
    simp only at h
    split at h<;>simp at h
    subst h
    rename_i hb
    exact⟨.int k (k.wrap (n*2 ^ min n'.toNat k.bits)),by simp[Go.binOp,Op.shift,hb],by simp[aj]⟩
  | shr=>
    simp only at h
    split at h<;>simp at h
    subst h
    rename_i hb
    exact⟨.int k (n.fdiv (2 ^ min n'.toNat k.bits)),by simp[Go.binOp,Op.shift,hb],by simp[aj]⟩
  | quo=>
    simp only at h
    split at h
    ·rename_i hk;subst hk
     split at h<;>simp at h
     subst h
     rename_i hb
     exact⟨.int k (k.wrap (n.tdiv n')),by simp[Go.binOp,Op.intDiv,hb],by simp[aj]⟩
    ·simp at h
  | rem=>
    simp only at h
    split at h
    ·rename_i hk;subst hk
     split at h<;>simp at h
     subst h
     rename_i hb
     exact⟨.int k (n.tmod n'),by simp[Go.binOp,Op.intDiv,hb],by simp[aj]⟩
    ·simp at h
  | _=>
    simp only at h
    split at h
    ·rename_i hk;subst hk
     simp only[mW,JH,aiT] at h
     subst h
     exact⟨_,by simp[Go.binOp,Op.intArith,Op.intBits,Op.intCmp];rfl,by simp[aj]⟩
    ·simp at h
 ·rename_i s s'
  simp only[aj] at hx hy
  obtain⟨bs,rfl,rfl⟩:=hx
  obtain⟨cs,rfl,rfl⟩:=hy
  have hg: (eqGuard op t p q (.string bs) (.string cs)).run X.P μ.w= .ok () μ.w:=by
    cases op<;>simp[eqGuard]
  simp only[Sem.run_bind,hg,Result.andThen_ok]
  have he: (bs.toList==cs.toList)=decide (bs.data.toList=cs.data.toList):=by
    rw[ByteArray.toList_eq,ByteArray.toList_eq,akf];simp
  cases op with
  | add=>
    simp only at h
    split at h<;>simp at h
    subst h
    rename_i hl
    have Ak: ¬ ((bs.size+cs.size:Nat):Int) >IntKind.i64.max:=by
     have hm:IntKind.i64.max=9223372036854775807:=aiO
     have h1:bs.data.toList.length=bs.size:=by rw[ai8];rfl
     have h2:cs.data.toList.length=cs.size:=by rw[ai8];rfl
     rw[hm];rw[h1,h2] at hl;omega
    refine⟨.string (bs++cs),by simp only[Go.binOp,Op.stringOp];rw[if_neg Ak];rfl,?_⟩
    simp[aj,ByteArray.data_append]
  | _=>
    simp only[aiT,reduceCtorEq] at h
    try (subst h;refine⟨_,by simp only[Go.binOp,Op.stringOp];rfl,?_⟩;simp only[aj,he] <;>simp only[ByteArray.toList_eq])
 ·simp at h
theorem K3 {op:BinOp} {t t2:TypeId} {x y:Operand} {x' y':aU} (hr:Rel X T a μ) (ho:o.op= .binOp op t x y t2) (h1:dm X x=some x') (h2:dm X y=some y')
  (ah: (aM E (.bin op x' y')).run C ⟨T,μ.O⟩=some (v,σ')):σ'.T=T∧c6 X o a μ σ'.O v:=by
 simp only[aM,bA] at ah
 obtain⟨hb,rfl⟩:=fQ ah
 obtain⟨val,hv,bp⟩:=Th (t:=t) (aS hr h1 μ.O) (aS hr h2 μ.O) hb x y
 refine⟨rfl,aP hr.bg ?_ bp⟩
 simp only[execOp,ho]
 exact dy hv
theorem Ti {op:BinOp} {t t2:TypeId} {x y:Operand} {x' y':aU} {ks:List Nat} (hr:Rel X T a μ) (ho:o.op= .binOp op t x y t2) (eK:op= .eql∨op= .neq)
  (hg:X.P.eqGuardType X.P.depth t=false) (hk:gO X 100 t=some ks) (ZW:gN X t=some true)
  (h1:dm X x=some x') (h2:dm X y=some y') {neg:Bool} (hn:neg=yB op)
  (ah: (aM E (.eqA neg ks x' y')).run C ⟨T,μ.O⟩=some (v,σ')):σ'.T=T∧c6 X o a μ σ'.O v:=by
 simp only[aM,bA] at ah
 have hx:=aS hr h1 μ.O
 have hy:=aS hr h2 μ.O
 split at ah
 ·rename_i p q e1 e2
  split at ah
  ·rename_i b hb
   obtain⟨rfl,rfl⟩:=aZ ah
   rw[e1] at hx;rw[e2] at hy
   simp only[aj] at hx hy
   obtain⟨_,xs,LN,hvx⟩:=hx
   obtain⟨_,ys,hys,hvy⟩:=hy
   refine⟨rfl,aP (val:= .bool (b !=neg)) hr.bg ?_ (by simp[aj])⟩
   simp only[execOp,ho]
   refine dy ?_
   obtain⟨_,hh⟩:=(Te (X:=X) (μ:=μ) μ.w 100).1 t ks p q _ _ b 10000 hk abV hvx hvy hb
   rcases hh with⟨_,hh⟩ | ⟨hh,_⟩
   ·have heq: (Op.equal t (.agg xs) (.agg ys)).run X.P μ.w= .ok b μ.w:=by simpa [Op.equal,Op.maxDepth] using hh
    have OX: (eqGuard op t x y (.agg xs) (.agg ys)).run X.P μ.w= .ok () μ.w:=run_eqGuard_agg μ.w op t x y xs ys hg
    rw[LN,hys]
    rcases eK with rfl| rfl
    ·subst hn
     simp only[Sem.run_bind,OX,Result.andThen_ok,Go.binOp,heq,yB];simp
    ·subst hn
     simp only[Sem.run_bind,OX,Result.andThen_ok,Go.binOp,heq,yB];simp
   ·rw[ZW] at hh;cases hh
  ·exact absurd ah au
 ·exact absurd ah au
theorem mH {P:Program} {w:World} (d:Nat) {t e:TypeId} (q:Option Addr) (hi:P.underlying t=some (.pointer e)):
  (Op.equalIn (d+1) t (.pointer none) (.pointer q)).run P w= .ok q.isNone w:=by
 simp[Op.equalIn,run_underlying hi]
theorem qS {P:Program} {w:World} (d:Nat) {t e:TypeId} (p:Addr) (hi:P.underlying t=some (.pointer e)):
  (Op.equalIn (d+1) t (.pointer (some p)) (.pointer none)).run P w= .ok false w:=by
 simp[Op.equalIn,run_underlying hi]
theorem BK {P:Program} {w:World} (d:Nat) {t e:TypeId} {inf:TypeInfo} {n:Nat} {b o o':Nat} (hi:P.underlying t=some (.pointer e)) (sM:P.info? e=some inf) (hse:P.cellsOf e=n+1):
  (Op.equalIn (d+1) t (.pointer (some ⟨b,o,none⟩)) (.pointer (some ⟨b,o',none⟩))).run P w= .ok (o==o') w:=by
 have hq: ((⟨b,o,none⟩:Addr)==⟨b,o',none⟩)=(o==o'):=by
  rw[akf]
  simp only[beq_iff_eq,Addr.mk.injEq,true_and,and_true]
 simp[Op.equalIn,run_underlying hi,Sem.run_bind,run_sizeOf (w:=w) sM,hse,sameAddr,hq]
theorem ZX {op:BinOp} {t e t2:TypeId} {n:Nat} {x y:Operand} {x' y':aU} (hr:Rel X T a μ) (ho:o.op= .binOp op t x y t2) (eK:op= .eql∨op= .neq) (hd:bL X t=some (.pointer e)) (bI:bQ X e=some (n+1))
  (h1:dm X x=some x') (h2:dm X y=some y') {neg:Bool} (hn:neg=yB op)
  (ah: (aM E (.Yf neg x' y')).run C ⟨T,μ.O⟩=some (v,σ')):σ'.T=T∧c6 X o a μ σ'.O v:=by
 simp only[aM,bA] at ah
 have hx:=aS hr h1 μ.O
 have hy:=aS hr h2 μ.O
 obtain⟨hb,rfl⟩:=fQ ah
 rw[aiU] at hb
 obtain⟨b,hb,rfl⟩:=hb
 have pj:X.P.underlying t=some (.pointer e):=hd
 obtain⟨inf,sM,Io⟩: ∃inf,X.P.info? e=some inf∧inf.size=n+1:=by simpa [bQ,info] using bI
 have hse:X.P.cellsOf e=n+1:=by simp[Program.cellsOf,sM,Io]
 have key: ∃p q,a.eval x= .pointer p∧a.eval y= .pointer q∧(Op.equal t (.pointer p) (.pointer q)).run X.P μ.w= .ok b μ.w:=by
  unfold LY at hb
  split at hb
  ·rename_i e1 e2
   rw[e1] at hx;rw[e2] at hy
   simp only[aj] at hx hy
   simp only[aiT] at hb;subst hb
   exact⟨_,_,hx,hy,mH 9999 none pj⟩
  ·rename_i e1 e2
   rw[e1] at hx;rw[e2] at hy
   simp only[aj] at hx hy
   simp only[aiT] at hb;subst hb
   obtain⟨_,_,_,_,_,_,hy,_⟩:=hy
   exact⟨_,_,hx,hy,mH 9999 _ pj⟩
  ·rename_i e1 e2
   rw[e1] at hx;rw[e2] at hy
   simp only[aj] at hx hy
   simp only[aiT] at hb;subst hb
   obtain⟨_,_,_,hy,_⟩:=hy
   exact⟨_,_,hx,hy,mH 9999 _ pj⟩
  ·rename_i e1 e2
   rw[e1] at hx;rw[e2] at hy
   simp only[aj] at hx hy
   simp only[aiT] at hb;subst hb
   obtain⟨_,_,_,_,_,_,hx,_⟩:=hx
   exact⟨_,_,hx,hy,qS 9999 _ pj⟩
  ·rename_i e1 e2
   rw[e1] at hx;rw[e2] at hy
   simp only[aj] at hx hy
   simp only[aiT] at hb;subst hb
   obtain⟨_,_,_,hx,_⟩:=hx
   exact⟨_,_,hx,hy,qS 9999 _ pj⟩
  ·rename_i i z e0 i' z' e0' e1 e2
   rw[e1] at hx;rw[e2] at hy
   simp only[aj] at hx hy
   split at hb<;>simp only[aiT,reduceCtorEq] at hb
   rename_i hz
   obtain⟨rfl,SE⟩:=hz
   subst hb
   obtain⟨_,_,_,hx,_⟩:=hx
   obtain⟨_,_,_,hy,_⟩:=hy
   refine⟨_,_,hx,hy,?_⟩
   have hq: (X.tok.2+i*z+0==X.tok.2+i'*z+0)=(i==i'):=by
    rw[akf]
    simp only[beq_iff_eq]
    constructor
    ·intro h
     have:i*z=i'*z:=abV
     exact Nat.eq_of_mul_eq_mul_right SE this
    ·rintro rfl;rfl
   exact(BK 9999 pj sM hse).trans (by rw[hq])
  ·simp at hb
 obtain⟨p,q,hp,hq,heq⟩:=key
 refine⟨rfl,aP (val:= .bool (b !=neg)) hr.bg ?_ (by simp[aj])⟩
 simp only[execOp,ho,hp,hq]
 refine dy ?_
 subst hn
 rcases eK with rfl| rfl<;>simp[eqGuard,Go.binOp,Sem.run_bind,heq,yB]
theorem adE {op:UnOp} {t:TypeId} {x:Operand} {x':aU} (hr:Rel X T a μ) (ho:o.op= .unOp op t x) (h1:dm X x=some x')
  (ah: (aM E (.un op x')).run C ⟨T,μ.O⟩=some (v,σ')):σ'.T=T∧c6 X o a μ σ'.O v:=by
 simp only[aM,bA] at ah
 obtain⟨hb,rfl⟩:=fQ ah
 have hx:=aS hr h1 μ.O
 have: ∃val,(Op.unary op (a.eval x)).run X.P μ.w= .ok val μ.w∧aj X μ v val:=by
  unfold unV at hb
  split at hb
  ·rename_i k n e
   simp at hb;subst hb
   rw[e] at hx;simp only[aj] at hx
   exact⟨.int k (k.wrap (0 - n)),by simp[hx,Op.unary,Op.intArith],by simp[aj]⟩
  ·rename_i b e
   simp at hb;subst hb
   rw[e] at hx;simp only[aj] at hx
   exact⟨.bool (!b),by simp[hx,Op.unary],by simp[aj]⟩
  ·rename_i k n e
   simp only[mW,aiT] at hb;subst hb
   rw[e] at hx;simp only[aj] at hx
   exact⟨_,by simp[hx,Op.unary,Op.intBits];rfl,by simp[aj]⟩
  ·simp at hb
 obtain⟨val,h2,h3⟩:=this
 refine⟨rfl,aP hr.bg ?_ h3⟩
 simp only[execOp,ho]
 exact dy h2
theorem K4 {s d:TypeId} {x:Operand} {x':aU} {k k0:IntKind} (hr:Rel X T a μ) (ho:o.op= .convert s d x) (hs:bL X s=some (.int k0)) (hd:bL X d=some (.int k))
  (h1:dm X x=some x') (ah: (aM E (.uL k x')).run C ⟨T,μ.O⟩=some (v,σ')):σ'.T=T∧c6 X o a μ σ'.O v:=by
 simp only[aM,bA] at ah
 have hx:=aS hr h1 μ.O
 split at ah
 ·rename_i k1 n1 e
  obtain⟨rfl,rfl⟩:=aZ ah
  rw[e] at hx;simp only[aj] at hx
  refine⟨rfl,aP (val:= .int k (k.wrap n1)) hr.bg ?_ (by simp[aj])⟩
  simp only[execOp,ho]
  refine dy ?_
  simp[convert,Sem.run_bind,run_underlying hs,run_underlying hd,hx,Conv.intToInt]
 ·exact absurd ah au
theorem OY {s d:TypeId} {x:Operand} {x':aU} {k0:IntKind} (hr:Rel X T a μ) (ho:o.op= .convert s d x) (hs:bL X s=some (.int k0)) (hd:bL X d=some (.float .f64))
  (h1:dm X x=some x') (ah: (aM E (.z6 x')).run C ⟨T,μ.O⟩=some (v,σ')):σ'.T=T∧c6 X o a μ σ'.O v:=by
 simp only[aM,bA] at ah
 have hx:=aS hr h1 μ.O
 split at ah
 ·rename_i k1 n1 e
  obtain⟨rfl,rfl⟩:=aZ ah
  rw[e] at hx;simp only[aj] at hx
  refine⟨rfl,aP (val:= .float .f64 (FloatKind.f64.nearest n1)) hr.bg ?_ (by simp[aj])⟩
  simp only[execOp,ho]
  refine dy ?_
  simp[convert,Sem.run_bind,run_underlying hs,run_underlying hd,hx,Conv.intToFloat]
 ·exact absurd ah au
theorem OZ {s d:TypeId} {x:Operand} {x':aU} {k:IntKind} (hr:Rel X T a μ) (ho:o.op= .convert s d x) (hs:bL X s=some (.float .f64)) (hd:bL X d=some (.int k))
  (h1:dm X x=some x') (ah: (aM E (.z7 k x')).run C ⟨T,μ.O⟩=some (v,σ')):σ'.T=T∧c6 X o a μ σ'.O v:=by
 simp only[aM,bA] at ah
 have hx:=aS hr h1 μ.O
 split at ah
 ·rename_i b e
  split at ah
  ·rename_i n hn
   split at ah
   ·rename_i hle
    obtain⟨rfl,rfl⟩:=aZ ah
    rw[e] at hx;simp only[aj] at hx
    refine⟨rfl,aP (val:= .int k n) hr.bg ?_ (by simp[aj])⟩
    simp only[execOp,ho]
    refine dy ?_
    simp[convert,Sem.run_bind,run_underlying hs,run_underlying hd,hx,Conv.floatToInt,hn,hle]
   ·exact absurd ah au
  ·exact absurd ah au
 ·exact absurd ah au
theorem gS {c:Call} {b:Builtin} {val:Value} {w w':World} (ho:o.op= .call c) (hc:c.callee= .builtin b)
  (h: (builtin b c.argTypes o.type (c.args.map fun| .const _=>true| _=>false) (c.args.map a.eval)).run X.P w= .ok (.value val) w'):
  (execOp a.eval o).run X.P w= .ok (.value val) w':=by
 simp only[execOp,ho,resolve,hc,Sem.run_bind,Sem.run_pure,Result.andThen_ok,invoke]
 exact h
theorem ZY {c:Call} {x:Operand} {t e:TypeId} {x':aU} (hr:Rel X T a μ) (ho:o.op= .call c) (hc:c.callee= .builtin .len) (ha:c.args= #[x]) (ht:c.argTypes= #[t])
  (hd:bL X t=some (.slice e)) (h1:dm X x=some x') (ah: (aM E (.len x')).run C ⟨T,μ.O⟩=some (v,σ')):
  σ'.T=T∧c6 X o a μ σ'.O v:=by
 simp only[aM,bA] at ah
 obtain⟨hb,rfl⟩:=fQ ah
 have hx:=aS hr h1 μ.O
 have key: ∃n:Nat,(Builtin.len_ #[t] o.type #[a.eval x]).run X.P μ.w= .ok (goInt n) μ.w∧v= .int .i64 n:=by
  cases hy:bu ⟨T,μ.O⟩ x'<;>rw[hy] at hb hx<;>simp[UR] at hb
  ·simp only[aj] at hx
   obtain⟨p,hp⟩:=hx
   exact⟨0,by simp[Builtin.len_,Sem.run_bind,run_underlying hd,hp],hb.symm⟩
  ·simp only[aj] at hx
   obtain⟨_,_,p,cap,vs,hp,_⟩:=hx
   exact⟨_,by simp[Builtin.len_,Sem.run_bind,run_underlying hd,hp],hb.symm⟩
  ·simp only[aj] at hx
   obtain⟨p,cap,hp,_⟩:=hx
   exact⟨_,by simp[Builtin.len_,Sem.run_bind,run_underlying hd,hp],hb.symm⟩
  ·simp only[aj] at hx
   obtain⟨_,_,p,cap,vs,hp,_⟩:=hx
   exact⟨_,by simp[Builtin.len_,Sem.run_bind,run_underlying hd,hp],hb.symm⟩
 obtain⟨n,h2,rfl⟩:=key
 refine⟨rfl,aP (val:=goInt n) hr.bg ?_ (by simp[aj,goInt])⟩
 refine gS ho hc ?_
 simp only[builtin,ha,ht]
 refine dy ?_
 simpa using h2
theorem O3 {c:Call} {x:Operand} {t:TypeId} {x':aU} (hr:Rel X T a μ) (ho:o.op= .call c) (hc:c.callee= .builtin .len) (ha:c.args= #[x]) (ht:c.argTypes= #[t])
  (hd:bL X t=some .string) (h1:dm X x=some x') (ah: (aM E (.Aa x')).run C ⟨T,μ.O⟩=some (v,σ')):
  σ'.T=T∧c6 X o a μ σ'.O v:=by
 simp only[aM,bA] at ah
 have hx:=aS hr h1 μ.O
 split at ah
 ·rename_i s e
  obtain⟨rfl,rfl⟩:=aZ ah
  rw[e] at hx;simp only[aj] at hx
  obtain⟨bs,Wy,rfl⟩:=hx
  refine⟨rfl,aP (val:=goInt bs.size) hr.bg ?_ (by simp only[aj,goInt];rw[ai8];rfl)⟩
  refine gS ho hc ?_
  simp only[builtin,ha,ht]
  refine dy ?_
  simp[Builtin.len_,Sem.run_bind,run_underlying hd,Wy]
 ·exact absurd ah au
theorem O4 {c:Call} {x:Operand} {t e:TypeId} {n:Nat} (hr:Rel X T a μ) (ho:o.op= .call c) (hc:c.callee= .builtin .len) (ha:c.args= #[x]) (ht:c.argTypes= #[t])
  (hd:bL X t=some (.array n e)) (ah: (aM E (.move (.const (.int .i64 n)))).run C ⟨T,μ.O⟩=some (v,σ')):
  σ'.T=T∧c6 X o a μ σ'.O v:=by
 simp only[aM,bA,bu] at ah
 obtain⟨rfl,rfl⟩:=aZ ah
 refine⟨rfl,aP (val:=goInt n) hr.bg ?_ (by simp[aj,goInt])⟩
 refine gS ho hc ?_
 simp only[builtin,ha,ht]
 refine dy ?_
 simp[Builtin.len_,Sem.run_bind,run_underlying hd]
theorem Ec {w:World}: ∀ {xs:List V} {x:V} {u:V} {xv:Value} {vs:List Value},aj X μ x xv→ag X μ xs vs→pK min2 (x::xs)=some u→
   ∃val,(vs.foldlM Builtin.min2 xv).run X.P w= .ok val w∧aj X μ u val
 | [],x,u,xv,[],hx,_,h=>by simp[pK,qe] at h;subst h;exact⟨xv,abW,hx⟩
 | [],_,_,_,_::_,_,hv,_=>by simp[ag] at hv
 | _::_,_,_,_,[],_,hv,_=>by simp[ag] at hv
 | y::ys,x,u,xv,yv::vs,hx,hv,h=>by
   simp only[ag] at hv
   simp only[pK,qe] at h
   split at h
   ·rename_i z hz
    have: ∃zv,(Builtin.min2 xv yv).run X.P w= .ok zv w∧aj X μ z zv:=by
     unfold min2 at hz
     split at hz
     ·split at hz<;>simp at hz
      rename_i hk;subst hk;subst hz
      have h1:=hv.1
      simp only[aj] at hx h1
      subst hx;subst h1
      exact⟨_,by simp[Builtin.min2];rfl,by simp[aj]⟩
     ·simp at hz
    obtain⟨zv,h1,h2⟩:=this
    obtain⟨val,h3,h4⟩:=Ec (w:=w) h2 hv.2 h
    exact⟨val,by simp[List.foldlM_cons,Sem.run_bind,h1,h3],h4⟩
   ·simp at h
theorem Ed {w:World}: ∀ {xs:List V} {x:V} {u:V} {xv:Value} {vs:List Value},aj X μ x xv→ag X μ xs vs→pK max2 (x::xs)=some u→
   ∃val,(vs.foldlM Builtin.max2 xv).run X.P w= .ok val w∧aj X μ u val
 | [],x,u,xv,[],hx,_,h=>by simp[pK,qe] at h;subst h;exact⟨xv,abW,hx⟩
 | [],_,_,_,_::_,_,hv,_=>by simp[ag] at hv
 | _::_,_,_,_,[],_,hv,_=>by simp[ag] at hv
 | y::ys,x,u,xv,yv::vs,hx,hv,h=>by
   simp only[ag] at hv
   simp only[pK,qe] at h
   split at h
   ·rename_i z hz
    have: ∃zv,(Builtin.max2 xv yv).run X.P w= .ok zv w∧aj X μ z zv:=by
     unfold max2 at hz
     split at hz
     ·split at hz<;>simp at hz
      rename_i hk;subst hk;subst hz
      have h1:=hv.1
      simp only[aj] at hx h1
      subst hx;subst h1
      exact⟨_,by simp[Builtin.max2];rfl,by simp[aj]⟩
     ·simp at hz
    obtain⟨zv,h1,h2⟩:=this
    obtain⟨val,h3,h4⟩:=Ed (w:=w) h2 hv.2 h
    exact⟨val,by simp[List.foldlM_cons,Sem.run_bind,h1,h3],h4⟩
   ·simp at h
theorem ZZ {c:Call} {xs:List aU} (hr:Rel X T a μ) (ho:o.op= .call c) (hc:c.callee= .builtin .min) (h1:oD X c.args.toList=some xs)
   (ah: (aM E (.min xs)).run C ⟨T,μ.O⟩=some (v,σ')):σ'.T=T∧c6 X o a μ σ'.O v:=by
 simp only[aM,pA] at ah
 obtain⟨hb,rfl⟩:=fQ ah
 have hx:=oE hr μ.O h1
 generalize hq:xs.map (bu ⟨T,μ.O⟩)=us at hb hx
 generalize hp:c.args.toList.map a.eval=vs at hx
 match us,vs,hx,hb with
 | [],_,_,hb=>simp[pK,qe] at hb
 | u::us,[],hx,_=>simp[ag] at hx
 | u::us,y::vs,hx,hb=>
   simp only[ag] at hx
   obtain⟨val,h2,h3⟩:=Ec (w:=μ.w) hx.1 hx.2 hb
   refine⟨rfl,aP (val:=val) hr.bg (gS ho hc ?_) h3⟩
   simp only[builtin]
   refine dy ?_
   simp only[Builtin.min_,akR,hp]
   exact h2
theorem Z0 {c:Call} {xs:List aU} (hr:Rel X T a μ) (ho:o.op= .call c) (hc:c.callee= .builtin .max) (h1:oD X c.args.toList=some xs)
   (ah: (aM E (.max xs)).run C ⟨T,μ.O⟩=some (v,σ')):σ'.T=T∧c6 X o a μ σ'.O v:=by
 simp only[aM,pA] at ah
 obtain⟨hb,rfl⟩:=fQ ah
 have hx:=oE hr μ.O h1
 generalize hq:xs.map (bu ⟨T,μ.O⟩)=us at hb hx
 generalize hp:c.args.toList.map a.eval=vs at hx
 match us,vs,hx,hb with
 | [],_,_,hb=>simp[pK,qe] at hb
 | u::us,[],hx,_=>simp[ag] at hx
 | u::us,y::vs,hx,hb=>
   simp only[ag] at hx
   obtain⟨val,h2,h3⟩:=Ed (w:=μ.w) hx.1 hx.2 hb
   refine⟨rfl,aP (val:=val) hr.bg (gS ho hc ?_) h3⟩
   simp only[builtin]
   refine dy ?_
   simp only[Builtin.max_,akR,hp]
   exact h2
end
end Go.AM
namespace Go.AM
open Go Go.RowKit
theorem gT (b q n:Nat): (⟨b,q,none⟩:Addr).add n=⟨b,q+n,none⟩:=by unfold Addr.add;split<;>simp_all
theorem qT: ∀ {xs:List V} {i:Nat} {x:V},V.al xs=true→xs[i]? =some x→V.aw x=true
 | [],_,_,_,h=>by simp at h
 | y::ys,0,x,hp,h=>by simp[V.al] at hp;simp at h;rw[←h];exact hp.1
 | y::ys,i+1,x,hp,h=>by simp[V.al] at hp;simp at h;exact qT hp.2 h
theorem vQ: ∀ {xs:List V} (n:Nat),V.al xs=true→V.al (xs.take n)=true
 | _,0,_=>by simp[V.al]
 | [],n+1,_=>by simp[V.al]
 | y::ys,n+1,h=>by simp[V.al] at h ⊢;exact⟨h.1,vQ n h.2⟩
theorem vS: ∀ {xs:List V} (n:Nat),V.al xs=true→V.al (xs.drop n)=true
 | _,0,h=>by simpa using h
 | [],n+1,_=>by simp[V.al]
 | y::ys,n+1,h=>by simp[V.al] at h;simpa using vS n h.2
theorem lU {p:V→Bool} {xs:List V} (n:Nat) (h:xs.all p=true): (xs.take n).all p=true:=by
 simp only[aiY] at h ⊢
 exact fun x hx=>h x (ajh hx)
theorem oF {p:V→Bool} {xs:List V} (n:Nat) (h:xs.all p=true): (xs.drop n).all p=true:=by
 simp only[aiY] at h ⊢
 exact fun x hx=>h x (ajz hx)
theorem dH.drop {w:World} {b off sz:Nat} {vs:List Value} (h:dH w b off sz vs) (n:Nat):dH w b (off+n*sz) sz (vs.drop n):=by
 intro i v hv
 simp only[aki] at hv
 obtain⟨h1,h2⟩:=h (n+i) v hv
 refine⟨h1,fun j c hc=> ?_⟩
 rw[←h2 j c hc]
 congr 2
 rw[ajo];omega
theorem dH.take {w:World} {b off sz:Nat} {vs:List Value} (h:dH w b off sz vs) (n:Nat):dH w b off sz (vs.take n):=by
 intro i v hv
 rw[ajl] at hv
 split at hv
 ·exact h i v hv
 ·simp at hv
section
variable {X:Ctx} {E:Env} {C:bo} {o:Oper} {a:Go.Act} {T:Nat→V} {μ:Mu} {v:V} {σ':St}
theorem si {t:TypeId} {e u:V} {x:Value} {off sz:Nat} {agg:Bool} {w:World} {b q:Nat} (hx:aj X μ e x) (hp:part agg off sz e=some u)
   (hg:gN X t=some agg) (hn:bQ X t=some sz) (hm: ∀j c,x.cells[j]? =some c→w.cell? ⟨b,q+j,none⟩=some c):
   ∃val,(loadVar t ⟨b,q+off,none⟩).run X.P w= .ok val w∧aj X μ u val:=by
 cases agg with
 | true=>
   obtain⟨cs,rfl,hle,hv⟩:=FL hx hp
   refine⟨_,?_,hv⟩
   have hl: (cs.extract off (off+sz)).toList.length=sz:=by simp;omega
   have:=run_loadCells_list (P:=X.P) w ⟨b,q+off,none⟩ (cs.extract off (off+sz)).toList (fun j c hc=>by
    rw[gT]
    have EC:cs[off+j]? =some c:=by
     rw[aks,aj2,ajl] at hc
     split at hc
     ·simpa using hc
     ·simp at hc
    have:=hm (off+j) c (by simpa [Value.cells] using EC)
    rwa [←aky] at this)
   rw[hl,Array.toArray_toList] at this
   simp[loadVar,Sem.run_bind,sh hg,fj hn,this]
 | false=>
   obtain⟨_,c,hc,hv⟩:=CP hx hp
   refine⟨c,?_,hv⟩
   have:=hm off c hc
   simp[loadVar,Sem.run_bind,sh hg,this]
theorem Iw (ho:bk X μ) {r idx:Nat} {es:List V} {e:V} (bq: (μ.O r).es=some es) (he:es[idx]? =some e) (h0:0 < (μ.O r).sz):
  ∃x,aj X μ e x∧(μ.φ r).cap≠0∧ ∀j c,x.cells[j]? =some c→μ.w.cell? ⟨(μ.φ r).bY,(μ.φ r).base+idx*(μ.O r).sz+j,none⟩=some c:=by
 obtain⟨_,h2,_,h4⟩:=ho.row r es bq h0
 have bl:idx<es.length:=(aiS.1 he).1
 have hc: (μ.φ r).cap≠0:=abV
 rcases h4 with h4| ⟨c,T',vs,_,_,hv,dA⟩
 ·exact absurd h4 hc
 ·obtain⟨x,hx,hr⟩:=hv.get he
  exact⟨x,hr,hc,(dA idx x hx).2⟩
theorem MP {t:TypeId} {x:Operand} {x':aU} {agg:Bool} {sz:Nat} (hr:Rel X T a μ) (ho:o.op= .load t x) (h1:dm X x=some x') (hg:gN X t=some agg) (hn:bQ X t=some sz)
  (ah: (aM E (.load agg sz x')).run C ⟨T,μ.O⟩=some (v,σ')):σ'.T=T∧c6 X o a μ σ'.O v:=by
 simp only[aM,bA] at ah
 have hx:=aS hr h1 μ.O
 have fin: ∀ (p:Addr),a.eval x= .pointer (some p)→ ∀val,(loadVar t p).run X.P μ.w= .ok val μ.w→(execOp a.eval o).run X.P μ.w= .ok (.value val) μ.w:=fun p hp val hv=>by
  simp only[execOp,ho]
  refine dy ?_
  simp[Instr.loadAt,Instr.sureAddr,Sem.run_bind,hp,hv]
 split at ah
 ·rename_i r g idx off e
  simp only[Act.run] at ah
  split at ah
  ·rename_i es bq
   split at ah
   ·rename_i cK
    split at ah
    ·rename_i el sO
     obtain⟨hp,rfl⟩:=fQ ah
     rw[e] at hx
     simp only[aj] at hx
     obtain⟨p,XL,_,bV⟩:=hx
     obtain⟨xv,sE,_,kC⟩:=Iw hr.bg bq sO (bV cK).1
     obtain⟨val,hl,bp⟩:=si sE hp hg hn kC
     refine⟨rfl,aP hr.bg (fin p XL val ?_) bp⟩
     rw[(bV cK).2];exact hl
    ·exact absurd ah au
   ·exact absurd ah au
  ·exact absurd ah au
 ·rename_i el off e
  obtain⟨hp,rfl⟩:=fQ ah
  rw[e] at hx
  simp only[aj] at hx
  obtain⟨_,_,b,q,sz',xv,XL,_,_,sE,dA⟩:=hx
  obtain⟨val,hl,bp⟩:=si (w:=μ.w) (b:=b) (q:=q) sE hp hg hn (fun j c hc=>by simpa using (dA 0 xv abW).2 j c hc)
  exact⟨rfl,aP hr.bg (fin _ XL val hl) bp⟩
 ·rename_i i z el off e
  obtain⟨hp,rfl⟩:=fQ ah
  rw[e] at hx
  simp only[aj] at hx
  obtain⟨_,_,xv,XL,_,_,sE,dA⟩:=hx
  obtain⟨val,hl,bp⟩:=si (w:=μ.w) (b:=X.tok.1) (q:=X.tok.2+i*z) sE hp hg hn (fun j c hc=>by simpa using (dA 0 xv abW).2 j c hc)
  exact⟨rfl,aP hr.bg (fin _ XL val hl) bp⟩
 ·exact absurd ah au
theorem O5 {ks:List Nat} {agg:Bool} {sz:Nat} {x:aU} {σ:St} (h: (aM E (.C7 ks agg sz x)).run C σ=some (v,σ')): ∃v0,(aM E (.load agg sz x)).run C σ=some (v0,σ')∧v=AM.Ji ks v0:=by
 simp only[aM,bA] at h ⊢
 have fin: ∀ (p:Option V),(eP (p.map (AM.Ji ks))).run C σ=some (v,σ')→ ∃v0,(eP p).run C σ=some (v0,σ')∧v=AM.Ji ks v0:=by
  intro p hp
  cases p with
  | none=>exact absurd hp au
  | some v0=>
    obtain⟨h1,h2⟩:=fQ hp
    simp only[ai4,aiT] at h1
    exact⟨v0,by simp only[eP,Act.run,h2],h1.symm⟩
 split at h
 ·rename_i r g idx off e
  simp only[Act.run] at h ⊢
  split at h
  · rename_i es bq
    split at h
    ·rename_i hg
     split at h
     ·rename_i el sO
      rw[if_pos hg]
      exact fin _ h
     ·exact absurd h au
    ·exact absurd h au
  ·exact absurd h au
 ·exact fin _ h
 ·exact fin _ h
 ·exact absurd h au
theorem Tj {t:TypeId} {x:Operand} {x':aU} {agg:Bool} {sz:Nat} (ks:List Nat) (hr:Rel X T a μ) (ho:o.op= .load t x) (h1:dm X x=some x') (hg:gN X t=some agg) (hn:bQ X t=some sz)
  (ah: (aM E (.C7 ks agg sz x')).run C ⟨T,μ.O⟩=some (v,σ')):σ'.T=T∧c6 X o a μ σ'.O v:=by
 obtain⟨v0,h2,rfl⟩:=O5 ah
 obtain⟨h3,val,w',φ',h4,h5,h6,h7⟩:=MP hr ho h1 hg hn h2
 exact⟨h3,val,w',φ',h4,aj.Ji ks h5,h6,h7⟩
theorem FO {t e:TypeId} {x i:Operand} {x' i':aU} {sz:Nat} (hr:Rel X T a μ) (ho:o.op= .indexAddr t x i) (hd:bL X t=some (.slice e)) (hn:bQ X e=some sz)
  (h1:dm X x=some x') (h2:dm X i=some i') (ah: (aM E (.indexAddr sz x' i')).run C ⟨T,μ.O⟩=some (v,σ')):σ'.T=T∧c6 X o a μ σ'.O v:=by
 simp only[aM,bA] at ah
 have hx:=aS hr h1 μ.O
 have hi:=aS hr h2 μ.O
 have fin: ∀ (p:Addr) (len cap:Nat) (k:IntKind) (n:Int),a.eval x= .slice (some p) len cap→a.eval i= .int k n→0≤n→n<len→
   (execOp a.eval o).run X.P μ.w= .ok (.value (.pointer (some (p.add (n.toNat*sz))))) μ.w:=fun p len cap k n hp hq ZC hn1=>by
  simp only[execOp,ho]
  refine dy ?_
  simp[Instr.indexAt,Sem.run_bind,hp,hq,asIntOf,run_underlying hd,ZC,hn1,fj hn]
 split at ah
 ·rename_i r g off len k n e1 e2
  simp only[Act.run] at ah
  split at ah
  ·rename_i hc
   obtain⟨rfl,rfl⟩:=aZ ah
   rw[e1] at hx;rw[e2] at hi
   simp only[aj] at hx hi
   obtain⟨p,cap,hp,XM,oO,bV⟩:=hx
   obtain⟨q0,q1,q2⟩:=bV hc.2.2.2
   have cS:cap≠0:=abV
   have Ee:=q2.resolve_left cS
   rw[Ee] at hp
   refine⟨rfl,aP hr.bg (fin _ len cap k n hp hi hc.1 hc.2.1) ?_⟩
   simp only[aj]
   refine⟨_,rfl,oO,fun _=> ⟨q0,?_⟩⟩
   rw[gT,hc.2.2.1]
   simp only[Addr.mk.injEq,true_and,and_true]
   rw[ajo];omega
  ·exact absurd ah au
 ·rename_i sz' xs k n e1 e2
  split at ah
  ·rename_i hc
   split at ah
   ·rename_i el sO
    obtain⟨rfl,rfl⟩:=aZ ah
    rw[e1] at hx;rw[e2] at hi
    simp only[aj] at hx hi
    obtain⟨mR,Jp,p,cap,vs,hp,XM,nn,kC⟩:=hx
    have bl:n.toNat<xs.length:=(aiS.1 sO).1
    rcases kC with kC| ⟨b,q,Z1,ij,Wy,dA⟩
    ·subst kC;simp at bl
    ·rw[Z1] at hp
     obtain⟨xv,sE,bp⟩:=nn.get sO
     refine⟨rfl,aP hr.bg (fin _ xs.length cap k n hp hi hc.1 abV) ?_⟩
     simp only[aj]
     refine⟨qT mR sO,?_,b,q+n.toNat*sz,sz,xv,by rw[gT];simp,ij,Wy,bp,?_⟩
     ·simp only[aiY] at Jp
      exact Jp el (List.mem_of_getElem? sO)
     ·have:=(dA.drop n.toNat).take 1
      rw[hc.2] at this
      have Hv: (vs.drop n.toNat).take 1=[xv]:=by
        have Cj:n.toNat<vs.length:=(aiS.1 sE).1
        rw[ajf Cj,ajO,akq]
        rw[aiW Cj] at sE
        injection sE with sE;rw[sE]
      rwa [Hv] at this
   ·exact absurd ah au
  ·exact absurd ah au
 ·rename_i sz' xs k n e1 e2
  split at ah
  ·rename_i hc
   split at ah
   ·rename_i el sO
    obtain⟨rfl,rfl⟩:=aZ ah
    rw[e1] at hx;rw[e2] at hi
    simp only[aj] at hx hi
    obtain⟨mR,Jp,p,cap,vs,hp,XM,nn,kC⟩:=hx
    have bl:n.toNat<xs.length:=(aiS.1 sO).1
    rcases kC with kC| ⟨Z1,ij,Wy,dA⟩
    ·subst kC;simp at bl
    ·rw[Z1] at hp
     obtain⟨xv,sE,bp⟩:=nn.get sO
     refine⟨rfl,aP hr.bg (fin _ xs.length cap k n hp hi hc.1 abV) ?_⟩
     simp only[aj]
     refine⟨qT mR sO,?_,xv,by rw[gT];simp,ij,Wy,bp,?_⟩
     ·simp only[aiY] at Jp
      exact Jp el (List.mem_of_getElem? sO)
     ·have:=(dA.drop n.toNat).take 1
      rw[hc.2.1] at this
      have Hv: (vs.drop n.toNat).take 1=[xv]:=by
        have Cj:n.toNat<vs.length:=(aiS.1 sE).1
        rw[ajf Cj,ajO,akq]
        rw[aiW Cj] at sE
        injection sE with sE;rw[sE]
      rwa [Hv] at this
   ·exact absurd ah au
  ·exact absurd ah au
 ·exact absurd ah au
theorem Ix {t e:TypeId} {x i:Operand} {x' i':aU} {n sz:Nat} (hr:Rel X T a μ) (ho:o.op= .indexAddr t x i) (hd:bL X t=some (.array n e)) (hn:bQ X e=some sz)
  (h1:dm X x=some x') (h2:dm X i=some i') (ah: (aM E (.p8 n sz x' i')).run C ⟨T,μ.O⟩=some (v,σ')):σ'.T=T∧c6 X o a μ σ'.O v:=by
 simp only[aM,bA] at ah
 have hx:=aS hr h1 μ.O
 have hi:=aS hr h2 μ.O
 have fin: ∀ (p:Addr) (k:IntKind) (j:Int),a.eval x= .pointer (some p)→a.eval i= .int k j→0≤j→j<n→
   (execOp a.eval o).run X.P μ.w= .ok (.value (.pointer (some (p.add (j.toNat*sz))))) μ.w:=fun p k j hp hq ZC hn1=>by
  simp only[execOp,ho]
  refine dy ?_
  simp[Instr.indexAt,Sem.run_bind,hp,hq,asIntOf,run_underlying hd,ZC,hn1,fj hn,Instr.sureAddr]
 split at ah
 ·rename_i r g idx off k j e1 e2
  split at ah
  ·rename_i hc
   obtain⟨rfl,rfl⟩:=aZ ah
   rw[e1] at hx;rw[e2] at hi
   simp only[aj] at hx hi
   obtain⟨p,hp,oO,bV⟩:=hx
   refine⟨rfl,aP hr.bg (fin p k j hp hi hc.1 hc.2) ?_⟩
   simp only[aj]
   refine⟨_,rfl,oO,fun hg=> ⟨(bV hg).1,?_⟩⟩
   rw[(bV hg).2,gT];simp[aky]
  ·exact absurd ah au
 ·rename_i el off k j e1 e2
  split at ah
  ·rename_i hc
   obtain⟨rfl,rfl⟩:=aZ ah
   rw[e1] at hx;rw[e2] at hi
   simp only[aj] at hx hi
   obtain⟨Xu,Js,b,q,sz',xv,hp,eX⟩:=hx
   refine⟨rfl,aP hr.bg (fin _ k j hp hi hc.1 hc.2) ?_⟩
   simp only[aj]
   exact⟨Xu,Js,b,q,sz',xv,by rw[gT];simp[aky],eX⟩
  ·exact absurd ah au
 ·exact absurd ah au
theorem Iy {t:TypeId} {x i:Operand} {x' i':aU} (hr:Rel X T a μ) (ho:o.op= .index t x i) (hd:bL X t=some .string)
  (h1:dm X x=some x') (h2:dm X i=some i') (ah: (aM E (.qa x' i')).run C ⟨T,μ.O⟩=some (v,σ')):σ'.T=T∧c6 X o a μ σ'.O v:=by
 simp only[aM,bA] at ah
 have hx:=aS hr h1 μ.O
 have hi:=aS hr h2 μ.O
 split at ah
 ·rename_i s k n e1 e2
  split at ah
  ·rename_i hc
   split at ah
   ·rename_i b hb
    obtain⟨rfl,rfl⟩:=aZ ah
    rw[e1] at hx;rw[e2] at hi
    simp only[aj] at hx hi
    obtain⟨bs,Wy,rfl⟩:=hx
    refine⟨rfl,aP (val:= .int .u8 b.toNat) hr.bg ?_ (by simp[aj])⟩
    simp only[execOp,ho]
    refine dy ?_
    have kK:bs[n.toNat]? =some b:=by
     have bl:=(aiS.1 hb).1
     have hv:=(aiS.1 hb).2
     have bI:n.toNat<bs.size:=by rw[ai8] at bl;exact bl
     rw[getElem?_pos bs n.toNat bI]
     congr 1
    simp[Instr.index,Sem.run_bind,Wy,hi,asIntOf,run_underlying hd,hc,kK]
   ·exact absurd ah au
  ·exact absurd ah au
 ·exact absurd ah au
end
end Go.AM
namespace Go.AM
open Go Go.RowKit
def Wz (X:Ctx) (μ:Mu) (x:Option V) (v:Option Value):Prop:=(x=none∧v=none)∨ ∃x' v',x=some x'∧v=some v'∧aj X μ x' v'
theorem xC {X:Ctx} {μ:Mu} {T:Nat→V} {a:Go.Act} {x:Option Operand} {y:Option aU} (hr:Rel X T a μ) (h:CN X x=some y) (O:Nat→Obj):
  Wz X μ (y.map (bu ⟨T,O⟩)) (x.map a.eval):=by
 rcases Tf hr h O with⟨rfl,rfl⟩ | ⟨x',y',rfl,rfl,bp⟩
 ·exact .inl ⟨rfl,rfl⟩
 ·exact .inr ⟨_,_,rfl,rfl,bp⟩
section
variable {X:Ctx} {E:Env} {C:bo} {o:Oper} {a:Go.Act} {T:Nat→V} {μ:Mu} {v:V} {σ':St}
theorem run_sliceBound {d l y:Nat} {x:V} {xv:Value} {code:BoundsCode} {w:World} (h:aj X μ x xv) (hb:cQ d (some x)=some l) (hle:l≤y):
  (Instr.sliceBound xv y code).run X.P w= .ok l w:=by
 cases x<;>simp[cQ] at hb
 obtain⟨h0,rfl⟩:=hb
 simp only[aj] at h
 subst h
 rename_i k n
 have:n≤(y:Int):=abV
 simp[Instr.sliceBound,asIntOf,Sem.run_bind,h0,this]
theorem j3 {isSlice:Bool} {len cap l h:Nat} {lo hi:Option V} {lov hiv:Option Value} {w:World} (h1:Wz X μ lo lov) (h2:Wz X μ hi hiv)
  (hl:cQ 0 lo=some l) (hh:cQ len hi=some h) (hlh:l≤h) (cS:h≤cap):
  (Instr.sliceBounds isSlice len cap lov hiv none).run X.P w= .ok (l,h,cap) w:=by
 rcases h1 with⟨rfl,rfl⟩ | ⟨lx,lv,rfl,rfl,hlr⟩ <;>rcases h2 with⟨rfl,rfl⟩ | ⟨hx,hv,rfl,rfl,hhr⟩
 ·simp[cQ] at hl hh;subst hl;subst hh
  simp[Instr.sliceBounds,Sem.run_bind]
 ·simp[cQ] at hl;subst hl
  simp[Instr.sliceBounds,Sem.run_bind,run_sliceBound hhr hh cS]
 ·have hh':=hh
  simp[cQ] at hh';subst hh'
  simp[Instr.sliceBounds,Sem.run_bind,run_sliceBound hlr hl hlh]
 ·simp[Instr.sliceBounds,Sem.run_bind,run_sliceBound hlr hl hlh,run_sliceBound hhr hh cS]
theorem j4 {isSlice:Bool} {len cap l h m:Nat} {lo:Option V} {hi mx:V} {lov:Option Value} {hiv mxv:Value} {w:World} (h1:Wz X μ lo lov) (h2:aj X μ hi hiv) (h3:aj X μ mx mxv)
  (hl:cQ 0 lo=some l) (hh:cQ len (some hi)=some h) (hm:cQ 0 (some mx)=some m) (hlh:l≤h) (hhm:h≤m) (cS:m≤cap):
  (Instr.sliceBounds isSlice len cap lov (some hiv) (some mxv)).run X.P w= .ok (l,h,m) w:=by
 rcases h1 with⟨rfl,rfl⟩ | ⟨lx,lv,rfl,rfl,hlr⟩
 ·simp[cQ] at hl;subst hl
  simp[Instr.sliceBounds,Sem.run_bind,run_sliceBound h3 hm cS,run_sliceBound h2 hh hhm]
 ·simp[Instr.sliceBounds,Sem.run_bind,run_sliceBound h3 hm cS,run_sliceBound h2 hh hhm,run_sliceBound hlr hl hlh]
theorem Tk {t e:TypeId} {x:Operand} {lo hi mx:Option Operand} {x':aU} {lo' ON mx':Option aU} {sz:Nat} (hr:Rel X T a μ) (ho:o.op= .slice t x lo hi mx) (hd:bL X t=some (.slice e))
  (hn:bQ X e=some sz) (h1:dm X x=some x') (h2:CN X lo=some lo') (h3:CN X hi=some ON) (h4:CN X mx=some mx')
  (ah: (aM E (.slice sz x' lo' ON mx')).run C ⟨T,μ.O⟩=some (v,σ')):σ'.T=T∧c6 X o a μ σ'.O v:=by
 simp only[aM,bA,Wv] at ah
 have hx:=aS hr h1 μ.O
 have rl:=xC hr h2 μ.O
 have rh:=xC hr h3 μ.O
 have rm:=xC hr h4 μ.O
 generalize lo'.map (bu ⟨T,μ.O⟩)=lov at ah rl
 generalize ON.map (bu ⟨T,μ.O⟩)=hiv at ah rh
 generalize mx'.map (bu ⟨T,μ.O⟩)=mxv at ah rm
 have pj:X.P.underlying t=some (.slice e):=hd
 have fin: ∀ (p:Option Addr) (len cap l h m:Nat),a.eval x= .slice p len cap→(Instr.sliceBounds true len cap (lo.map a.eval) (hi.map a.eval) (mx.map a.eval)).run X.P μ.w= .ok (l,h,m) μ.w→
   (execOp a.eval o).run X.P μ.w= .ok (.value (.slice (if m=l then p else p.map (·.add (l*sz))) (h - l) (m - l))) μ.w:=fun p len cap l h m hp hb=>by
  simp only[execOp,ho]
  refine dy ?_
  simp only[Instr.sliceAt,Sem.run_bind,run_underlying pj,Result.andThen_ok,Instr.slice,hp,hb,fj hn,Sem.run_pure]
 split at ah
 ·rename_i r g off len ey
  rw[ey] at hx
  simp only[aj] at hx
  obtain⟨p,cap,hp,XM,oO,bV⟩:=hx
  simp only[Act.run] at ah
  split at ah
  ·rename_i es bq
   split at ah
   ·rename_i Iz
    obtain⟨q0,q1,q2⟩:=bV Iz.1
    have ahL:es.length≤(μ.φ r).cap:=(hr.bg.row r es bq q0).2.1
    split at ah
    ·
     rename_i _ l h hl hh
     split at ah
     ·   rename_i hle
         obtain⟨rfl,rfl⟩:=aZ ah
         have Fa:mx.map a.eval=none:=by
          rcases rm with⟨h5,h6⟩ | ⟨_,_,h5,_⟩
          ·exact h6
          ·cases h5
         have hb:=j3 (isSlice:=true) (len:=len) (cap:=cap) (w:=μ.w) rl rh hl hh hle.1 abV
         refine⟨rfl,aP hr.bg (fin p len cap l h cap hp (by rw[Fa];exact hb)) ?_⟩
         simp only[aj]
         refine⟨_,_,rfl,abV,oO,fun _=> ⟨q0,abV,?_⟩⟩
         by_cases iB:cap=l
         ·left;omega
         ·right
          rw[if_neg iB]
          have:cap≠0:=abV
          rw[q2.resolve_left this,ai4,gT,Iz.2]
          congr 2
          rw[ajo];omega
     ·exact absurd ah au
    ·
     rename_i _ l h' m hl hh
     split at ah
     ·   rename_i _ _ h m' Jq
         split at ah
         ·rename_i hle
          obtain⟨rfl,rfl⟩:=aZ ah
          rcases rm with⟨h5,_⟩ | ⟨mxx,adF,h5,h6,IA⟩
          ·cases h5
          ·injection h5 with h5;subst h5
           rcases rh with⟨h7,_⟩ | ⟨hix,adG,h7,h8,IB⟩
           ·cases h7
           ·injection h7 with h7;subst h7
            have hb:=j4 (isSlice:=true) (len:=len) (cap:=cap) (w:=μ.w) rl IB IA hl hh Jq hle.1 hle.2.1 abV
            refine⟨rfl,aP hr.bg (fin p len cap l h' m' hp (by rw[h6,h8];exact hb)) ?_⟩
            split
            ·rename_i Di
             simp only[aj]
             have e1:h' - l=0:=abV
             have e2:m' - l=0:=abV
             exact⟨_,by rw[e1,e2]⟩
            ·simp[aj]
         ·exact absurd ah au
     ·exact absurd ah au
    ·exact absurd ah au
   ·exact absurd ah au
  ·exact absurd ah au
 ·obtain⟨Ap,rfl⟩:=fQ ah
  refine⟨rfl,?_⟩
  generalize bu ⟨T,μ.O⟩ x'=y at Ap hx
  cases y<;>simp only[zL,reduceCtorEq] at Ap
  ·
   simp only[aj] at hx
   obtain⟨p,hp⟩:=hx
   split at Ap
   ·rename_i l h m hl hh hm
    split at Ap<;>simp at Ap
    rename_i hle
    subst Ap
    have e1:l=0:=abV
    have e2:h=0:=abV
    have e3:m=0:=abV
    subst e1;subst e2;subst e3
    have hb: ∃m',(Instr.sliceBounds true 0 0 (lo.map a.eval) (hi.map a.eval) (mx.map a.eval)).run X.P μ.w= .ok (0,0,m') μ.w∧m'=0:=by
     rcases rm with⟨rfl,h6⟩ | ⟨mxx,adF,rfl,h6,IA⟩
     ·rw[h6];exact⟨_,j3 (isSlice:=true) (len:=0) (cap:=0) (w:=μ.w) rl rh hl hh (aiZ _) (aiZ _),rfl⟩
     ·   rcases rh with⟨rfl,h8⟩ | ⟨hix,adG,rfl,h8,IB⟩
         ·simp at hle
         ·rw[h6,h8];exact⟨_,j4 (isSlice:=true) (len:=0) (cap:=0) (w:=μ.w) rl IB IA hl hh hm (aiZ _) (aiZ _) (aiZ _),rfl⟩
    obtain⟨m',hb,rfl⟩:=hb
    refine aP hr.bg (fin p 0 0 0 0 0 hp hb) ?_
    simp[aj]
   ·simp at Ap
  ·
   rename_i sz' xs
   simp only[aj] at hx
   obtain⟨mR,Jp,p,cap,vs,hp,XM,nn,kC⟩:=hx
   split at Ap
   ·rename_i adH
    subst adH
    split at Ap
    ·rename_i l h hl hh
     split at Ap<;>simp at Ap
     rename_i hle
     subst Ap
     obtain⟨_,Fa⟩: (none:Option V)=none∧mx.map a.eval=none:=by
         rcases rm with⟨h5,h6⟩ | ⟨_,_,h5,_⟩
         ·exact⟨rfl,h6⟩
         ·cases h5
     have hb:=j3 (isSlice:=true) (len:=xs.length) (cap:=cap) (w:=μ.w) rl rh hl hh hle.1 abV
     refine aP hr.bg (fin p xs.length cap l h cap hp (by rw[Fa];exact hb)) ?_
     have o9: (aG xs l (h - l)).length=h - l:=by simp[aG];omega
     simp only[aj]
     refine⟨vQ _ (vS _ mR),lU _ (oF _ Jp),_,_,(vs.drop l).take (h - l),by rw[o9],by rw[o9];omega,ag.take _ (ag.drop _ nn),?_⟩
     by_cases hlh:l=h
     ·left;simp[aG,hlh]
     ·   right
         rcases kC with kC| ⟨b,q,Z1,ij,Wy,dA⟩
         ·subst kC;simp at hle;omega
         ·have: ¬cap=l:=abV
          rw[if_neg this,Z1,ai4,gT]
          exact⟨b,q+l*sz',rfl,ij,Wy,(dA.drop l).take _⟩
    ·rename_i l h m hl hh
     split at Ap
     ·   rename_i hi0 m' Jq
         split at Ap<;>simp at Ap
         rename_i hle
         subst Ap
         rcases rm with⟨h5,_⟩ | ⟨mxx,adF,h5,h6,IA⟩
         ·cases h5
         ·injection h5 with h5;subst h5
          rcases rh with⟨h7,_⟩ | ⟨hix,adG,h7,h8,IB⟩
          ·cases h7
          ·injection h7 with h7;subst h7
           have hb:=j4 (isSlice:=true) (len:=xs.length) (cap:=cap) (w:=μ.w) rl IB IA hl hh Jq hle.1 hle.2.1 abV
           refine aP hr.bg (fin p xs.length cap l h m' hp (by rw[h6,h8];exact hb)) ?_
           split
           ·simp only[aj]
            have e1:h - l=0:=abV
            have e2:m' - l=0:=abV
            exact⟨_,by rw[e1,e2]⟩
           ·simp[aj]
     ·simp at Ap
    ·simp at Ap
   ·simp at Ap
end
end Go.AM
namespace Go.AM
open Go Go.RowKit
def cT {α:Type} (L:List α) (p:Nat) (m:List α):List α:=L.take p++m++L.drop (p+m.length)
theorem fW {α:Type} {L m:List α} {p:Nat} (h:p+m.length≤L.length): (cT L p m).length=L.length:=by
 simp[cT];omega
theorem fJ {α:Type} {L m:List α} {p:Nat} (h:p+m.length≤L.length) (q:Nat):
  (cT L p m)[q]? =if q<p then L[q]? else if q<p+m.length then m[q - p]? else L[q]? :=by
 unfold cT
 rw[ajR,akL]
 have hl: (L.take p).length=p:=by simp;omega
 rw[hl]
 split
 ·rename_i hq
  rw[ajl];simp[hq]
 ·rename_i hq
  rw[akL]
  split
  ·rename_i hm
   rw[if_pos abV]
  ·rename_i hm
   rw[if_neg abV,aki]
   congr 1;omega
def dT (c:List Value) (base sz:Nat) (vs:List Value):Prop:=
 ∀i v,vs[i]? =some v→v.cells.size=sz∧ ∀j x,v.cells[j]? =some x→c[base+i*sz+j]? =some x
def flat (us:List Value):List Value:=us.flatMap fun v=>v.cells.toList
theorem ja {us:List Value} {sz:Nat} (h: ∀v ∈ us,v.cells.size=sz): (flat us).length=us.length*sz:=by
 induction us with
 | nil=>simp[flat]
 | cons u us ih=>
   have h1:=h u abW
   have h2:=ih fun v hv=>h v (by simp[hv])
   simp only[flat,List.flatMap_cons,List.length_append,ai5] at h2 ⊢
   rw[h2,ai8,h1,ajo];omega
theorem vT {us:List Value} {sz:Nat} (h: ∀v ∈ us,v.cells.size=sz) {i j:Nat} {v x:Value} (hv:us[i]? =some v) (hx:v.cells[j]? =some x):
   (flat us)[i*sz+j]? =some x:=by
 induction us generalizing i with
 | nil=>simp at hv
 | cons u us ih=>
   have h1:=h u abW
   simp only[flat,List.flatMap_cons]
   cases i with
   | zero=>
     simp at hv;subst hv
     have hj:j<u.cells.size:=(aiV.1 hx).1
     rw[ajw (by rw[ai8];omega)]
     simpa using hx
   | succ i=>
     simp at hv
     have:=ih (fun v hv=>h v (by simp[hv])) hv
     rw[ajp (by rw[ai8,h1,ajo];omega)]
     rw[ai8,h1]
     have e: (i+1)*sz+j - sz=i*sz+j:=by rw[ajo];omega
     rw[e];exact this
theorem zF {sz i j k:Nat} (hj:j<sz) (GW:i<k):i*sz+j<k*sz:=by
 have: (i+1)*sz≤k*sz:=ajA _ abV
 rw[ajo] at this;omega
theorem FP {sz i j k:Nat} (GW:k≤i):k*sz≤i*sz+j:=by
 have:k*sz≤i*sz:=ajA _ GW
 omega
theorem dT.write {c:List Value} {base sz k:Nat} {vs us:List Value} (h:dT c base sz vs) (hk:k≤vs.length) (Tl: ∀v ∈ us,v.cells.size=sz)
  (mG:base+k*sz+us.length*sz≤c.length):
  dT (cT c (base+k*sz) (flat us)) base sz (vs.take k++us++vs.drop (k+us.length)):=by
 have Fc:=ja Tl
 intro i v hv
 have bl: (vs.take k).length=k:=by simp;omega
 rw[ajR,akL,bl] at hv
 split at hv
 ·rename_i hi
  rw[ajl] at hv
  simp only[hi,if_true] at hv
  obtain⟨h1,h2⟩:=h i v hv
  refine⟨h1,fun j x hx=> ?_⟩
  have hj:j<sz:=h1 ▸ (aiV.1 hx).1
  rw[fJ (by rw[Fc];omega),if_pos (by have:=zF hj hi;omega)]
  exact h2 j x hx
 ·rename_i hi
  rw[akL] at hv
  split at hv
  ·rename_i Io
   have hvm:=List.mem_of_getElem? hv
   refine⟨Tl v hvm,fun j x hx=> ?_⟩
   have hj:j<sz:=Tl v hvm ▸ (aiV.1 hx).1
   have oO:=FP (sz:=sz) (j:=j) (show k≤i by omega)
   have jU:=zF (k:=k+us.length) hj (show i<k+us.length by omega)
   rw[ajo] at jU
   rw[fJ (by rw[Fc];omega),if_neg abV,if_pos (by rw[Fc];omega)]
   have e:base+i*sz+j - (base+k*sz)=(i - k)*sz+j:=by
    rw[Nat.sub_mul]
    have:=ajA sz (show k≤i by omega)
    omega
   rw[e]
   exact vT Tl hv hx
  ·rename_i Io
   rw[aki] at hv
   have e:k+us.length+(i - k - us.length)=i:=abV
   rw[e] at hv
   obtain⟨h1,h2⟩:=h i v hv
   refine⟨h1,fun j x hx=> ?_⟩
   have oO:=FP (sz:=sz) (j:=j) (show k+us.length≤i by omega)
   rw[ajo] at oO
   rw[fJ (by rw[Fc];omega),if_neg abV,if_neg (by rw[Fc];omega)]
   exact h2 j x hx
theorem dT.take {c:List Value} {base sz:Nat} {vs:List Value} (h:dT c base sz vs) (n:Nat):dT c base sz (vs.take n):=by
 intro i v hv
 rw[ajl] at hv
 split at hv
 ·exact h i v hv
 ·simp at hv
theorem dT.drop {c:List Value} {base sz:Nat} {vs:List Value} (h:dT c base sz vs) (n:Nat):dT c (base+n*sz) sz (vs.drop n):=by
 intro i v hv
 rw[aki] at hv
 obtain⟨h1,h2⟩:=h (n+i) v hv
 refine⟨h1,fun j x hx=> ?_⟩
 rw[←h2 j x hx,ajo]
 congr 1;omega
theorem dT.put {c:List Value} {base sz idx off:Nat} {vs m:List Value} {x x':Value} (h:dT c base sz vs) (hx:vs[idx]? =some x)
  (mG:base+(idx+1)*sz≤c.length) (hm:off+m.length≤sz) (uy:x'.cells.toList=cT x.cells.toList off m):
  dT (cT c (base+idx*sz+off) m) base sz (vs.set idx x'):=by
 have bI:=(h idx x hx).1
 rw[ajo] at mG
 have jg:base+idx*sz+off+m.length≤c.length:=abV
 have Uz:off+m.length≤x.cells.toList.length:=by have:x.cells.toList.length=x.cells.size:=ai8;omega
 intro i v hv
 rw[ajQ] at hv
 split at hv
 ·rename_i e;subst e
  have bl:idx<vs.length:=(aiS.1 hx).1
  simp only[bl,if_true,aiT] at hv
  subst hv
  have WA:x'.cells.size=sz:=by rw[←ai8,uy,fW Uz,ai8];exact bI
  refine⟨WA,fun j y hy=> ?_⟩
  have hj:j<sz:=WA ▸ (aiV.1 hy).1
  have J2: (cT x.cells.toList off m)[j]? =some y:=by rw[←uy];simpa using hy
  rw[fJ Uz] at J2
  rw[fJ jg]
  have e2:base+idx*sz+j - (base+idx*sz+off)=j - off:=abV
  split at J2
  ·rw[if_pos abV]
   exact(h idx x hx).2 j y (by simpa using J2)
  ·split at J2
   ·rw[if_neg abV,if_pos abV,e2];exact J2
   ·rw[if_neg abV,if_neg abV]
    exact(h idx x hx).2 j y (by simpa using J2)
 ·rename_i cL
  obtain⟨h1,h2⟩:=h i v hv
  refine⟨h1,fun j y hy=> ?_⟩
  have hj:j<sz:=h1 ▸ (aiV.1 hy).1
  rw[fJ jg]
  by_cases bl:i<idx
  ·have:=zF hj bl
   rw[if_pos abV];exact h2 j y hy
  ·have:=FP (sz:=sz) (j:=j) (show idx+1≤i by omega)
   rw[ajo] at this
   rw[if_neg abV,if_neg abV];exact h2 j y hy
theorem kl {w:World} {b base sz:Nat} {vs:List Value} {c:Array Value} {T:TypeId} {fr:Nat×Nat} (hb:w.heap[b]? =some (.cells c T fr))
  (h:dH w b base sz vs):dT c.toList base sz vs:=by
 intro i v hv
 obtain⟨h1,h2⟩:=h.Td hb i v hv
 exact⟨h1,fun j x hx=>by simpa using h2 j x hx⟩
theorem xD {P:Program} {w:World} {b q sz n:Nat} {vs:List Value} (h:dH w b q sz vs) (hn:n≤vs.length):
  (loadCells ⟨b,q,none⟩ (n*sz)).run P w= .ok (flat (vs.take n)).toArray w:=by
 have hs: ∀v ∈ vs.take n,v.cells.size=sz:=fun v hv=>by
  obtain⟨i,hi⟩:=ajL (ajh hv)
  exact(h i v hi).1
 have hl: (flat (vs.take n)).length=n*sz:=by rw[ja hs,ajg,Nat.min_eq_left hn]
 rw[←hl]
 refine run_loadCells_list w ⟨b,q,none⟩ _ fun p x hx=> ?_
 rw[gT]
 have hp:p<n*sz:=by rw[←hl];exact(aiS.1 hx).1
 have bI:0 <sz:=by
  rcases ajm sz with e| e
  ·subst e;simp at hp
  ·exact e
 have hi:p / sz<n:=Nat.div_lt_of_lt_mul (by rw[akm];exact hp)
 have Ee:p / sz*sz+p % sz=p:=by rw[akm];exact Nat.div_add_mod p sz
 have ahM:p / sz<vs.length:=abV
 have hv:vs[p / sz]? =some vs[p / sz]:=aiW ahM
 have hvt: (vs.take n)[p / sz]? =some vs[p / sz]:=by rw[ajl];simp[hi,hv]
 obtain⟨h1,h2⟩:=h _ _ hv
 have hm:p % sz< (vs[p / sz]).cells.size:=by rw[h1];exact Nat.mod_lt _ bI
 have hc: (vs[p / sz]).cells[p % sz]? =some (vs[p / sz]).cells[p % sz]:=ajd hm
 have g1:=vT hs hvt hc
 rw[Ee,hx] at g1
 injection g1 with g1
 have g2:=h2 _ _ hc
 rw[aky,Ee,←g1] at g2
 exact g2
end Go.AM
namespace Go.AM
open Go Go.RowKit
theorem cr {v:V} {sz:Nat} (h:aV v sz=true):v.dh=true∧v.cells.length=sz:=by
 simp[aV] at h;exact⟨h.2,h.1⟩
theorem iH {X:Ctx} {t:TypeId} {z:V} (h:ft X t=some z) (w:World): ∃zv,(zeroValue t).run X.P w= .ok zv w∧BC zv=some z:=by
 simp only[ft,info,Option.bind_eq_some_iff] at h
 obtain⟨i,h1,zv,h2,h3⟩:=h
 exact⟨zv,by simp[zeroValue,Sem.run_bind,run_typeInfo w h1,h2],h3⟩
theorem ag.cells_one {X:Ctx} {μ:Mu} {ys:List V} {us:List Value} {sz:Nat} (h:ag X μ ys us) (hb:ys.all (aV · sz)=true):
  (∀u ∈ us,u.cells.size=sz)∧ ∀c ∈ flat us,c.oneCell'=true:=by
 have hh: ∀u ∈ us,∃y,y ∈ ys∧aj X μ y u:=fun u hu=>by
  obtain⟨i,hi⟩:=ajL hu
  have bl:i<ys.length:=by rw[h.length];exact(aiS.1 hi).1
  obtain⟨u',h1,h2⟩:=h.get (aiW bl)
  rw[hi] at h1;injection h1 with h1;subst h1
  exact⟨_,ajI bl,h2⟩
 simp only[aiY] at hb
 refine⟨fun u hu=> ?_,fun c hc=> ?_⟩
 ·obtain⟨y,hy,hr⟩:=hh u hu
  obtain⟨h1,h2⟩:=cr (hb y hy)
  rw[hr.fI h1,h2]
 ·simp only[flat,List.mem_flatMap] at hc
  obtain⟨u,hu,hcu⟩:=hc
  obtain⟨y,hy,hr⟩:=hh u hu
  obtain⟨h1,h2⟩:=cr (hb y hy)
  obtain⟨j,hj⟩:=ajL hcu
  have oN:=hr.cells h1
  have bl:j<y.cells.length:=by rw[oN.length];exact(aiS.1 hj).1
  obtain⟨u',g1,g2⟩:=oN.get (aiW bl)
  rw[hj] at g1;injection g1 with g1;subst g1
  have XN:=hr.lJ h1
  simp only[aiY] at XN
  exact(g2.pw (XN _ (ajI bl))).1
theorem km {P:Program} {w:World} {g q:Nat} {cur:Array Value} {T:TypeId} (hg:w.heap[g]? =some (.cells cur T (0,0))) (m:List Value) (hl:q+m.length≤cur.size)
  (h1: ∀v ∈ m,v.oneCell'=true): (storeCells ⟨g,q,none⟩ m).run P w= .ok () (w.setRow g (cT cur.toList q m).toArray):=by
 have:=run_storeCells_at (P:=P) g q T m 0 cur w hg (by simpa using hl) h1
 simpa [cT] using this
section
variable {X:Ctx} {E:Env} {C:bo} {o:Oper} {a:Go.Act} {T:Nat→V} {μ:Mu} {v:V} {σ':St}
theorem Tm (hr:Rel X T a μ) {r sz:Nat} {arr:Bool} {es:List V} {vs:List Value} {c:Array Value} {t:TypeId} {val:Value} (bI:0 <sz) (cap:Nat)
  (cS:es.length≤cap) (lf:es.all (aV · sz)=true) (bp:ag X μ es vs) (hc:cap*sz≤c.size) (dA:dT c.toList 0 sz vs)
  (ah: (execOp a.eval o).run X.P μ.w= .ok (.value val) (μ.w.alloc (.cells c t (0,0))))
  (hv:let μ':Mu:=⟨μ.w.alloc (.cells c t (0,0)),da μ.φ r ⟨μ.w.heap.size,0,cap⟩,da μ.O r {gen:=(μ.O r).gen+1,sz:=sz,arr:=arr,fz:=false,es:=some es}⟩;aj X μ' v val):
  c6 X o a μ (da μ.O r {gen:=(μ.O r).gen+1,sz:=sz,arr:=arr,fz:=false,es:=some es}) v:=by
 obtain⟨h1,h2⟩:=FK (X:=X) hr.bg r sz cap arr (es:=es) (vs:=vs) (c:=c) t bI cS lf bp hc (fun i u hu=>by
  obtain⟨k1,k2⟩:=dA i u hu
  exact⟨k1,fun j x hx=>by simpa using k2 j x hx⟩)
 exact⟨val,_,_,.inl ah,hv,h1,h2⟩
theorem K5 {x:Value}:dT x.cells.toList 0 x.cells.size [x]:=by
 intro i v hv
 cases i with
 | zero=>simp at hv;subst hv;exact⟨rfl,fun j y hy=>by simpa using hy⟩
 | succ i=>simp at hv
theorem Tn {t:TypeId} {x':aU} {r sz:Nat} {xv:Value} (hr:Rel X T a μ) (hx:aj X μ (bu ⟨T,μ.O⟩ x') xv)
  (adI: (execOp a.eval o).run X.P μ.w= .ok (.value (.pointer (some ⟨μ.w.heap.size,0,none⟩))) (μ.w.alloc (.cells xv.cells t (0,0))))
  (ah: (aM E (.new r sz x')).run C ⟨T,μ.O⟩=some (v,σ')):σ'.T=T∧c6 X o a μ σ'.O v:=by
 simp only[aM,bA] at ah
 split at ah
 ·rename_i hb
  simp only[Bool.and_eq_true,decide_eq_true_eq] at hb
  simp only[Act.run,aiT,aiX] at ah
  obtain⟨rfl,rfl⟩:=ah
  obtain⟨hl,iB⟩:=cr hb.1
  have bI:xv.cells.size=sz:=by rw[hx.fI hl,iB]
  refine⟨rfl,Tm hr (cap:=1) (es:=[bu ⟨T,μ.O⟩ x']) (vs:=[xv]) (c:=xv.cells) hb.2 abW (by simp[hb.1]) (by simp[ag,hx]) abV (bI ▸ K5) adI ?_⟩
  simp only[aj,aA]
  exact⟨_,rfl,aiZ _,fun _=> ⟨hb.2,abW⟩⟩
 ·exact absurd ah au
theorem To {t:TypeId} {r sz:Nat} {z:V} (ks:List Nat) (hr:Rel X T a μ) (ho:o.op= .alloc t) (hz:ft X t=some z)
  (ah: (aM E (.new r sz (.const (Ji ks z)))).run C ⟨T,μ.O⟩=some (v,σ')):σ'.T=T∧c6 X o a μ σ'.O v:=by
 obtain⟨zv,h1,h2⟩:=iH hz μ.w
 refine Tn (t:=t) (xv:=zv) hr (aj.Ji ks (eT h2).1) ?_ ah
 simp only[execOp,ho]
 refine dy ?_
 simp[Instr.alloc,Sem.run_bind,h1,newVar,newRow]
theorem Z2 {t:TypeId} {r sz:Nat} {x:Operand} {x':aU} (ks:List Nat) (hr:Rel X T a μ) (ho:o.op= .box t x) (h1:dm X x=some x')
  (ah: (aM E (.new r sz (XH ks x'))).run C ⟨T,μ.O⟩=some (v,σ')):σ'.T=T∧c6 X o a μ σ'.O v:=by
 refine Tn (t:=t) (xv:=a.eval x) hr (aj.XH ks (aS hr h1 μ.O)) ?_ ah
 simp only[execOp,ho]
 refine dy ?_
 simp[Instr.box,Sem.run_bind,newVar,newRow]
theorem IC {zv:Value} {sz n:Nat} (hz:zv.cells.size=sz):
  ((Array.range (n*sz)).map (fun i=>zv.cells[i % zv.cells.size]!)).size=n*sz∧
    dT ((Array.range (n*sz)).map (fun i=>zv.cells[i % zv.cells.size]!)).toList 0 sz (List.replicate n zv):=by
 refine⟨abW,fun i v hv=> ?_⟩
 rw[List.getElem?_replicate] at hv
 split at hv<;>simp at hv
 rename_i hi
 subst hv
 refine⟨hz,fun j x hx=> ?_⟩
 have hj:j<sz:=hz ▸ (aiV.1 hx).1
 have bl:=zF hj hi
 have hm: (i*sz+j) % sz=j:=by rw[akm,Nat.mul_add_mod];exact akh hj
 have hr: (Array.range (n*sz))[i*sz+j]? =some (i*sz+j):=by simp[bl]
 simp only[ajF,akR,List.getElem?_map]
 rw[akD,hr]
 simp only[ai4,hz,hm]
 rw[getElem!_def,hx]
theorem ag.replicate {z:V} {zv:Value} (h:aj X μ z zv): ∀n,ag X μ (List.replicate n z) (List.replicate n zv)
 | 0=>by simp[ag]
 | n+1=>by simp only[List.replicate_succ,ag];exact⟨h,ag.replicate h n⟩
theorem sY {c:V} {k:V→Act} {val:Value} {O:Nat→Obj} {p:V×St} (ho:bk X ⟨μ.w,μ.φ,O⟩) (hv:aj X ⟨μ.w,μ.φ,O⟩ c val) (ah: (jk c k).run C ⟨T,O⟩=some p):
   ∃c' O',(k c').run C ⟨T,O'⟩=some p∧aj X ⟨μ.w,μ.φ,O'⟩ c' val∧Le ⟨μ.w,μ.φ,O⟩ ⟨μ.w,μ.φ,O'⟩∧bk X ⟨μ.w,μ.φ,O'⟩∧(c.aT=true→c'.aT=true):=by
 have same: (jk c k).run C ⟨T,O⟩=(k c).run C ⟨T,O⟩→_:=fun e=> (⟨c,O,e ▸ ah,hv,Le.refl _,ho,id⟩: ∃c' O',(k c').run C ⟨T,O'⟩=some p∧aj X ⟨μ.w,μ.φ,O'⟩ c' val∧Le ⟨μ.w,μ.φ,O⟩ ⟨μ.w,μ.φ,O'⟩∧bk X ⟨μ.w,μ.φ,O'⟩∧(c.aT=true→c'.aT=true))
 cases c with
 | mp r g=>
   simp only[jk,Act.run] at ah
   split at ah
   ·rename_i es bq
    split at ah
    ·rename_i hc
     obtain⟨rQ,u5,Z3,WB⟩:=hc
     simp only[Act.run] at ah
     obtain⟨le,wF⟩:=pz (μ:=⟨μ.w,μ.φ,O⟩) ho r
     refine⟨_,_,ah,?_,le,wF,fun _=>rfl⟩
     simp only[aj] at hv
     obtain⟨a,rfl,h1,h2⟩:=hv
     obtain⟨k0,rfl⟩:=h2 rQ
     have vI:=wF.ents r es (by simp[aA,bq]) (by simp[aA,u5])
     rcases vI with⟨cS,ents,clock,hm,bp,cC⟩ | ⟨_,s,pos,_,rfl⟩ | ⟨mY,rfl⟩
     rotate_left
     ·simp[V.isTuple] at WB
     ·simp[V.isTuple] at WB
     simp only[aj]
     refine⟨Z3,.inr ⟨_,ents,clock,rfl,?_,(aiV.1 hm).1,⟨hm,cC⟩,bp⟩⟩
     rintro(⟨r',h1,h2,h3,h4⟩ | K6)
     ·by_cases e:r'=r
      ·subst e;simp[aA] at h2
      ·exact wF.inj r' r e h1 (by simp[aA,bq]) h3 cS h4
     ·exact wF.uz r (by simp[aA,bq]) cS K6
    ·exact absurd ah au
   ·exact absurd ah au
 | sl r g off len=>
   simp only[jk,Act.run] at ah
   split at ah
   ·rename_i es bq
    split at ah
    ·rename_i hc
     obtain⟨rQ,u5,Z3,WB⟩:=hc
     simp only[Act.run] at ah
     obtain⟨le,wF⟩:=pz (μ:=⟨μ.w,μ.φ,O⟩) ho r
     refine⟨_,_,ah,?_,le,wF,fun _=>rfl⟩
     have o9: (aG es off len).length=len:=by simp[aG];omega
     have zB:=aj.mono le hv
     simp only[aj,aA] at zB
     obtain⟨a0,cap,rfl,hle,_,bV⟩:=zB
     obtain⟨k0,k1,k2⟩:=bV rQ
     obtain⟨q1,q2,q3,q4⟩:=wF.row r es (by simp[aA,bq]) (by simpa [aA] using k0)
     simp only[aA] at q1 q2 q3 q4
     simp only[aj]
     refine⟨WB,?_,a0,cap,?_⟩
     ·simp only[aiY] at q3 ⊢
      exact fun x hx=> (cr (q3 x (ajz (ajh hx)))).1
     ·by_cases cS:cap=0
      ·have:len=0:=abV
       subst this
       refine⟨[],by rw[o9],by rw[o9];omega,?_,.inl ?_⟩
       ·simp[aG,ag]
       ·simp[aG]
      ·have iw: (μ.φ r).cap≠0:=abV
       rcases q4 with q4| ⟨cc,TT,vs,p1,p2,p3,p4⟩
       ·exact absurd q4 iw
       ·refine⟨(vs.drop off).take len,by rw[o9],by rw[o9];omega,ag.take _ (ag.drop _ p3),.inr ⟨_,_,k2.resolve_left cS,?_,(aiV.1 p1).1,(p4.drop off).take len⟩⟩
        rintro(⟨r',h1,h2,h3,h4⟩ | K6)
        ·by_cases e:r'=r
         ·subst e;simp[aA] at h2
         ·have:=wF.inj r' r e h1 (by simp[aA,bq]) h3 iw
          exact this h4
        ·exact wF.uz r (by simp[aA,bq]) iw K6
    ·exact absurd ah au
   ·exact absurd ah au
 | own _ _=>exact absurd ah au
 | msl _ _ _ _=>exact absurd ah au
 | mptr _ _ _ _=>exact absurd ah au
 | any=>exact absurd ah au
 | it _ _=>exact absurd ah au
 | _=>exact same rfl
theorem qU: ∀ {cs:List V} {k:List V→Act} {vals:List Value} {O:Nat→Obj} {p:V×St},bk X ⟨μ.w,μ.φ,O⟩→ag X ⟨μ.w,μ.φ,O⟩ cs vals→(mf cs k).run C ⟨T,O⟩=some p→
   ∃cU O',(k cU).run C ⟨T,O'⟩=some p∧ag X ⟨μ.w,μ.φ,O'⟩ cU vals∧Le ⟨μ.w,μ.φ,O⟩ ⟨μ.w,μ.φ,O'⟩∧bk X ⟨μ.w,μ.φ,O'⟩∧(cs.all V.aT=true→cU.all V.aT=true)
 | [],k,[],O,p,ho,_,ah=> ⟨[],O,ah,by simp[ag],Le.refl _,ho,id⟩
 | [],_,_::_,_,_,_,h,_=>by simp[ag] at h
 | _::_,_,[],_,_,_,h,_=>by simp[ag] at h
 | c::cs,k,v::vals,O,p,ho,h,ah=>by
   simp only[ag] at h
   obtain⟨c',O1,h1,h2,h3,h4,h5⟩:=sY ho h.1 ah
   obtain⟨cU,O2,k1,k2,k3,k4,k5⟩:=qU h4 (ag.mono h3 h.2) h1
   refine⟨c'::cU,O2,k1,?_,h3.trans k3,k4,?_⟩
   ·simp only[ag];exact⟨aj.mono k3 h2,k2⟩
   ·intro hh
    simp only[aja,Bool.and_eq_true] at hh ⊢
    exact⟨h5 hh.1,k5 hh.2⟩
theorem j5 {c:V} {k:V→Act} {val:Value} {O:Nat→Obj} {p:V×St} (ho:bk X ⟨μ.w,μ.φ,O⟩) (hv:aj X ⟨μ.w,μ.φ,O⟩ c val) (ah: (C6 c k).run C ⟨T,O⟩=some p):
  ∃c' O',(k c').run C ⟨T,O'⟩=some p∧aj X ⟨μ.w,μ.φ,O'⟩ c' val∧Le ⟨μ.w,μ.φ,O⟩ ⟨μ.w,μ.φ,O'⟩∧bk X ⟨μ.w,μ.φ,O'⟩:=by
 unfold C6 at ah
 split at ah
 ·exact⟨c,O,ah,hv,Le.refl _,ho⟩
 ·split at ah
  ·simp only[aj] at hv
   obtain⟨h0,vs,rfl,nn⟩:=hv
   obtain⟨cU,O',h1,h2,h3,h4,h5⟩:=qU ho nn ah
   exact⟨_,O',h1,by simp only[aj];exact⟨h5 h0,vs,rfl,h2⟩,h3,h4⟩
  ·obtain⟨c',O',h1,h2,h3,h4,_⟩:=sY ho hv ah
   exact⟨c',O',h1,h2,h3,h4⟩
theorem sZ: ∀ {cs:List V} {k:List V→Act} {vals:List Value} {O:Nat→Obj} {p:V×St},bk X ⟨μ.w,μ.φ,O⟩→ag X ⟨μ.w,μ.φ,O⟩ cs vals→(nJ.go cs k).run C ⟨T,O⟩=some p→
   ∃cU O',(k cU).run C ⟨T,O'⟩=some p∧ag X ⟨μ.w,μ.φ,O'⟩ cU vals∧Le ⟨μ.w,μ.φ,O⟩ ⟨μ.w,μ.φ,O'⟩∧bk X ⟨μ.w,μ.φ,O'⟩
 | [],k,[],O,p,ho,_,ah=> ⟨[],O,ah,by simp[ag],Le.refl _,ho⟩
 | [],_,_::_,_,_,_,h,_=>by simp[ag] at h
 | _::_,_,[],_,_,_,h,_=>by simp[ag] at h
 | c::cs,k,v::vals,O,p,ho,h,ah=>by
   simp only[ag] at h
   obtain⟨c',O1,h1,h2,h3,h4⟩:=j5 ho h.1 ah
   obtain⟨cU,O2,k1,k2,k3,k4⟩:=sZ h4 (ag.mono h3 h.2) h1
   refine⟨c'::cU,O2,k1,?_,h3.trans k3,k4⟩
   simp only[ag];exact⟨aj.mono k3 h2,k2⟩
theorem BL {cs:List V} {k:List V→Act} {vals:List Value} {O:Nat→Obj} {p:V×St} (ho:bk X ⟨μ.w,μ.φ,O⟩) (hv:ag X ⟨μ.w,μ.φ,O⟩ cs vals) (ah: (nJ cs k).run C ⟨T,O⟩=some p):
  ∃cU O',(k cU).run C ⟨T,O'⟩=some p∧ag X ⟨μ.w,μ.φ,O'⟩ cU vals∧Le ⟨μ.w,μ.φ,O⟩ ⟨μ.w,μ.φ,O'⟩∧bk X ⟨μ.w,μ.φ,O'⟩:=by
 unfold nJ at ah
 split at ah
 ·exact⟨cs,O,ah,hv,Le.refl _,ho⟩
 ·exact sZ ho hv ah
theorem FQ {b:Bool} {c:V} {k:V→Act} {val:Value} {O:Nat→Obj} {p:V×St} (ho:bk X ⟨μ.w,μ.φ,O⟩) (hv:aj X ⟨μ.w,μ.φ,O⟩ c val) (ah: (tC b c k).run C ⟨T,O⟩=some p):
  ∃c' O',(k c').run C ⟨T,O'⟩=some p∧aj X ⟨μ.w,μ.φ,O'⟩ c' val∧Le ⟨μ.w,μ.φ,O⟩ ⟨μ.w,μ.φ,O'⟩∧bk X ⟨μ.w,μ.φ,O'⟩:=by
 unfold tC at ah
 split at ah
 ·rename_i r g off
  simp only[Act.run] at ah
  split at ah
  ·rename_i e bq
   split at ah
   ·rename_i hc
    obtain⟨rQ,u5,Z3⟩:=hc
    simp only[Act.run] at ah
    obtain⟨le,wF⟩:=pz (μ:=⟨μ.w,μ.φ,O⟩) ho r
    refine⟨_,_,ah,?_,le,wF⟩
    have zB:=aj.mono le hv
    simp only[aj,aA] at zB
    obtain⟨a0,rfl,_,bV⟩:=zB
    obtain⟨k0,rfl⟩:=bV rQ
    obtain⟨q1,q2,q3,q4⟩:=wF.row r [e] (by simp[aA,bq]) (by simpa [aA] using k0)
    simp only[aA] at q1 q2 q3 q4
    simp only[ai5,ajc] at q2
    have hb:aV e (O r).sz=true:=by simpa using q3
    have cS: (μ.φ r).cap≠0:=abV
    rcases q4 with q4| ⟨cc,TT,vs,p1,p2,p3,p4⟩
    ·omega
    match vs,p3,p4 with
    | [x],p3,p4=>
      simp only[ag,and_true] at p3
      simp only[aj]
      refine⟨Z3,(cr hb).1,_,_,_,x,?_,?_,(aiV.1 p1).1,p3,p4⟩
      ·simp
      rintro(⟨r',h1,h2,h3,h4⟩ | K6)
      · by_cases e:r'=r
        ·subst e;simp[aA] at h2
        ·exact wF.inj r' r e h1 (by simp[aA,bq]) h3 cS h4
      ·exact wF.uz r (by simp[aA,bq]) cS K6
    | [],p3,_=>simp[ag] at p3
    | _::_::_,p3,_=>simp[ag] at p3
   ·exact absurd ah au
  ·exact absurd ah au
 ·exact⟨c,O,ah,hv,Le.refl _,ho⟩
theorem s6 {a:Go.Act} (ht: ∀t,aj X μ (T t) (a.tmps.getD t undef)): ∀ {xs:List Operand} {ys:List aU} {bs:List Bool} {k:List V→Act} {O:Nat→Obj} {p:V×St},oD X xs=some ys→bs.length=ys.length→
   bk X ⟨μ.w,μ.φ,O⟩→Le μ ⟨μ.w,μ.φ,O⟩→(lq (bs.zip ys) k).run C ⟨T,O⟩=some p→
   ∃cs O',(k cs).run C ⟨T,O'⟩=some p∧ag X ⟨μ.w,μ.φ,O'⟩ cs (xs.map a.eval)∧Le ⟨μ.w,μ.φ,O⟩ ⟨μ.w,μ.φ,O'⟩∧bk X ⟨μ.w,μ.φ,O'⟩
 | [],ys,bs,k,O,p,h,hl,ho,le,ah=>by
   simp[oD] at h;subst h
   simp only[List.zip_nil_right,lq] at ah
   exact⟨[],O,ah,by simp[ag],Le.refl _,ho⟩
 | x::xs,ys,bs,k,O,p,h,hl,ho,le,ah=>by
   simp only[oD] at h
   split at h
   ·rename_i y ys' h1 h2
    injection h with h;subst h
    match bs,hl with
    | b::bs,hl=>
      simp only[List.zip_cons_cons,lq,bA] at ah
      have hx:=aS (μ:=⟨μ.w,μ.φ,O⟩) ⟨fun t=>aj.mono le (ht t),ho⟩ h1 O
      obtain⟨c',O1,k1,k2,k3,k4⟩:=FQ ho hx ah
      obtain⟨cs,O2,g1,g2,g3,g4⟩:=s6 ht h2 (by simpa using hl) k4 (le.trans k3) k1
      refine⟨c'::cs,O2,g1,?_,k3.trans g3,g4⟩
      simp only[List.map_cons,ag]
      exact⟨aj.mono g3 k2,g2⟩
   ·simp at h
theorem FR {f:FuncId} {first caps:Array Operand} {n:Nat} {cs:List aU} {b:Operand→Bool} (hr:Rel X T a μ) (ho:o.op= .makeFunc (.func f) first caps) (JY:first.isEmpty=true)
  (hn:X.fH f=some n) (ht:oD X caps.toList=some cs) (ah: (aM E (.uR n ((caps.toList.map b).zip cs))).run C ⟨T,μ.O⟩=some (v,σ')):σ'.T=T∧c6 X o a μ σ'.O v:=by
 simp only[aM] at ah
 have hl: (caps.toList.map b).length=cs.length:=by
  have:=(oE hr μ.O ht).length
  simpa using this.symm
 obtain⟨vs,O',h1,h2,h3,h4⟩:=s6 hr.tmps ht hl hr.bg (Le.refl _) ah
 obtain⟨rfl,rfl⟩:=aZ h1
 obtain rfl:first= #[]:=by simpa using JY
 refine⟨rfl,.func (.func f) #[] (caps.map a.eval),μ.w,μ.φ,.inl ?_,?_,h3,h4⟩
 ·simp[execOp,ho,Instr.makeFunc,Sem.run_bind]
 ·simp only[aj]
  exact⟨f,_,rfl,hn,by simpa using h2⟩
end
end Go.AM
namespace Go.AM
open Go Go.RowKit
theorem s7 {α:Type} (L:List α) (p:Nat) (x:α) (h:p<L.length):L.set p x=cT L p [x]:=by
 apply ajS
 intro q
 rw[fJ (by simp;omega),ajQ]
 by_cases hq:q<p
 ·simp[hq];omega
 ·by_cases UB:p=q
  ·subst UB;simp[h]
  ·have: ¬q<p+1:=abV
   simp[hq,UB,this]
theorem ct {α:Type} (xs:Array α):xs.toList.length=xs.size:=ai8
section
variable {X:Ctx} {E:Env} {C:bo} {o:Oper} {a:Go.Act} {T:Nat→V} {μ:Mu} {v:V} {σ':St}
theorem ID {agg:Bool} {off sz:Nat} {e u e':V} {x val:Value} (he:aj X μ e x) (hl:e.dh=true) (hu:aj X μ u val) (h:ln agg off sz e u=some e'):
  ∃x',aj X μ e' x'∧e'.dh=true∧e'.cells.length=e.cells.length∧val.cells.size=sz∧off+sz≤x.cells.size∧x'.cells.toList=cT x.cells.toList off val.cells.toList∧
   ∀c ∈ val.cells.toList,c.oneCell'=true:=by
 unfold ln at h
 split at h
 ·split at h
  ·rename_i cs vs
   split at h<;>simp at h
   rename_i hc
   subst h
   simp only[aj] at he hu
   obtain⟨h0,xs,rfl,hx⟩:=he
   obtain⟨k0,ys,rfl,hy⟩:=hu
   have l1:=hx.length
   have l2:=hy.length
   rw[ct xs] at l1
   rw[ct ys] at l2
   refine⟨.agg (cT xs.toList off ys.toList).toArray,?_,rfl,?_,?_,?_,?_,?_⟩
   ·simp only[aj]
    refine⟨?_,_,rfl,?_⟩
    ·have t1:=lU (p:=V.aT) off h0
     have t2:=oF (p:=V.aT) (off+sz) h0
     simp only[aj6,t1,k0,t2,ajD]
    ·have:=((ag.take off hx).append hy).append (ag.drop (off+sz) hx)
     simpa [cT,←l2,hc.1] using this
   ·simp[V.cells];omega
   ·simp only[Value.cells];omega
   ·simp only[Value.cells];omega
   ·simp[Value.cells]
   ·intro c ZJ
    simp only[Value.cells] at ZJ
    obtain⟨j,hj⟩:=ajL ZJ
    have bl:j<vs.length:=by rw[hy.length];exact(aiS.1 hj).1
    obtain⟨c',g1,g2⟩:=hy.get (aiW bl)
    rw[hj] at g1;injection g1 with g1;subst g1
    simp only[aiY] at k0
    exact(g2.pw (k0 _ (ajI bl))).1
  ·simp at h
 ·split at h
  ·rename_i fP
   obtain⟨FT,oN⟩:=hu.pw fP.1
   have pN: ∀c ∈ val.cells.toList,c.oneCell'=true:=by rw[oN];simpa using FT
   split at h
   ·rename_i cs
    split at h<;>simp at h
    rename_i K2
    subst h
    simp only[aj] at he
    obtain⟨h0,xs,rfl,hx⟩:=he
    have l1:=hx.length
    rw[ct xs] at l1
    refine⟨.agg (xs.toList.set off val).toArray,?_,rfl,?_,?_,?_,?_,pN⟩
    ·simp only[aj]
     refine⟨?_,_,rfl,by simpa using ag.set hx off hu⟩
     simp only[aiY] at h0 ⊢
     intro c ZJ
     rcases aje ZJ with hm| rfl
     ·exact h0 c hm
     ·exact fP.1
    ·simp[V.cells]
    ·rw[oN,fP.2];rfl
    ·simp only[Value.cells];omega
    ·rw[oN]
     simp only[Value.cells]
     rw[s7 _ _ _ (by rw[ai8];omega)]
   ·split at h<;>simp at h
    rename_i cL iw
    subst h
    obtain⟨_,hcx⟩:=he.pw iw.1
    refine⟨val,hu,by simp[V.dh,fP.1],?_,?_,?_,?_,pN⟩
    ·rw[V.iK fP.1,V.iK iw.1];rfl
    ·rw[oN,fP.2];rfl
    ·rw[hcx,fP.2,iw.2];simp
    ·rw[oN,hcx,iw.2];simp[cT]
  ·simp at h
theorem FU {t:TypeId} {w:World} {g q sz:Nat} {cur:Array Value} {T0:TypeId} {val:Value} (hn:bQ X t=some sz) (hg:w.heap[g]? =some (.cells cur T0 (0,0)))
  (hs:val.cells.size=sz) (hl:q+sz≤cur.size) (h1: ∀c ∈ val.cells.toList,c.oneCell'=true):
  (storeVar t ⟨g,q,none⟩ val).run X.P w= .ok () (w.setRow g (cT cur.toList q val.cells.toList).toArray):=by
 have:=km (P:=X.P) hg val.cells.toList (by rw[ai8,hs];exact hl) h1
 simp[storeVar,Sem.run_bind,fj hn,hs,this]
theorem yD {t:TypeId} {agg:Bool} {sz r g idx off:Nat} {u:V} {val:Value} {O:Nat→Obj} (ho:bk X ⟨μ.w,μ.φ,O⟩) (hu:aj X ⟨μ.w,μ.φ,O⟩ u val) (hn:bQ X t=some sz) (h0:0 < (O r).sz)
  (ah: (aM.mi agg sz r g idx off u).run C ⟨T,O⟩=some (v,σ')):
  σ'.T=T∧v= .tuple []∧ ∃w' φ',(storeVar t ⟨(μ.φ r).bY,(μ.φ r).base+idx*(O r).sz+off,none⟩ val).run X.P μ.w= .ok () w'∧Le ⟨μ.w,μ.φ,O⟩ ⟨w',φ',σ'.O⟩∧bk X ⟨w',φ',σ'.O⟩:=by
 simp only[aM.mi,Act.run] at ah
 split at ah
 ·rename_i es bq
  split at ah
  ·rename_i hc
   split at ah
   ·rename_i e he
    split at ah
    ·rename_i e' hp
     simp only[Act.run,aiT,aiX] at ah
     obtain⟨rfl,rfl⟩:=ah
     obtain⟨k1,k2,k3,k4⟩:=ho.row r es bq h0
     simp only at k1 k2 k3 k4
     have bl:idx<es.length:=(aiS.1 he).1
     have iw: (μ.φ r).cap≠0:=abV
     rcases k4 with k4| ⟨c,T0,vs,hb,mG,nn,dA⟩
     ·exact absurd k4 iw
     ·obtain⟨x,hx,bp⟩:=nn.get he
      have lf:aV e (O r).sz=true:=by
       simp only[aiY] at k3
       exact k3 e (List.mem_of_getElem? he)
      obtain⟨ll,iB⟩:=cr lf
      obtain⟨x',p1,p2,p3,p4,p5,p6,p7⟩:=ID bp ll hu hp
      have LN:x.cells.size=(O r).sz:=by rw[bp.fI ll,iB]
      have vD:dT c.toList (μ.φ r).base (O r).sz vs:=kl hb dA
      have hmul: (idx+1)*(O r).sz≤(μ.φ r).cap*(O r).sz:=ajA _ abV
      have Z4: (μ.φ r).base+(idx+1)*(O r).sz≤c.toList.length:=by rw[ai8];omega
      have fE:=vD.put (x':=x') hx Z4 (m:=val.cells.toList) (by rw[ai8,p4];omega) p6
      have eW:=FU (X:=X) (t:=t) (q:=(μ.φ r).base+idx*(O r).sz+off) (val:=val) hn hb p4 (by rw[ajo] at hmul;omega) p7
      have hw:=lT (μ:=⟨μ.w,μ.φ,O⟩) ho r bq hc.2 hb iw (c':=(cT c.toList ((μ.φ r).base+idx*(O r).sz+off) val.cells.toList).toArray)
       (by
         have: (cT c.toList ((μ.φ r).base+idx*(O r).sz+off) val.cells.toList).length=c.toList.length:=fW (by
          rw[ai8,ai8,p4];rw[ajo] at hmul;omega)
         simpa using this)
       (O r).gen (μ.φ r).base (μ.φ r).cap (es':=es.set idx e') (vs':=vs.set idx x') (.inl ⟨rfl,rfl,rfl⟩) iw (by simpa using k2)
       (by
         simp only[aiY] at k3 ⊢
         intro y hy
         rcases aje hy with hm| rfl
         ·exact k3 y hm
         ·simp[aV,p2,p3,iB])
       (ag.set nn idx p1) mG (fun i y hy=>by
         obtain⟨q1,q2⟩:=fE i y hy
         exact⟨q1,fun j z hz=>by simpa using q2 j z hz⟩)
      refine⟨rfl,rfl,_,_,eW,hw.1,hw.2⟩
    ·exact absurd ah au
   ·exact absurd ah au
  ·exact absurd ah au
 ·exact absurd ah au
theorem Tp {t:TypeId} {x y:Operand} {x' y':aU} {agg:Bool} {sz:Nat} (hr:Rel X T a μ) (ho:o.op= .store t x y) (h1:dm X x=some x') (h2:dm X y=some y')
  (hn:bQ X t=some sz) (ah: (aM E (.store agg sz x' y')).run C ⟨T,μ.O⟩=some (v,σ')):σ'.T=T∧c6 X o a μ σ'.O v:=by
 simp only[aM,bA] at ah
 have hx:=aS hr h1 μ.O
 have hy:=aS hr h2 μ.O
 split at ah
 ·rename_i r g idx off e
  rw[e] at hx
  simp only[aj] at hx
  obtain⟨p,hp,oO,bV⟩:=hx
  have fin: ∀w',(storeVar t p (a.eval y)).run X.P μ.w= .ok () w'→(execOp a.eval o).run X.P μ.w= .ok .skip w':=fun w' hw=>by
   simp only[execOp,ho]
   refine BJ ?_
   simp[Instr.storeAt,Instr.sureAddr,Sem.run_bind,hp,hw]
  have main: ∀ {O:Nat→Obj} {u:V},Le μ ⟨μ.w,μ.φ,O⟩→bk X ⟨μ.w,μ.φ,O⟩→aj X ⟨μ.w,μ.φ,O⟩ u (a.eval y)→(aM.mi agg sz r g idx off u).run C ⟨T,O⟩=some (v,σ')→
    σ'.T=T∧c6 X o a μ σ'.O v:=by
   intro O u le fi hu fE
   have hgO: (O r).gen=g:=by
    simp only[aM.mi,Act.run] at fE
    split at fE
    ·split at fE
     ·rename_i hc;exact hc.1
     ·exact absurd fE au
    ·exact absurd fE au
   have Z5:=le.gen r
   simp only at Z5
   have Cz: (μ.O r).gen=g:=abV
   obtain⟨_,FV⟩:=le.row r (by simp only;omega)
   obtain⟨q1,q2,w',φ',q3,q4,q5⟩:=yD (t:=t) fi hu hn (by simp only at FV;rw[FV];exact(bV Cz).1) fE
   refine⟨q1,undef,w',φ',.inr ⟨fin w' ?_,rfl⟩,?_,le.trans q4,q5⟩
   ·rw[(bV Cz).2]
    simp only at FV
    rw[←FV];exact q3
   ·rw[q2];simp only[aj];exact⟨#[],rfl,by simp[ag]⟩
  simp only[Act.run] at ah
  split at ah
  ·rw[bA] at ah
   obtain⟨u,O1,k1,k2,k3,k4⟩:=j5 (μ:=μ) hr.bg hy ah
   exact main k3 k4 k2 k1
  ·rw[bA] at ah
   exact main (Le.refl μ) hr.bg hy ah
 ·exact absurd ah au
theorem O7 {t:TypeId} {x y:Operand} {x' y':aU} {agg:Bool} {sz:Nat} (hr:Rel X T a μ) (ho:o.op= .store t x y) (h1:dm X x=some x') (h2:dm X y=some y')
  (hn:bQ X t=some sz) (ah: (aM E (.Ac agg sz x' y')).run C ⟨T,μ.O⟩=some (v,σ')):σ'.T=T∧c6 X o a μ σ'.O v:=by
 simp only[aM,bA] at ah
 have hx:=aS hr h1 μ.O
 have hy:=aS hr h2 μ.O
 split at ah
 ·rename_i r g idx off e
  rw[e] at hx
  simp only[aj] at hx
  obtain⟨p,hp,oO,bV⟩:=hx
  have fin: ∀w',(storeVar t p (a.eval y)).run X.P μ.w= .ok () w'→(execOp a.eval o).run X.P μ.w= .ok .skip w':=fun w' hw=>by
   simp only[execOp,ho]
   refine BJ ?_
   simp[Instr.storeAt,Instr.sureAddr,Sem.run_bind,hp,hw]
  have main: ∀ {O:Nat→Obj} {u:V},Le μ ⟨μ.w,μ.φ,O⟩→bk X ⟨μ.w,μ.φ,O⟩→aj X ⟨μ.w,μ.φ,O⟩ u (a.eval y)→(aM.mi agg sz r g idx off u).run C ⟨T,O⟩=some (v,σ')→
    σ'.T=T∧c6 X o a μ σ'.O v:=by
   intro O u le fi hu fE
   have hgO: (O r).gen=g:=by
    simp only[aM.mi,Act.run] at fE
    split at fE
    ·split at fE
     ·rename_i hc;exact hc.1
     ·exact absurd fE au
    ·exact absurd fE au
   have Z5:=le.gen r
   simp only at Z5
   have Cz: (μ.O r).gen=g:=abV
   obtain⟨_,FV⟩:=le.row r (by simp only;omega)
   obtain⟨q1,q2,w',φ',q3,q4,q5⟩:=yD (t:=t) fi hu hn (by simp only at FV;rw[FV];exact(bV Cz).1) fE
   refine⟨q1,undef,w',φ',.inr ⟨fin w' ?_,rfl⟩,?_,le.trans q4,q5⟩
   ·rw[(bV Cz).2]
    simp only at FV
    rw[←FV];exact q3
   ·rw[q2];simp only[aj];exact⟨#[],rfl,by simp[ag]⟩
  rw[bA] at ah
  exact main (Le.refl μ) hr.bg hy ah
 ·exact absurd ah au
theorem Ef {off:Nat}: ∀ (m:List Value) (k:Nat) (cs:Array Value),off+k+m.length≤cs.size→
   ((m.zipIdx k).foldl (fun cs (p:Value×Nat)=>cs.setIfInBounds (off+p.2) p.1) cs).toList=cT cs.toList (off+k) m
 | [],k,cs,_=>by simp[cT]
 | x::m,k,cs,h=>by
   simp only[List.zipIdx_cons,akd]
   simp at h
   rw[Ef m (k+1) _ (by simp;omega)]
   rw[akI]
   apply ajS
   intro q
   rw[fJ (by simp;omega),fJ (by simp;omega),ajQ]
   by_cases h1:q<off+k
   ·have:q<off+(k+1):=abV
    have h2: ¬off+k=q:=abV
    simp[h1,this,h2]
   ·by_cases h2:q=off+k
    ·subst h2
     have h3:off+k<off+(k+1):=abV
     have h4:off+k<cs.size:=abV
     simp[h3,h4]
    ·by_cases h3:q<off+k+(m.length+1)
     ·have h4: ¬q<off+(k+1):=abV
      have h5:q<off+(k+1)+m.length:=abV
      have h6:q - (off+k)=(q - (off+(k+1)))+1:=abV
      simp[h1,h4,h3,h5,h6]
     ·have h4: ¬q<off+(k+1):=abV
      have h5: ¬q<off+(k+1)+m.length:=abV
      have h6: ¬off+k=q:=abV
      simp[h1,h4,h3,h5,h6]
theorem Eg {off:Nat} {x:Value} {cs:Array Value} (h:off+x.cells.size≤cs.size):
  (x.cells.zipIdx.foldl (fun cs (p:Value×Nat)=>cs.setIfInBounds (off+p.2) p.1) cs).toList=cT cs.toList off x.cells.toList:=by
 rw[←Array.foldl_toList,Array.toList_zipIdx]
 have:=Ef (off:=off) x.cells.toList 0 cs (by rw[ai8];omega)
 simpa using this
theorem IE {place:Nat→Option (Nat×Nat)}: ∀ {ps:List (Nat×Nat×V)} {qs:List (Nat×Value)} {cs cU:List V} {xs:Array Value},
   (ps.length=qs.length)→(∀ (i:Nat) p q,ps[i]? =some p→qs[i]? =some q→place q.1=some (p.1,p.2.1)∧aj X μ p.2.2 q.2)→ag X μ cs xs.toList→cs.all V.aT=true→
   jP cs ps=some cU→ ∃UE,Instr.fill place xs qs=some UE∧ag X μ cU UE.toList∧cU.all V.aT=true
 | [],[],cs,cU,xs,_,_,hv,hc,h=>by
   simp[jP] at h;subst h
   exact⟨xs,rfl,hv,hc⟩
 | [],_::_,_,_,_,h,_,_,_,_=>by simp at h
 | _::_,[],_,_,_,h,_,_,_,_=>by simp at h
 | (off,sz,u)::ps,(i,q)::qs,cs,cU,xs,hl,hp,hv,hc,h=>by
   simp only[jP] at h
   split at h
   · rename_i vU
     obtain⟨h1,h2,h3⟩:=vU
     obtain⟨Tq,bp⟩:=hp 0 _ _ rfl rfl
     simp only at Tq bp
     have hqs:q.cells.size=sz:=by rw[bp.fI h3,h1]
     have hlen:=hv.length
     rw[ct xs] at hlen
     have jg:off+q.cells.size≤xs.size:=abV
     have jt:=Eg (x:=q) (cs:=xs) jg
     have Mz:ag X μ (cs.take off++u.cells++cs.drop (off+sz)) (q.cells.zipIdx.foldl (fun cs (p:Value×Nat)=>cs.setIfInBounds (off+p.2) p.1) xs).toList:=by
      rw[jt]
      have:=((ag.take off hv).append (bp.cells h3)).append (ag.drop (off+sz) hv)
      simpa [cT,hqs] using this
     have u5: (cs.take off++u.cells++cs.drop (off+sz)).all V.aT=true:=by
      have t1:=lU (p:=V.aT) off hc
      have t2:=oF (p:=V.aT) (off+sz) hc
      simp only[aj6,t1,bp.lJ h3,t2,ajD]
     obtain⟨UE,g1,g2,g3⟩:=IE (place:=place) (ps:=ps) (qs:=qs) (by simpa using hl) (fun j p q' hj Tr=>hp (j+1) p q' (by simpa using hj) (by simpa using Tr)) Mz u5 h
     refine⟨UE,?_,g2,g3⟩
     have K7: ¬ (q.cells.size≠sz∨xs.size<off+q.cells.size):=abV
     simp only[Instr.fill,Tq]
     rw[if_neg (by simpa using K7)]
     exact g1
   ·simp at h
end
end Go.AM
namespace Go.AM
open Go Go.RowKit
theorem s8 {α β:Type} {P:Program} {w:World} {f:α→Sem β} {g:α→β}: ∀ (l:List α),(∀x ∈ l,(f x).run P w= .ok (g x) w)→(l.mapM f).run P w= .ok (l.map g) w
 | [],_=>abW
 | x::l,h=>by
   have h1:=h x abW
   have h2:=s8 (f:=f) (g:=g) l fun y hy=>h y (by simp[hy])
   simp[List.mapM_cons,Sem.run_bind,h1,h2]
theorem BM {α β:Type} {P:Program} {w:World} {f:α→Sem β} {g:α→β} (l:Array α) (h: ∀x ∈ l.toList,(f x).run P w= .ok (g x) w): (l.mapM f).run P w= .ok (l.map g) w:=by
 have:=s8 l.toList h
 rw[Array.mapM_eq_mapM_toList]
 simp only[map_eq_pure_bind,Sem.run_bind,this,Result.andThen_ok,Sem.run_pure]
 congr 1
 apply Array.ext';simp
section
variable {X:Ctx} {E:Env} {C:bo} {o:Oper} {a:Go.Act} {T:Nat→V} {μ:Mu} {v:V} {σ':St}
theorem yE: ∀ (ps:List (Nat×Nat×aU)) (k:List (Nat×Nat×V)→Act) (σ:St),(mV ps k).run C σ=(k (ps.map fun p=> (p.1,p.2.1,bu σ p.2.2))).run C σ
 | [],_,_=>rfl
 | (_,_,x)::ps,k,σ=>by simp only[mV,bA,yE ps,List.map_cons]
theorem yF (hr:Rel X T a μ) (O:Nat→Obj) {place:Nat→Option (Nat×Nat)}: ∀ {ps:List (Nat×Operand)} {asq:List (Nat×Nat×aU)},lK X place ps=some asq→
   asq.length=ps.length∧ ∀ (i:Nat) p q,asq[i]? =some p→ps[i]? =some q→place q.1=some (p.1,p.2.1)∧aj X μ (bu ⟨T,O⟩ p.2.2) (a.eval q.2)
 | [],asq,h=>by simp[lK] at h;subst h;simp
 | (i,x)::ps,asq,h=>by
   simp only[lK] at h
   split at h
   · rename_i off sz y aiP h1 h2 h3
     injection h with h;subst h
     obtain⟨k1,k2⟩:=yF hr O h3
     refine⟨by simp[k1],fun j p q hp hq=> ?_⟩
     cases j with
     | zero=>simp at hp hq;subst hp;subst hq;exact⟨h1,aS hr h2 O⟩
     | succ j=>exact k2 j p q (by simpa using hp) (by simpa using hq)
   ·simp at h
theorem BN (ks:List Nat) (hr:Rel X T a μ) {t:TypeId} {z:List V} (hz:ft X t=some (.agg z)) {place:Nat→Option (Nat×Nat)} {parts:Array (Nat×Operand)} {asq:List (Nat×Nat×aU)}
  (hp:lK X place parts.toList=some asq) (ah: (aM E (.build (EN ks z) asq)).run C ⟨T,μ.O⟩=some (v,σ')):
  σ'=⟨T,μ.O⟩∧ ∃zv cells,(zeroValue t).run X.P μ.w= .ok zv μ.w∧Instr.fill place zv.cells (parts.map fun (i,x)=> (i,a.eval x)).toList=some cells∧aj X μ v (.agg cells):=by
 simp only[aM,yE] at ah
 obtain⟨zv,zd,Co⟩:=iH hz μ.w
 obtain⟨BO,_⟩:=eT (X:=X) (μ:=μ) Co
 simp only[aj] at BO
 obtain⟨h0,xs,rfl,LN⟩:=BO
 obtain⟨l1,l2⟩:=yF hr μ.O hp
 split at ah
 ·rename_i cs oN
  obtain⟨rfl,rfl⟩:=aZ ah
  have key:=IE (X:=X) (μ:=μ) (place:=place) (ps:=asq.map fun p=> (p.1,p.2.1,bu ⟨T,μ.O⟩ p.2.2)) (qs:=(parts.map fun (i,x)=> (i,a.eval x)).toList) (xs:=xs)
   (by simp[l1]) (fun j p q hp hq=>by
     simp only[List.getElem?_map,aiU] at hp
     obtain⟨p',FB,rfl⟩:=hp
     rw[akR,List.getElem?_map,aiU] at hq
     obtain⟨q',VZ,rfl⟩:=hq
     exact l2 j p' q' FB VZ) (LN.EN ks) (uh ks h0) oN
  obtain⟨UE,g1,g2,g3⟩:=key
  exact⟨rfl,_,UE,zd,g1,by simp only[aj];exact⟨g3,UE,rfl,g2⟩⟩
 ·exact absurd ah au
theorem O8 (ks:List Nat) {t:TypeId} {parts:Array (Nat×Operand)} {z:List V} {fs:Array Field} {asq:List (Nat×Nat×aU)} (hr:Rel X T a μ) (ho:o.op= .build t parts) (hz:ft X t=some (.agg z))
  (hd:bL X t=some (.struct fs)) (iO:fs.toList.all (fun f=> (bQ X f.type).isSome)=true)
  (hp:lK X (fun i=>match fs[i]? with| some f=> (bQ X f.type).map fun s=> (f.offset,s) | none=>none) parts.toList=some asq)
  (ah: (aM E (.build (EN ks z) asq)).run C ⟨T,μ.O⟩=some (v,σ')):σ'.T=T∧c6 X o a μ σ'.O v:=by
 obtain⟨rfl,zv,cells,h1,h2,h3⟩:=BN ks hr hz hp ah
 refine⟨rfl,aP hr.bg ?_ h3⟩
 simp only[execOp,ho]
 refine dy ?_
 have pj:X.P.underlying t=some (.struct fs):=hd
 have hm:=BM (P:=X.P) (w:=μ.w) (f:=fun f:Field=>do pure (f.offset,←sizeOf f.type)) (g:=fun f:Field=> (f.offset,(bQ X f.type).getD 0)) fs (fun f hf=>by
  simp only[aiY] at iO
  obtain⟨s,hs⟩:=ai1.1 (iO f hf)
  simp[Sem.run_bind,fj hs,hs])
 have xf: (fun (i:Nat)=> (fs.map fun (f:Field)=> (f.offset,(bQ X f.type).getD 0))[i]?)=fun (i:Nat)=>match fs[i]? with| some f=> (bQ X f.type).map fun s=> (f.offset,s) | none=>none:=by
  funext i
  rw[Array.getElem?_map]
  cases hf:fs[i]? with
  | none=>rfl
  | some f=>
    simp only[aiY] at iO
    obtain⟨s,hs⟩:=ai1.1 (iO f (by simpa using Array.mem_of_getElem? hf))
    simp[hs]
 simp only[Instr.build,Sem.run_bind,h1,Result.andThen_ok,run_underlying pj,hm,xf,h2,Sem.run_pure]
theorem O9 (ks:List Nat) {t e:TypeId} {n s:Nat} {parts:Array (Nat×Operand)} {z:List V} {asq:List (Nat×Nat×aU)} (hr:Rel X T a μ) (ho:o.op= .build t parts) (hz:ft X t=some (.agg z))
  (hd:bL X t=some (.array n e)) (hs:bQ X e=some s) (hp:lK X (fun i=>some (i*s,s)) parts.toList=some asq)
  (ah: (aM E (.build (EN ks z) asq)).run C ⟨T,μ.O⟩=some (v,σ')):σ'.T=T∧c6 X o a μ σ'.O v:=by
 obtain⟨rfl,zv,cells,h1,h2,h3⟩:=BN ks hr hz hp ah
 refine⟨rfl,aP hr.bg ?_ h3⟩
 simp only[execOp,ho]
 refine dy ?_
 have pj:X.P.underlying t=some (.array n e):=hd
 simp only[Instr.build,Sem.run_bind,h1,Result.andThen_ok,run_underlying pj,fj hs,h2,Sem.run_pure]
theorem s9 (hr:Rel X T a μ): ∀ {ps:List (Nat×Operand)} {asq:List (Nat×aU)} {k:List (Nat×V)→Act} {O:Nat→Obj} {p:V×St},sg X ps=some asq→Le μ ⟨μ.w,μ.φ,O⟩→bk X ⟨μ.w,μ.φ,O⟩→
   (ke asq k).run C ⟨T,O⟩=some p→
   ∃vs O',(k vs).run C ⟨T,O'⟩=some p∧vs.length=ps.length∧Le ⟨μ.w,μ.φ,O⟩ ⟨μ.w,μ.φ,O'⟩∧bk X ⟨μ.w,μ.φ,O'⟩∧
     ∀ (i:Nat) q q',vs[i]? =some q→ps[i]? =some q'→q.1=q'.1∧aj X ⟨μ.w,μ.φ,O'⟩ q.2 (a.eval q'.2)
 | [],asq,k,O,p,h,le,ho,ah=>by
   simp[sg] at h;subst h
   exact⟨[],O,ah,rfl,Le.refl _,ho,abW⟩
 | (i,x)::ps,asq,k,O,p,h,le,ho,ah=>by
   simp only[sg] at h
   split at h
   · rename_i y aiP h1 h2
     injection h with h;subst h
     simp only[ke,bA] at ah
     have hx:aj X ⟨μ.w,μ.φ,O⟩ (bu ⟨T,O⟩ y) (a.eval x):=by
      have:=aj.mono le (aS hr h1 O)
      exact this
     obtain⟨u,O1,k1,k2,k3,k4⟩:=j5 (μ:=μ) ho hx ah
     obtain⟨vs,O2,g1,g2,g3,g4,g5⟩:=s9 hr h2 (le.trans k3) k4 k1
     refine⟨(i,u)::vs,O2,g1,by simp[g2],k3.trans g3,g4,fun j q q' hq VZ=> ?_⟩
     cases j with
     | zero=>simp at hq VZ;subst hq;subst VZ;exact⟨rfl,aj.mono g3 k2⟩
     | succ j=>exact g5 j q q' (by simpa using hq) (by simpa using VZ)
   ·simp at h
theorem xE {α:Type} (L:List α) (i:Nat) (x:α) (h:i<L.length):L.set i x=L.take i++[x]++L.drop (i+1):=by
 rw[s7 L i x h];rfl
theorem td {sz:Nat}: ∀ {vs:List (Nat×V)} {qs:List (Nat×Value)} {es es':List V} {us:List Value} {c:Array Value},vs.length=qs.length→
   (∀ (i:Nat) p q,vs[i]? =some p→qs[i]? =some q→p.1=q.1∧aj X μ p.2 q.2)→ag X μ es us→dT c.toList 0 sz us→c.size=us.length*sz→es.all (aV · sz)=true→
   ee sz es vs=some es'→ ∃c' UJ,Instr.fill (fun i=>some (i*sz,sz)) c qs=some c'∧ag X μ es' UJ∧dT c'.toList 0 sz UJ∧c'.size=UJ.length*sz∧
     es'.all (aV · sz)=true∧es'.length=es.length
 | [],[],es,es',us,c,_,_,hv,hs,hc,hb,h=>by
   simp[ee] at h;subst h
   exact⟨c,us,rfl,hv,hs,hc,hb,rfl⟩
 | [],_::_,_,_,_,_,h,_,_,_,_,_,_=>by simp at h
 | _::_,[],_,_,_,_,h,_,_,_,_,_,_=>by simp at h
 | (i,u)::vs,(i',q)::qs,es,es',us,c,hl,hp,hv,hs,hc,hb,h=>by
   simp only[ee] at h
   split at h
   · rename_i vU
     obtain⟨hi,lf⟩:=vU
     obtain⟨e1,bp⟩:=hp 0 _ _ rfl rfl
     simp only at e1 bp
     subst e1
     obtain⟨ll,iB⟩:=cr lf
     have hqs:q.cells.size=sz:=by rw[bp.fI ll,iB]
     have hiu:i<us.length:=by rw[←hv.length];exact hi
     have hmul: (i+1)*sz≤us.length*sz:=ajA _ abV
     rw[ajo] at hmul
     have jg:i*sz+q.cells.size≤c.size:=abV
     have jt:=Eg (x:=q) (cs:=c) jg
     have adJ:flat [q]=q.cells.toList:=by simp[flat]
     have hw:=hs.write (k:=i) (us:=[q]) abV (by simpa using hqs) (by rw[ct];simp;omega)
     rw[adJ,ajF] at hw
     have pS:us.take i++[q]++us.drop (i+[q].length)=us.set i q:=(xE us i q hiu).symm
     rw[pS,←jt] at hw
     have bI: (q.cells.zipIdx.foldl (fun cs (p:Value×Nat)=>cs.setIfInBounds (i*sz+p.2) p.1) c).size=(us.set i q).length*sz:=by
      rw[←ct,jt,fW (by rw[ct,ct];exact jg),ct];simpa using hc
     have ahN: (es.set i u).all (aV · sz)=true:=by
      simp only[aiY] at hb ⊢
      intro y hy
      rcases aje hy with hm| rfl
      ·exact hb y hm
      ·exact lf
     obtain⟨c',UJ,g1,g2,g3,g4,g5,g6⟩:=td (vs:=vs) (qs:=qs) (by simpa using hl) (fun j p q' hj Tr=>hp (j+1) p q' (by simpa using hj) (by simpa using Tr)) (ag.set hv i bp) hw bI ahN h
     refine⟨c',UJ,?_,g2,g3,g4,g5,by simpa using g6⟩
     have K7: ¬ (q.cells.size≠sz∨c.size<i*sz+q.cells.size):=abV
     simp only[Instr.fill]
     rw[if_neg (by simpa using K7)]
     exact g1
   ·simp at h
theorem uj {t e:TypeId} {n sz r:Nat} {parts:Array (Nat×Operand)} {z:V} (hr:Rel X T a μ) (ho:o.op= .buildSlice t n parts) (hd:bL X t=some (.slice e))
  (hn:bQ X e=some sz) (hz:ft X e=some z) (kY: ∃vs O',(match ee sz (List.replicate n z) vs with
    | some es=>if aV z sz &&decide (0 <sz∧n*sz≤16777216) then AM.Act.bR r fun o=>AM.Act.bO r {gen:=o.gen+1,sz,arr:=true,fz:=false,es:=some es} (.done (.sl r (o.gen+1) 0 n)) else AM.Act.fail
    | none=>AM.Act.fail).run C ⟨T,O'⟩=some (v,σ')∧vs.length=parts.toList.length∧Le μ ⟨μ.w,μ.φ,O'⟩∧bk X ⟨μ.w,μ.φ,O'⟩∧
    ∀ (i:Nat) q q',vs[i]? =some q→parts.toList[i]? =some q'→q.1=q'.1∧aj X ⟨μ.w,μ.φ,O'⟩ q.2 (a.eval q'.2)):σ'.T=T∧c6 X o a μ σ'.O v:=by
 obtain⟨vs,O1,k1,k2,k3,k4,k5⟩:=kY
 split at k1
 ·rename_i es bq
  split at k1
  · rename_i hc
    simp only[Bool.and_eq_true,decide_eq_true_eq] at hc
    obtain⟨Ts,bI,CI⟩:=hc
    simp only[Act.run,aiT,aiX] at k1
    obtain⟨rfl,rfl⟩:=k1
    refine⟨rfl,?_⟩
    obtain⟨zv,zd,Co⟩:=iH hz μ.w
    obtain⟨BO,K8⟩:=eT (X:=X) (μ:=⟨μ.w,μ.φ,O1⟩) Co
    have Tt:zv.cells.size=sz:=by rw[BO.fI K8,(cr Ts).2]
    obtain⟨q1,q2⟩:=IC (n:=n) Tt
    have hbr: (List.replicate n z).all (aV · sz)=true:=by
     simp only[aiY,List.mem_replicate]
     rintro y ⟨_,rfl⟩;exact Ts
    obtain⟨c',UJ,g1,g2,g3,g4,g5,g6⟩:=td (X:=X) (μ:=⟨μ.w,μ.φ,O1⟩) (sz:=sz) (vs:=vs) (qs:=(parts.map fun (i,x)=> (i,a.eval x)).toList) (by simp[k2]) (fun j p q hj hq=>by
     rw[akR,List.getElem?_map,aiU] at hq
     obtain⟨q',VZ,rfl⟩:=hq
     exact k5 j p q' hj VZ) (ag.replicate BO n) q2 (by rw[q1];simp) hbr bq
    have hlen:es.length=n:=by simpa using g6
    have yy:UJ.length=n:=by rw[←g2.length];exact hlen
    obtain⟨K9,XO⟩:=FK (X:=X) (μ:=⟨μ.w,μ.φ,O1⟩) k4 r sz n true (es:=es) (vs:=UJ) (c:=c') e bI abV g5 g2 (by rw[g4,yy];exact aiZ _) (fun i u hu=>by
     obtain⟨m1,m2⟩:=g3 i u hu
     exact⟨m1,fun j x hx=>by simpa using m2 j x hx⟩)
    refine⟨.slice (some ⟨μ.w.heap.size,0,none⟩) n n,_,_,.inl ?_,?_,k3.trans K9,XO⟩
    ·simp only[execOp,ho]
     refine dy ?_
     have pj:X.P.underlying t=some (.slice e):=hd
     have adK: ¬n*sz >2 ^ 24:=by
      have: (2:Nat) ^ 24=16777216:=aiO
      omega
     simp only[Instr.buildSlice,Sem.run_bind,run_underlying pj,Result.andThen_ok,fj hn]
     rw[if_neg adK]
     have lL: ∀zero:Array Value,(n*sz=0∨zero=zv.cells)→(Array.range (n*sz)).map (fun i=>zero[i % zero.size]!)=(Array.range (n*sz)).map (fun i=>zv.cells[i % zv.cells.size]!):=by
      rintro zero (h0| rfl)
      ·have hr0:Array.range 0= #[]:=rfl
       rw[h0,hr0];simp
      ·rfl
     by_cases Jk:n*sz=0
     ·rw[if_pos Jk]
      simp only[Sem.run_bind,Sem.run_pure,Result.andThen_ok]
      rw[lL #[] (.inl Jk),g1]
      simp only[newRow,Sem.run_bind,run_newObj,Result.andThen_ok,Sem.run_pure]
      rfl
     ·rw[if_neg Jk]
      simp only[Sem.run_bind,zd,Result.andThen_ok,Sem.run_pure]
      rw[lL zv.cells (.inr rfl),g1]
      simp only[newRow,Sem.run_bind,run_newObj,Result.andThen_ok,Sem.run_pure]
      rfl
    ·simp only[aj,aA]
     exact⟨_,_,rfl,aiZ _,aiZ _,fun _=> ⟨bI,abW,abW⟩⟩
  ·exact absurd k1 au
 ·exact absurd k1 au
theorem CQ {t e:TypeId} {n sz r:Nat} {parts:Array (Nat×Operand)} {z:V} {asq:List (Nat×aU)} (hr:Rel X T a μ) (ho:o.op= .buildSlice t n parts) (hd:bL X t=some (.slice e))
  (hn:bQ X e=some sz) (hz:ft X e=some z) (hp:sg X parts.toList=some asq) (ah: (aM E (.buildSlice r sz z n asq)).run C ⟨T,μ.O⟩=some (v,σ')):σ'.T=T∧c6 X o a μ σ'.O v:=by
 simp only[aM] at ah
 exact uj hr ho hd hn hz (s9 hr hp (Le.refl μ) hr.bg ah)
end
end Go.AM
