/- Texts of the proof. -/
import Derived.Test.YtdifmldbllaeiaaGreatDefs
import Derived.Calls
import Derived.Orders
import Derived.Below
import Derived.Laws.Cells
import Derived.Laws.Rows
import Derived.Laws.Tables
import Derived.Laws.CopyRow
import Derived.ChangeKeysEq
import Derived.Laws.StructEq
import Derived.IntWalk
set_option linter.unusedSimpArgs false
set_option linter.unusedVariables false
namespace Go.AM
structure Hints where
 cL:List (Option Nat):=[]
 bA:List Nat:=[]
 name:List (Nat×Nat):=[]
 lits:List (Nat×List Nat):=[]
 nX:List (Nat×Nat×Nat):=[]
 jt:List (Nat×Nat×Nat):=[]
 dyn:List (Nat×Nat):=[]
 bS:List Nat:=[]
 deep:List Nat:=[]
 Kv:List Nat:=[]
 tag:Option (Nat×Nat):=none
 keys:List (Nat×List Nat×List Nat):=[]
 n:Nat:=0
structure TrEnv where
 P:Program
 fo:FuncId→Option Nat
 pP:TypeId→Option Nat
variable (X:TrEnv)
def qO:Value→Option V
 | .bool b=>some (.bool b)
 | .int k n=>some (.int k n)
 | .float .f64 b=>some (.float b)
 | .string s=>some (.str s.data.toList)
 | .pointer none=>some .nilp
 | .slice none 0 0=>some .nils
 | .map none=>some (.mlit [])
 | .nilFunc=>some .nilfn
 | .nilIface=>some .nili
 | _=>none
def lL:List Value→Option (List V)
 | []=>some []
 | v::vs=>match qO v,lL vs with
   | some c,some cs=>some (c::cs)
   | _,_=>none
def zt:Value→Option V
 | .agg cs=> (lL cs.toList).map .agg
 | v=>qO v
def info (t:TypeId):Option TypeInfo:=X.P.info? t
def bO (t:TypeId):Option Nat:=(info X t).map (·.size)
def bJ (t:TypeId):Option TypeDesc:=X.P.underlying t
def gp (t:TypeId):Option Bool:=(bJ X t).map fun| .struct _=>true| .array .. =>true| _=>false
def eY (t:TypeId):Option V:=(info X t).bind fun i=>i.zero.bind zt
def dc:Operand→Option aT
 | .tmp t=>some (.tmp t)
 | .const v=> (zt v).map .const
 | .func f=> (X.fo f).map fun n=> .const (.fn n [])
 | .global _=>none
def nD:List Operand→Option (List aT)
 | []=>some []
 | o::os=>match dc X o,nD os with
   | some a,some aD=>some (a::aD)
   | _,_=>none
def AI:Option Operand→Option (Option aT)
 | none=>some none
 | some o=> (dc X o).map some
mutual
def gq:Nat→TypeId→Option (List Nat)
 | 0,_=>none
 | d+1,t=>match bJ X t with
   | some .bool=>if bO X t=some 1 then some [0] else none
   | some (.int _)=>if bO X t=some 1 then some [1] else none
   | some .string=>if bO X t=some 1 then some [2] else none
   | some (.struct fs)=>if X.P.stoodInHeld t=false then(match oy d fs.toList 0 with
      | some ks=>if bO X t=some ks.length then some ks else none
      | none=>none) else none
   | some (.array n e)=>if gp X e=some false∧bO X t=some n then(match gq d e with
      | some [k]=>some (List.replicate n k)
      | _=>none) else none
   | _=>none
def oy:Nat→List Field→Nat→Option (List Nat)
 | 0,_,_=>none
 | _+1,[],_=>some []
 | d+1,f::fs,off=>if f.name≠ "_" ∧f.offset=off then match gq d f.type with
    | some ks=>match oy d fs (off+ks.length) with
      | some uS=>some (ks++uS)
      | none=>none
    | none=>none
   else none
end
def kM (place:Nat→Option (Nat×Nat)):List (Nat×Operand)→Option (List (Nat×Nat×aT))
 | []=>some []
 | (i,o)::ps=>match place i,dc X o,kM place ps with
   | some (off,sz),some a,some aD=>some ((off,sz,a)::aD)
   | _,_,_=>none
def qP:List (Nat×Operand)→Option (List (Nat×aT))
 | []=>some []
 | (i,o)::ps=>match dc X o,qP ps with
   | some a,some aD=>some ((i,a)::aD)
   | _,_=>none
def mA (t:Nat):Nat:=16*(t+1)
def nameOf (h:Hints) (dst:Nat):Nat:=((h.name.find? (·.1==dst)).map (·.2)).getD (mA dst)
def Uq (ks:List Nat):aT→aT
 | .const v=> .const (GN ks v)
 | x=>x
def aaU (h:Hints) (dst:Nat):Option Nat:=(h.dyn.find? (·.1==dst)).map (·.2)
def sD (h:Hints) (dst:Nat):List Nat:=((h.lits.find? (·.1==dst)).map (·.2)).getD []
def aaV (h:Hints) (dst:Nat):Option (Nat×Nat):=(h.nX.find? (·.1==dst)).map (·.2)
def isNil:Operand→Bool
 | .const (.slice none 0 0)=>true
 | _=>false
def aaW (h:Hints) (dst:Nat) (x:Operand):Option Nat:=match x with
 | .tmp t=> (h.jt.find? (fun p=>p.1==dst &&p.2.1==t)).map (·.2.2)
 | _=>none
def zu (h:Hints) (dst:Nat) (x:Operand):Option sW:=
 match isNil x,aaV h dst with
 | true,some (r,sz)=>some (.td r sz)
 | _,_=>match aaW h dst x with
   | some r=> (dc X x).map fun y=> .ren r y
   | none=> (dc X x).map fun y=> .move (Uq (sD h dst) y)
def uj (bytes:Nat):Nat:=(140737488355328 - 200*(bytes+1)) / (bytes+1)
def Th (h:Hints) (dst r sz lim:Nat) (s x:aT):sW:=
 match aaU h dst with
 | some ix=> .ti ix (16000000+mA dst) sz lim s x
 | none=> .append r sz lim s x
def zw (h:Hints) (dst:Nat) (c:Call):Option sW:=
 match c.callee with
 | .value f=>match dc X f,nD X c.args.toList with
   | some f,some aD=>some (.call (mA dst+(if h.bS.contains dst then 1 else 0)+(if h.deep.contains dst then 4 else 0)) (h.bA.contains dst) f aD)
   | _,_=>none
 | .invoke .. =>none
 | .builtin b=>match b,c.args.toList,c.argTypes.toList with
   | .len,[x],[t]=>match dc X x,bJ X t with
     | some x,some (.slice _)=>some (.len x)
     | some x,some .string=>some (.yt x)
     | some _,some (.array n _)=>some (.move (.const (.int .i64 n)))
     | _,_=>none
   | .min,xs,_=> (nD X xs).map .min
   | .max,xs,_=> (nD X xs).map .max
   | .append,[s,x],[t,t']=>match dc X s,dc X x,bJ X t,bJ X t' with
     | some s,some x,some (.slice e),some d=>match bO X e,info X e,eY X e,d with
       | some sz,some i,some z,.slice _| some sz,some i,some z,.string=>if aU z sz then some (Th h dst (nameOf h dst) sz (uj i.bytes) s x) else none
       | _,_,_,_=>none
     | _,_,_,_=>none
   | .clear,[x],[t]=>match dc X x,bJ X t with
     | some x,some (.slice e)=>match bO X e,eY X e with
       | some sz,some z=>some (.clear sz z x)
       | _,_=>none
     | _,_=>none
   | _,_,_=>none
def PS:BinOp→Bool
 | .eql=>true
 | .neq=>true
 | _=>false
def wL:BinOp→Bool
 | .neq=>true
 | _=>false
def J1 (op:BinOp) (t:TypeId) (x y:aT):Option sW:=
 if PS op then match bJ X t with
  | some (.int _) | some .string=>some (.bin op x y)
  | some (.pointer e)=> (match bO X e with
    | some (_+1)=>some (.UU (wL op) x y)
    | _=>none)
  | some (.struct _)=>if X.P.eqGuardType X.P.depth t=false then(gq X 100 t).map fun ks=> .Xh (wL op) ks x y else none
  | some (.array _ _)=>if X.P.eqGuardType X.P.depth t=false then(gq X 100 t).map fun ks=> .Xh (wL op) ks x y else none
  | _=>none
 else some (.bin op x y)
def uk (kt:TypeId):Option (Option IntKind):=match bJ X kt with
 | some (.int k)=>some (some k)
 | some .string=>some none
 | _=>none
def cH (kt:TypeId):Option (List Nat):=match bJ X kt with
 | some (.struct _)=>gq X 100 kt
 | _=>none
def isZero:V→Bool
 | .int .i64 n=>n==0
 | _=>false
def Ur (h:Hints):Operand→Bool
 | .tmp t=>h.bS.contains t
 | _=>false
def AJ (h:Hints) (dst:Nat):Op→Option sW
 | .move x| .assign x=>if h.deep.contains dst then(dc X x).map .deep else if h.Kv.contains dst then(dc X x).map .Nb else zu X h dst x
 | .pick c a b=>match dc X c,dc X a,dc X b with
   | some c,some a,some b=>some (.pick c a b)
   | _,_,_=>none
 | .alloc t=>match bO X t,eY X t with
   | some sz,some z=>some (.new (mA dst) sz (.const (GN (sD h dst) z)))
   | _,_=>none
 | .box t x=>match bO X t,dc X x with
   | some sz,some x=>some (.new (mA dst) sz (Uq (sD h dst) x))
   | _,_=>none
 | .build t ps=>match eY X t,bJ X t with
   | some (.agg z),some (.struct fs)=>if !fs.toList.all (fun f=> (bO X f.type).isSome) then none else(kM X (fun i=>match fs[i]? with| some f=> (bO X f.type).map fun s=> (f.offset,s) | none=>none) ps.toList).map (.build (Cy (sD h dst) z))
   | some (.agg z),some (.array _ e)=>match bO X e with
     | some s=> (kM X (fun i=>some (i*s,s)) ps.toList).map (.build (Cy (sD h dst) z))
     | none=>none
   | _,_=>none
 | .buildSlice t n ps=>match bJ X t with
   | some (.slice e)=>match bO X e,eY X e,qP X ps.toList with
     | some sz,some z,some aD=>some (.buildSlice (mA dst) sz z n aD)
     | _,_,_=>none
   | _=>none
 | .load t x=>match gp X t,bO X t,dc X x with
   | some a,some sz,some x=>some (if (sD h dst).isEmpty then .load a sz x else .A3 (sD h dst) a sz x)
   | _,_,_=>none
 | .store t x v=>match gp X t,bO X t,dc X x,dc X v with
   | some a,some sz,some x',some v=>some (if Ur h x then .yw a sz x' v else .store a sz x' v)
   | _,_,_,_=>none
 | .nilCheck x=> (dc X x).map .nilCheck
 | .binOp op t x y _=>match dc X x,dc X y with
   | some x,some y=>J1 X op t x y
   | _,_=>none
 | .unOp op _ x=> (dc X x).map (.un op)
 | .convert s d x=>match bJ X s,bJ X d,dc X x with
   | some (.int _),some (.int k),some x=>some (.te k x)
   | some (.int _),some (.float .f64),some x=>some (.yp x)
   | some (.float .f64),some (.int k),some x=>some (.yq k x)
   | _,_,_=>none
 | .makeInterface _ _=>some .bad
 | .makeFunc (.func f) first caps=>if first.isEmpty then match X.fo f,nD X caps.toList with
     | some n,some cs=>some (if h.deep.contains dst then .tk n ((caps.toList.map (Ur h)).zip cs) else .yr n cs)
     | _,_=>none
   else if caps.isEmpty then match X.fo f,(if h.bS.contains dst then some (first.toList.map fun _=> .const .any) else nD X first.toList) with
     | some n,some cs=>some (.tj n cs)
     | _,_=>none
   else none
 | .slice t x lo hi mx=>match bJ X t,dc X x,AI X lo,AI X hi,AI X mx with
   | some (.slice e),some x,some lo,some hi,some mx=> (bO X e).map fun sz=> .slice sz x lo hi mx
   | _,_,_,_,_=>none
 | .fieldAddr s x i=>match bJ X s,dc X x with
   | some (.struct fs),some x=>match fs[i]? with
     | some f=>match bO X f.type with
       | some (_+1)=>some (.fieldAddr f.offset x)
       | _=>none
     | none=>none
   | _,_=>none
 | .indexAddr t x i=>match bJ X t,dc X x,dc X i with
   | some (.slice e),some x,some i=> (bO X e).map fun sz=> .indexAddr sz x i
   | some (.array n e),some x,some i=> (bO X e).map fun sz=> .o9 n sz x i
   | _,_,_=>none
 | .index t x i=>match bJ X t,dc X x,dc X i with
   | some .string,some x,some i=>some (.pb x i)
   | _,_,_=>none
 | .extract x i=> (dc X x).map fun x=> .extract x i
 | .makeMap _ none=>some (.mkMap (mA dst))
 | .range t x=>match bJ X t,dc X x with
   | some (.map _ _),some x=>some (.mapIter (mA dst) x)
   | _,_=>none
 | .lookup t x i ok=>match bJ X t,dc X x,dc X i with
   | some (.map kt et),some x,some i=>match uk X kt,eY X et with
     | some q,some z=>some (.yu q ok z x i)
     | none,some z=> (cH X kt).map fun ks=>if h.bS.contains dst && !ok &&isZero z then .ky ks x i else .qy ks ok z x i
     | _,_=>none
   | _,_,_=>none
 | .mapUpdate t m k v=>match bJ X t,dc X m,dc X k,dc X v with
   | some (.map kt _),some m,some k,some v=>match uk X kt with
     | some q=>some (.u5 q m k v)
     | none=> (cH X kt).map fun ks=> .qx ks m k v
   | _,_,_,_=>none
 | .mapEntry t m k=>match bJ X t,dc X m,dc X k with
   | some (.map kt et),some m,some k=>match cH X kt,eY X et with
     | some ks,some z=>if h.bS.contains dst &&isZero z then some (.kz ks m k) else none
     | _,_=>none
   | _,_,_=>none
 | .entryStore _ m s v=>match dc X m,dc X s,dc X v with
   | some m,some s,some v=>some (.th m s v)
   | _,_,_=>none
 | .insert t m k v=>match bJ X t,dc X m,dc X k,dc X v with
   | some (.map kt _),some m,some k,some v=>match uk X kt with
     | some q=>some (.u5 q m k v)
     | none=> (cH X kt).map fun ks=> .qx ks m k v
   | _,_,_,_=>none
 | .call c=>zw X h dst c
 | _=>none
def mT (h:Hints) (ops:Array Oper) (o:Oper):Option bX:=
 let g:Option (Option (Nat×Bool)):=match o.guard with
  | none=>some none
  | some (j,want)=>match (ops[j]?).bind (·.dst) with
    | some d=>some (some (d,want))
    | none=>none
 match g,o.dst.all (· <h.n) with
 | some g,true=>some {dst:=o.dst,op:=(AJ X h (o.dst.getD 0) o.op).getD .bad,guard:=g,pre:=(o.after.toList.filter (Region.binds .any)).map (·.on)}
 | _,_=>none
def im (h:Hints) (ops:Array Oper):List Oper→Option (List bX)
 | []=>some []
 | o::os=>match mT X h ops o,im h ops os with
   | some a,some aD=>some (a::aD)
   | _,_=>none
def Dn (h:Hints) (a:Code):Option (Nat×Nat×Nat×Nat×List Nat×List Nat):=
 match a with
 | .seq (.region ..) (.block id (.loop (.seq (.region _ ops false) (.seq (.cond ..) (.block _ (.seq (.region _ gV false) _))))))=>match ops[0]?,gV[0]? with
   | some o,some o5=>match o.op,o.dst,o.guard,o5.op,o5.dst,o5.guard with
     | .next (.tmp it) false,some nx,none,.entry (.tmp it'),some ne,none=> (match h.keys.find? (·.1==nx) with
       | some k=>if nx<h.n∧ne<h.n∧it'=it then some (it,nx,ne,id,k.2.1,k.2.2) else none
       | none=>none)
     | _,_,_,_,_,_=>none
   | _,_=>none
 | _=>none
def FY:Code→Bool
 | .seq (.region ..) _=>true
 | _=>false
def FZ (h:Hints) (a b:Code) (ta tb:aS):aS:=
 match Dn h a,FY b,ta,tb with
 | some (it,nx,ne,id,kT,kO),true,.seq tR (.block _ (.loop (.seq (.region aD) (.seq tc (.block b1 (.seq (.region bs) tz)))))),.seq tS zx=> .seq tR (.seq (.keys it nx ne id kT kO (.seq (.region (aD.drop 1)) tc) (.block b1 (.seq (.region (bs.drop 1)) tz)) tS) zx)
 | _,_,_,_=> .seq ta tb
def ct (h:Hints):Code→Option aS
 | .skip=>some .skip
 | .region _ ops false=> (im X h ops ops.toList).map fun l=> .region (l.map fun o=> {o with pre:=[]})
 | .region _ ops true=> (im X h ops ops.toList).map .drawn
 | .seq a b=>match ct h a,ct h b with
   | some ta,some tb=>some (FZ h a b ta tb)
   | _,_=>none
 | .cond c a b=>match dc X c,ct h a,ct h b with
   | some c,some a,some b=>some (.cond c a b)
   | _,_,_=>none
 | .block id b=> (ct h b).map (.block id)
 | .loop b=> (ct h b).map .loop
 | .exit id=>some (.exit id)
 | .ret=>some .ret
 | .scope b=> (ct h b).map .scope
 | .rangeFunc f ps a b=>match dc X f,ct h a,ct h b with
   | some f,some a,some b=>if ps.toList.all (fun p=>Nat.blt p h.n)=true then some (.nN f ps.toList a b) else none
   | _,_,_=>none
 | .label _=>some .skip
 | _=>some .bad
def uo:ResultVar→Option sU
 | .tmp t=>some (.tmp t)
 | .cell a t=>match gp X t,bO X t with
   | some g,some sz=>some (.cell a g sz)
   | _,_=>none
def jA:List ResultVar→Option (List sU)
 | []=>some []
 | r::rs=>match uo X r,jA rs with
   | some a,some aD=>some (a::aD)
   | _,_=>none
def CA (h:Hints) (f:Func):Option aM:=
 match f.body with
 | none=>none
 | some b=>match ct X {h with n:=f.ntmps} b,jA X f.results.toList with
   | some c,some rs=>some {nparams:=f.params.size+f.nfree,ntmps:=f.ntmps,cL:=h.cL,results:=rs,body:=c,tag:=h.tag}
   | _,_=>none
end Go.AM
namespace Go.AM
open Go Go.RowKit
structure Ctx extends TrEnv where
 Us:Nat→Prop
 tok:Nat×Nat
instance:CoeOut Ctx TrEnv:=⟨Ctx.toTrEnv⟩
structure Row where
 bV:Nat
 base:Nat
 cap:Nat
structure Mu where
 w:World
 φ:Nat→Row
 O:Nat→Obj
def Mu.own (μ:Mu) (b:Nat):Prop:= ∃r,(μ.O r).es.isSome=true∧(μ.O r).fz=false∧(μ.φ r).cap≠0∧(μ.φ r).bV=b
def Own (X:Ctx) (μ:Mu) (b:Nat):Prop:=μ.own b∨X.Us b
def di (w:World) (b off sz:Nat) (vs:List Value):Prop:=
 ∀i v,vs[i]? =some v→v.cells.size=sz∧ ∀j c,v.cells[j]? =some c→w.cell? ⟨b,off+i*sz+j,none⟩=some c
def gr (ents:Array MapEntry) (clock:Nat):Prop:=clock=ents.size∧ents.toList.map (·.born)=List.range ents.size
theorem gr.nodup {ents:Array MapEntry} {clock:Nat} (h:gr ents clock): (ents.toList.map (·.born)).Nodup:=by rw[h.2];exact List.nodup_range
theorem gr.lt {ents:Array MapEntry} {clock:Nat} (h:gr ents clock): ∀e ∈ ents.toList,e.born<clock:=fun e he=>by
 have:e.born ∈ ents.toList.map (·.born):=agk.2 ⟨e,he,rfl⟩
 rw[h.2,List.mem_range] at this
 rw[h.1];exact this
theorem gr.at {ents:Array MapEntry} {clock:Nat} (h:gr ents clock) {j:Nat} {e:MapEntry} (he:ents[j]? =some e):e.born=j:=by
 have h2:=congrArg (fun l=>l[j]?) h.2
 have hj:=(af1.1 he).1
 simp only[age,ahG,he,agc] at h2
 rw[ahU hj] at h2
 exact Option.some.inj h2
section
variable (X:Ctx) (μ:Mu)
mutual
def aj:V→Value→Prop
 | .bool b,v=>v= .bool b
 | .int k n,v=>v= .int k n
 | .float b,v=>v= .float .f64 b
 | .str s,v=> ∃bs:ByteArray,v= .string bs∧bs.data.toList=s
 | .agg cs,v=>cs.all V.aR=true∧ ∃vs,v= .agg vs∧ag cs vs.toList
 | .tuple cs,v=> ∃vs,v= .tuple vs∧ag cs vs.toList
 | .nilp,v=>v= .pointer none
 | .nilfn,v=>v= .nilFunc
 | .nili,v=>v= .nilIface
 | .fn f caps,v=> ∃F cv,v= .func (.func F) #[] cv∧X.fo F=some f∧ag caps cv.toList
 | .bfn f caps,v=> ∃F cv,v= .func (.func F) cv #[]∧X.fo F=some f∧ag caps cv.toList
 | .iface t x,v=> ∃T y,v= .iface T y∧X.pP T=some t∧aj x y
 | .nils,v=> ∃a,v= .slice a 0 0
 | .lit sz xs,v=>V.ak xs=true∧xs.all V.da=true∧ ∃a cap vs,v= .slice a xs.length cap∧xs.length≤cap∧ag xs vs∧
    (xs=[]∨ ∃b o,a=some ⟨b,o,none⟩∧ ¬Own X μ b∧b<μ.w.heap.size∧di μ.w b o sz vs)
 | .own ..,_=>False
 | .sl r g off len,v=> ∃a cap,v= .slice a len cap∧len≤cap∧g≤(μ.O r).gen∧
    ((μ.O r).gen=g→0 < (μ.O r).sz∧cap+off=(μ.φ r).cap∧(cap=0∨a=some ⟨(μ.φ r).bV,(μ.φ r).base+off*(μ.O r).sz,none⟩))
 | .ptr r g idx off,v=> ∃a,v= .pointer (some a)∧g≤(μ.O r).gen∧
    ((μ.O r).gen=g→0 < (μ.O r).sz∧a=⟨(μ.φ r).bV,(μ.φ r).base+idx*(μ.O r).sz+off,none⟩)
 | .eptr e off,v=>V.au e=true∧V.da e=true∧ ∃b o sz x,v= .pointer (some ⟨b,o+off,none⟩)∧ ¬Own X μ b∧b<μ.w.heap.size∧aj e x∧di μ.w b o sz [x]
 | .mp r g,v=> ∃a,v= .map (some a)∧g≤(μ.O r).gen∧((μ.O r).gen=g→(μ.O r).sz=0∧a=(μ.φ r).bV)
 | .mlit es,v=>V.ak es=true∧(es=[]∧v= .map none∨ ∃a ents clock,v= .map (some a)∧ ¬Own X μ a∧a<μ.w.heap.size∧(μ.w.heap[a]? =some (.map ents clock)∧gr ents clock)∧
    ag es (ents.toList.map fun e=> .tuple #[e.key,e.val]))
 | .it r g,v=> ∃a,v= .pointer (some ⟨a,0,none⟩)∧g≤(μ.O r).gen∧((μ.O r).gen=g→(μ.O r).sz=0∧a=(μ.φ r).bV)
 | .litk sz xs,v=>V.ak xs=true∧xs.all V.da=true∧ ∃a cap vs,v= .slice a xs.length cap∧xs.length≤cap∧ag xs vs∧
    (xs=[]∨a=some ⟨X.tok.1,X.tok.2,none⟩∧ ¬Own X μ X.tok.1∧X.tok.1 <μ.w.heap.size∧di μ.w X.tok.1 X.tok.2 sz vs)
 | .epk i sz e off,v=>V.au e=true∧V.da e=true∧ ∃x,v= .pointer (some ⟨X.tok.1,X.tok.2+i*sz+off,none⟩)∧ ¬Own X μ X.tok.1∧X.tok.1 <μ.w.heap.size∧aj e x∧di μ.w X.tok.1 (X.tok.2+i*sz) sz [x]
 | .msl ..,_=>False
 | .mptr ..,_=>False
 | .any,_=>True
def ag:List V→List Value→Prop
 | [],[]=>True
 | x::xs,v::vs=>aj x v∧ag xs vs
 | _,_=>False
end
end
theorem ag.length {X:Ctx} {μ:Mu}: ∀ {xs:List V} {vs:List Value},ag X μ xs vs→xs.length=vs.length
 | [],[],_=>rfl
 | [],_::_,h=>by simp[ag] at h
 | _::_,[],h=>by simp[ag] at h
 | _::_,_::_,h=>by simp only[ag] at h;simp[ag.length h.2]
theorem ag.get {X:Ctx} {μ:Mu}: ∀ {xs:List V} {vs:List Value},ag X μ xs vs→ ∀ {i:Nat} {x:V},xs[i]? =some x→ ∃v,vs[i]? =some v∧aj X μ x v
 | [],_,_,i,x,hx=>by simp at hx
 | _::_,[],h,_,_,_=>by simp[ag] at h
 | y::ys,v::vs,h,i,x,hx=>by
   simp only[ag] at h
   cases i with
   | zero=>simp at hx;subst hx;exact⟨v,afU,h.1⟩
   | succ i=>simp at hx;simpa using ag.get h.2 hx
theorem ag.zy {X:Ctx} {μ:Mu}: ∀ {xs:List V} {vs:List Value},xs.length=vs.length→(∀ (i:Nat) (x:V) (v:Value),xs[i]? =some x→vs[i]? =some v→aj X μ x v)→ag X μ xs vs
 | [],[],_,_=>by simp[ag]
 | [],_::_,h,_=>by simp at h
 | _::_,[],h,_=>by simp at h
 | x::xs,v::vs,h,hg=>by
   simp only[ag]
   exact⟨hg 0 x v afU afU,ag.zy (by simpa using h) fun i y u hy hu=>hg (i+1) y u (by simpa using hy) (by simpa using hu)⟩
theorem ag.append {X:Ctx} {μ:Mu}: ∀ {xs ys:List V} {vs us:List Value},ag X μ xs vs→ag X μ ys us→ag X μ (xs++ys) (vs++us)
 | [],_,[],_,_,h=>by simpa using h
 | [],_,_::_,_,h,_=>by simp[ag] at h
 | _::_,_,[],_,h,_=>by simp[ag] at h
 | x::xs,ys,v::vs,us,h,h'=>by
   simp only[ag] at h
   simp only[ags,ag]
   exact⟨h.1,ag.append h.2 h'⟩
theorem ag.take {X:Ctx} {μ:Mu}: ∀ {xs:List V} {vs:List Value} (n:Nat),ag X μ xs vs→ag X μ (xs.take n) (vs.take n)
 | _,_,0,_=>by simp[ag]
 | [],[],n+1,_=>by simp[ag]
 | [],_::_,n+1,h=>by simp[ag] at h
 | _::_,[],n+1,h=>by simp[ag] at h
 | x::xs,v::vs,n+1,h=>by
   simp only[ag] at h
   simp only[agO,ag]
   exact⟨h.1,ag.take n h.2⟩
theorem ag.drop {X:Ctx} {μ:Mu}: ∀ {xs:List V} {vs:List Value} (n:Nat),ag X μ xs vs→ag X μ (xs.drop n) (vs.drop n)
 | _,_,0,h=>by simpa using h
 | [],[],n+1,_=>by simp[ag]
 | [],_::_,n+1,h=>by simp[ag] at h
 | _::_,[],n+1,h=>by simp[ag] at h
 | x::xs,v::vs,n+1,h=>by
   simp only[ag] at h
   simpa using ag.drop n h.2
theorem ag.set {X:Ctx} {μ:Mu} {xs:List V} {vs:List Value} (h:ag X μ xs vs) (i:Nat) {x:V} {v:Value} (hx:aj X μ x v):ag X μ (xs.set i x) (vs.set i v):=by
 refine ag.zy (by simpa using h.length) fun j y u hy hu=> ?_
 rw[agY] at hy hu
 split at hy
 ·rename_i e
  subst e
  by_cases hl:i<xs.length
  ·have xH:i<vs.length:=by rw[←h.length];exact hl
   simp[hl] at hy;simp[xH] at hu
   subst hy hu;exact hx
  ·simp[hl] at hy
 ·rename_i e
  simp[e] at hu
  obtain⟨u',Bl,hr⟩:=h.get hy
  rw[hu] at Bl;injection Bl with Bl;subst Bl;exact hr
structure Le (μ μ':Mu):Prop where
 size:μ.w.heap.size≤μ'.w.heap.size
 bS: ∀b,b<μ.w.heap.size→ ¬μ.own b→μ'.w.heap[b]? =μ.w.heap[b]? ∧ ¬μ'.own b
 gen: ∀r,(μ.O r).gen≤(μ'.O r).gen
 row: ∀r,(μ'.O r).gen=(μ.O r).gen→μ'.φ r=μ.φ r∧(μ'.O r).sz=(μ.O r).sz
 os:μ'.w.os=μ.w.os
 output:μ'.w.output=μ.w.output
 tape:μ'.w.tape=μ.w.tape
 frozen: ∀a:Addr,a.block<μ.w.heap.size→μ'.w.frozen? a=μ.w.frozen? a
theorem Le.refl (μ:Mu):Le μ μ:=
 ⟨af6 _,fun _ _ h=> ⟨rfl,h⟩,fun _=>af6 _,fun _ _=> ⟨rfl,rfl⟩,rfl,rfl,rfl,fun _ _=>rfl⟩
theorem Le.trans {a b c:Mu} (h:Le a b) (k:Le b c):Le a c where
 size:=agm h.size k.size
 bS:=fun i hi ho=>by
  obtain⟨h1,h2⟩:=h.bS i hi ho
  obtain⟨k1,k2⟩:=k.bS i (af9 hi h.size) h2
  exact⟨k1.trans h1,k2⟩
 gen:=fun r=>agm (h.gen r) (k.gen r)
 row:=fun r e=>by
  have h1:=h.gen r
  have k1:=k.gen r
  obtain⟨a1,a2⟩:=h.row r ae0
  obtain⟨b1,b2⟩:=k.row r ae0
  exact⟨b1.trans a1,b2.trans a2⟩
 os:=k.os.trans h.os
 output:=k.output.trans h.output
 tape:=k.tape.trans h.tape
 frozen:=fun x hx=> (k.frozen x (af9 hx h.size)).trans (h.frozen x hx)
theorem di.bS {w w':World} {b off sz:Nat} {vs:List Value} (h:di w b off sz vs) (e:w'.heap[b]? =w.heap[b]?):di w' b off sz vs:=by
 intro i v hv
 obtain⟨h1,h2⟩:=h i v hv
 refine⟨h1,fun j c hc=> ?_⟩
 rw[←h2 j c hc]
 simp[World.cell?,e]
mutual
theorem aj.mono {X:Ctx} {μ μ':Mu} (le:Le μ μ'): ∀ {x:V} {v:Value},aj X μ x v→aj X μ' x v
 | .bool _,_,h| .int ..,_,h| .float _,_,h| .str _,_,h| .nilp,_,h| .nilfn,_,h| .nili,_,h| .nils,_,h=>by simpa [aj] using h
 | .any,_,_=>by simp[aj]
 | .own ..,_,h| .msl ..,_,h| .mptr ..,_,h=>by simp[aj] at h
 | .agg cs,_,h=>by
   simp only[aj] at h ⊢
   obtain⟨h1,vs,rfl,h2⟩:=h
   exact⟨h1,vs,rfl,ag.mono le h2⟩
 | .tuple cs,_,h=>by
   simp only[aj] at h ⊢
   obtain⟨vs,rfl,h2⟩:=h
   exact⟨vs,rfl,ag.mono le h2⟩
 | .bfn f cs,_,h=>by
   simp only[aj] at h ⊢
   obtain⟨F,cv,rfl,h1,h2⟩:=h
   exact⟨F,cv,rfl,h1,ag.mono le h2⟩
 | .fn f cs,_,h=>by
   simp only[aj] at h ⊢
   obtain⟨F,cv,rfl,h1,h2⟩:=h
   exact⟨F,cv,rfl,h1,ag.mono le h2⟩
 | .iface t x,_,h=>by
   simp only[aj] at h ⊢
   obtain⟨T,y,rfl,h1,h2⟩:=h
   exact⟨T,y,rfl,h1,aj.mono le h2⟩
 | .lit sz xs,_,h=>by
   simp only[aj] at h ⊢
   obtain⟨h0,jx,a,cap,vs,rfl,h1,h2,h3⟩:=h
   refine⟨h0,jx,a,cap,vs,rfl,h1,ag.mono le h2,h3.imp id ?_⟩
   rintro⟨b,o,rfl,hb,hs,hr⟩
   obtain⟨k1,k2⟩:=le.bS b hs (fun h=>hb (.inl h))
   exact⟨b,o,rfl,(fun h=>h.elim k2 fun h=>hb (.inr h)),af9 hs le.size,hr.bS k1⟩
 | .sl r g off len,_,h=>by
   simp only[aj] at h ⊢
   obtain⟨a,cap,rfl,h1,h2,h3⟩:=h
   have hg:=le.gen r
   refine⟨a,cap,rfl,h1,ae0,fun e=> ?_⟩
   obtain⟨e1,e2⟩:=le.row r ae0
   rw[e1,e2];exact h3 ae0
 | .ptr r g idx off,_,h=>by
   simp only[aj] at h ⊢
   obtain⟨a,rfl,h2,h3⟩:=h
   have hg:=le.gen r
   refine⟨a,rfl,ae0,fun e=> ?_⟩
   obtain⟨e1,e2⟩:=le.row r ae0
   rw[e1,e2];exact h3 ae0
 | .eptr e off,_,h=>by
   simp only[aj] at h ⊢
   obtain⟨h0,jx,b,o,sz,x,rfl,hb,hs,h1,hr⟩:=h
   obtain⟨k1,k2⟩:=le.bS b hs (fun h=>hb (.inl h))
   exact⟨h0,jx,b,o,sz,x,rfl,(fun h=>h.elim k2 fun h=>hb (.inr h)),af9 hs le.size,aj.mono le h1,hr.bS k1⟩
 | .litk sz xs,_,h=>by
   simp only[aj] at h ⊢
   obtain⟨h0,jx,a,cap,vs,rfl,h1,h2,h3⟩:=h
   refine⟨h0,jx,a,cap,vs,rfl,h1,ag.mono le h2,h3.imp id ?_⟩
   rintro⟨rfl,hb,hs,hr⟩
   obtain⟨k1,k2⟩:=le.bS _ hs (fun h=>hb (.inl h))
   exact⟨rfl,(fun h=>h.elim k2 fun h=>hb (.inr h)),af9 hs le.size,hr.bS k1⟩
 | .epk i sz e off,_,h=>by
   simp only[aj] at h ⊢
   obtain⟨h0,jx,x,rfl,hb,hs,h1,hr⟩:=h
   obtain⟨k1,k2⟩:=le.bS _ hs (fun h=>hb (.inl h))
   exact⟨h0,jx,x,rfl,(fun h=>h.elim k2 fun h=>hb (.inr h)),af9 hs le.size,aj.mono le h1,hr.bS k1⟩
 | .mp r g,_,h=>by
   simp only[aj] at h ⊢
   obtain⟨a,rfl,h2,h3⟩:=h
   have hg:=le.gen r
   refine⟨a,rfl,ae0,fun e=> ?_⟩
   obtain⟨e1,e2⟩:=le.row r ae0
   rw[e1,e2];exact h3 ae0
 | .it r g,_,h=>by
   simp only[aj] at h ⊢
   obtain⟨a,rfl,h2,h3⟩:=h
   have hg:=le.gen r
   refine⟨a,rfl,ae0,fun e=> ?_⟩
   obtain⟨e1,e2⟩:=le.row r ae0
   rw[e1,e2];exact h3 ae0
 | .mlit es,_,h=>by
   simp only[aj] at h ⊢
   obtain⟨h0,h⟩:=h
   refine⟨h0,h.imp id ?_⟩
   rintro⟨a,ents,clock,rfl,hb,hs,h1,h2⟩
   obtain⟨k1,k2⟩:=le.bS a hs (fun h=>hb (.inl h))
   exact⟨a,ents,clock,rfl,(fun h=>h.elim k2 fun h=>hb (.inr h)),af9 hs le.size,by rw[k1];exact h1,ag.mono le h2⟩
theorem ag.mono {X:Ctx} {μ μ':Mu} (le:Le μ μ'): ∀ {xs:List V} {vs:List Value},ag X μ xs vs→ag X μ' xs vs
 | [],[],_=>by simp[ag]
 | [],_::_,h=>by simp[ag] at h
 | _::_,[],h=>by simp[ag] at h
 | x::xs,v::vs,h=>by
   simp only[ag] at h ⊢
   exact⟨aj.mono le h.1,ag.mono le h.2⟩
end
def mB (X:Ctx) (μ:Mu) (r:Nat) (es:List V):Prop:=0 < (μ.O r).sz∧es.length≤(μ.φ r).cap∧es.all (aU · (μ.O r).sz)=true∧
 ((μ.φ r).cap=0∨ ∃c T vs,μ.w.heap[(μ.φ r).bV]? =some (.cells c T (0,0))∧(μ.φ r).base+(μ.φ r).cap*(μ.O r).sz≤c.size∧ag X μ es vs∧
   di μ.w (μ.φ r).bV (μ.φ r).base (μ.O r).sz vs)
def oz (X:Ctx) (μ:Mu) (ob:Go.Obj) (es:List V):Prop:=
 (∃ents clock,ob= .map ents clock∧ag X μ es (ents.toList.map fun e=> .tuple #[e.key,e.val])∧gr ents clock)∨(∃ (s:ByteArray) (pos:Nat),ob= .stringIter s pos∧es=[.str s.data.toList,.int .i64 (pos:Int)])∨
 ∃mo since lX,ob= .mapIter mo since #[] since∧es=[.mlit lX]∧(mo=none∧lX=[]∨ ∃m ents,mo=some m∧ ¬Own X μ m∧m<μ.w.heap.size∧μ.w.heap[m]? =some (.map ents since)∧gr ents since∧ag X μ lX (ents.toList.map fun e=> .tuple #[e.key,e.val]))
theorem oz.mono {X:Ctx} {μ μ':Mu} (le:Le μ μ') {ob:Go.Obj} {es:List V} (h:oz X μ ob es):oz X μ' ob es:=by
 rcases h with⟨ents,clock,h1,h2,h3⟩ | h| ⟨mo,since,lX,h1,h2,h3⟩
 ·exact .inl ⟨ents,clock,h1,ag.mono le h2,h3⟩
 ·exact .inr (.inl h)
 ·refine .inr (.inr ⟨mo,since,lX,h1,h2,h3.imp id ?_⟩)
  rintro⟨m,ents,k1,k2,k3,k4,k5,k6⟩
  obtain⟨l1,l2⟩:=le.bS m k3 (fun h=>k2 (.inl h))
  exact⟨m,ents,k1,(fun h=>h.elim l2 fun h=>k2 (.inr h)),af9 k3 le.size,by rw[l1];exact k4,k5,ag.mono le k6⟩
theorem oz.live {X:Ctx} {μ:Mu} {ob:Go.Obj} {es:List V} (h:oz X μ ob es) (a:Addr) (w:World) (hw:w.heap[a.block]? =some ob):w.frozen? a=false:=by
 rcases h with⟨_,_,rfl,_⟩ | ⟨_,_,rfl,_⟩ | ⟨_,_,_,rfl,_⟩ <;>simp only[World.frozen?,hw]
def uq (X:Ctx) (μ:Mu) (r:Nat) (es:List V):Prop:=(μ.O r).sz=0∧(μ.φ r).cap≠0∧
 ∃ob,μ.w.heap[(μ.φ r).bV]? =some ob∧oz X μ ob es
def fR (X:Ctx) (μ:Mu) (r:Nat):Prop:= ∀es,(μ.O r).es=some es→mB X μ r es∨uq X μ r es
def Inj (μ:Mu):Prop:= ∀r r',r≠r'→(μ.O r).es.isSome=true→(μ.O r').es.isSome=true→(μ.φ r).cap≠0→(μ.φ r').cap≠0→(μ.φ r).bV≠(μ.φ r').bV
structure ba (X:Ctx) (μ:Mu):Prop where
 ok: ∀r,fR X μ r
 inj:Inj μ
 sS: ∀r,(μ.O r).es.isSome=true→(μ.φ r).cap≠0→ ¬X.Us (μ.φ r).bV
 blt: ∀b,X.Us b→b<μ.w.heap.size
theorem ba.row {X:Ctx} {μ:Mu} (ho:ba X μ) (r:Nat) (es:List V) (bo: (μ.O r).es=some es) (h0:0 < (μ.O r).sz):mB X μ r es:=by
 rcases ho.ok r es bo with h| ⟨h,_⟩
 ·exact h
 ·omega
theorem ba.map {X:Ctx} {μ:Mu} (ho:ba X μ) (r:Nat) (es:List V) (bo: (μ.O r).es=some es) (h0: (μ.O r).sz=0):uq X μ r es:=by
 rcases ho.ok r es bo with⟨h,_⟩ | h
 ·omega
 ·exact h
theorem ba.ents {X:Ctx} {μ:Mu} (ho:ba X μ) (r:Nat) (es:List V) (bo: (μ.O r).es=some es) (h0: (μ.O r).sz=0): ((μ.φ r).cap≠0∧ ∃ents clock,μ.w.heap[(μ.φ r).bV]? =some (.map ents clock)∧ag X μ es (ents.toList.map fun e=> .tuple #[e.key,e.val])∧gr ents clock)∨
  ((μ.φ r).cap≠0∧ ∃ (s:ByteArray) (pos:Nat),μ.w.heap[(μ.φ r).bV]? =some (.stringIter s pos)∧es=[.str s.data.toList,.int .i64 (pos:Int)])∨ ∃lX,es=[.mlit lX]:=by
 obtain⟨_,h2,ob,h3,h4⟩:=ho.map r es bo h0
 rcases h4 with⟨ents,clock,rfl,h⟩ | ⟨s,pos,rfl,h⟩ | ⟨_,_,lX,_,h,_⟩
 ·exact .inl ⟨h2,ents,clock,h3,h⟩
 ·exact .inr (.inl ⟨h2,s,pos,h3,h⟩)
 ·exact .inr (.inr ⟨lX,h⟩)
theorem fR.bV {X:Ctx} {μ:Mu} {r:Nat} {es:List V} (h:mB X μ r es∨uq X μ r es) (hc: (μ.φ r).cap≠0): (μ.φ r).bV<μ.w.heap.size:=by
 rcases h with⟨_,_,_,h⟩ | ⟨_,_,ob,h,_⟩
 ·rcases h with h| ⟨_,_,_,h,_⟩
  ·exact absurd h hc
  ·exact(af1.1 h).1
 ·exact(af1.1 h).1
theorem fR.bS {X:Ctx} {μ μ':Mu} {r r':Nat} {es:List V} (le:Le μ μ') (h:mB X μ r es∨uq X μ r es) (bF: (μ'.O r').sz=(μ.O r).sz) (hφ:μ'.φ r'=μ.φ r)
  (hb: (μ.φ r).cap≠0→μ'.w.heap[(μ.φ r).bV]? =μ.w.heap[(μ.φ r).bV]?):mB X μ' r' es∨uq X μ' r' es:=by
 rcases h with⟨h1,h2,h3,h4⟩ | ⟨h1,h2,ob,h3,h4⟩
 ·left
  unfold mB
  rw[bF,hφ]
  by_cases hc: (μ.φ r).cap=0
  ·exact⟨h1,h2,h3,.inl hc⟩
  ·rcases h4 with h4| ⟨c,T,vs,k1,k2,k3,k4⟩
   ·exact absurd h4 hc
   ·exact⟨h1,h2,h3,.inr ⟨c,T,vs,by rw[hb hc];exact k1,k2,ag.mono le k3,k4.bS (hb hc)⟩⟩
 ·right
  unfold uq
  rw[bF,hφ]
  exact⟨h1,h2,ob,by rw[hb h2];exact h3,h4.mono le⟩
structure Ik (w0:World) (Ti:Nat→Prop) (μ:Mu):Prop where
 size:w0.heap.size≤μ.w.heap.size
 bS: ∀b,b<w0.heap.size→ ¬Ti b→μ.w.heap[b]? =w0.heap[b]? ∧ ¬μ.own b
 os:μ.w.os=w0.os
 output:μ.w.output=w0.output
 tape:μ.w.tape=w0.tape
 frozen: ∀a:Addr,a.block<w0.heap.size→μ.w.frozen? a=w0.frozen? a
theorem Ik.step {w0:World} {Ti:Nat→Prop} {μ μ':Mu} (h:Ik w0 Ti μ) (k:Le μ μ'):Ik w0 Ti μ' where
 size:=agm h.size k.size
 bS:=fun i hi ho=>by
  obtain⟨h1,h2⟩:=h.bS i hi ho
  obtain⟨k1,k2⟩:=k.bS i (af9 hi h.size) h2
  exact⟨k1.trans h1,k2⟩
 os:=k.os.trans h.os
 output:=k.output.trans h.output
 tape:=k.tape.trans h.tape
 frozen:=fun x hx=> (k.frozen x (af9 hx h.size)).trans (h.frozen x hx)
theorem aj.oA {X:Ctx} {μ:Mu} {x:V} {v:Value} (h:aj X μ x v) (hc:x.aR=true):v.oneCell'=true∧v.cells= #[v]:=by
 cases x<;>simp[V.aR] at hc<;>simp only[aj] at h
 case bool=>subst h;exact⟨rfl,rfl⟩
 case int=>subst h;exact⟨rfl,rfl⟩
 case float=>subst h;exact⟨rfl,rfl⟩
 case str=>obtain⟨_,rfl,_⟩:=h;exact⟨rfl,rfl⟩
 case nilp=>subst h;exact⟨rfl,rfl⟩
 case nilfn=>subst h;exact⟨rfl,rfl⟩
 case nili=>subst h;exact⟨rfl,rfl⟩
 case fn=>obtain⟨_,_,rfl,_⟩:=h;exact⟨rfl,rfl⟩
 case bfn=>obtain⟨_,_,rfl,_⟩:=h;exact⟨rfl,rfl⟩
 case iface=>obtain⟨_,_,rfl,_⟩:=h;exact⟨rfl,rfl⟩
 case nils=>obtain⟨_,rfl⟩:=h;exact⟨rfl,rfl⟩
 case lit=>obtain⟨_,_,_,_,_,rfl,_⟩:=h;exact⟨rfl,rfl⟩
 case sl=>obtain⟨_,_,rfl,_⟩:=h;exact⟨rfl,rfl⟩
 case ptr=>obtain⟨_,rfl,_⟩:=h;exact⟨rfl,rfl⟩
 case eptr=>obtain⟨_,_,_,_,_,_,rfl,_⟩:=h;exact⟨rfl,rfl⟩
 case litk=>obtain⟨_,_,_,_,_,rfl,_⟩:=h;exact⟨rfl,rfl⟩
 case epk=>obtain⟨_,_,_,rfl,_⟩:=h;exact⟨rfl,rfl⟩
 case mp=>obtain⟨_,rfl,_⟩:=h;exact⟨rfl,rfl⟩
 case it=>obtain⟨_,rfl,_⟩:=h;exact⟨rfl,rfl⟩
 case mlit=>obtain⟨_,⟨_,rfl⟩ | ⟨_,_,_,rfl,_⟩⟩:=h<;>exact⟨rfl,rfl⟩
theorem V.iq {x:V} (h:x.aR=true):x.cells=[x]:=by
 cases x<;>simp_all[V.aR,V.cells]
theorem aj.cells {X:Ctx} {μ:Mu} {x:V} {v:Value} (h:aj X μ x v) (hl:x.da=true):ag X μ x.cells v.cells.toList:=by
 simp only[V.da,aht] at hl
 rcases hl with hl| hl
 ·cases x<;>simp[V.isAgg] at hl
  simp only[aj] at h
  obtain⟨_,vs,rfl,h2⟩:=h
  exact h2
 ·rw[(h.oA hl).2,V.iq hl]
  simp[ag,h]
theorem aj.fp {X:Ctx} {μ:Mu} {x:V} {v:Value} (h:aj X μ x v) (hl:x.da=true):v.cells.size=x.cells.length:=by
 have:=(h.cells hl).length
 simpa using this.symm
theorem aj.kL {X:Ctx} {μ:Mu} {x:V} {v:Value} (h:aj X μ x v) (hl:x.da=true):x.cells.all V.aR=true:=by
 simp only[V.da,aht] at hl
 rcases hl with hl| hl
 ·cases x<;>simp[V.isAgg] at hl
  simp only[aj] at h
  exact h.1
 ·rw[V.iq hl];simp[hl]
end Go.AM
namespace Go.AM
open Go Go.RowKit
theorem aw {α:Type} (f:Nat→α) (t:Nat) (v:α):cU f t v t=v:=by simp[cU]
theorem aW {α:Type} (f:Nat→α) {t n:Nat} (v:α) (h:n≠t):cU f t v n=f n:=by simp[cU,h]
theorem di.F1 {w:World} {b off sz:Nat} {vs:List Value} {c:Array Value} {T:TypeId} {fr:Nat×Nat} (hb:w.heap[b]? =some (.cells c T fr))
  (h: ∀i v,vs[i]? =some v→v.cells.size=sz∧ ∀j x,v.cells[j]? =some x→c[off+i*sz+j]? =some x):di w b off sz vs:=by
 intro i v hv
 obtain⟨h1,h2⟩:=h i v hv
 refine⟨h1,fun j x hx=> ?_⟩
 simp[World.cell?,hb,h2 j x hx]
theorem di.PT {w:World} {b off sz:Nat} {vs:List Value} {c:Array Value} {T:TypeId} {fr:Nat×Nat} (hb:w.heap[b]? =some (.cells c T fr))
  (h:di w b off sz vs): ∀i v,vs[i]? =some v→v.cells.size=sz∧ ∀j x,v.cells[j]? =some x→c[off+i*sz+j]? =some x:=by
 intro i v hv
 obtain⟨h1,h2⟩:=h i v hv
 refine⟨h1,fun j x hx=> ?_⟩
 have:=h2 j x hx
 simpa [World.cell?,hb] using this
theorem F3 {μ:Mu} {r:Nat} {o:Obj} {w':World} (h:o.es.isSome=true→o.fz=false→(μ.O r).es.isSome=true∧(μ.O r).fz=false) {b:Nat}
  (hb: (⟨w',μ.φ,cU μ.O r o⟩:Mu).own b):μ.own b:=by
 obtain⟨r',h1,h2,h3,h4⟩:=hb
 by_cases e:r'=r
 ·subst e
  simp only[aw] at h1 h2
  obtain⟨k1,k2⟩:=h h1 h2
  exact⟨r',k1,k2,h3,h4⟩
 ·simp only[aW _ _ e] at h1 h2
  exact⟨r',h1,h2,h3,h4⟩
theorem ba.sE {X:Ctx} {μ μ':Mu} (ho:ba X μ) (le:Le μ μ') (hO:μ'.O=μ.O) (hφ:μ'.φ=μ.φ)
  (hb: ∀b,b<μ.w.heap.size→μ'.w.heap[b]? =μ.w.heap[b]?):ba X μ' where
 ok:=fun r es bo=>by
  rw[hO] at bo
  exact fR.bS le (ho.ok r es bo) (by rw[hO]) (by rw[hφ]) fun hc=>hb _ (fR.bV (ho.ok r es bo) hc)
 inj:=by unfold Inj;rw[hO,hφ];exact ho.inj
 sS:=by rw[hO,hφ];exact ho.sS
 blt:=fun b hb=>af9 (ho.blt b hb) le.size
theorem Le.drew {X:Ctx} {μ:Mu} (ho:ba X μ):Le μ ⟨μ.w.drew,μ.φ,μ.O⟩∧ba X ⟨μ.w.drew,μ.φ,μ.O⟩:=by
 have le:Le μ ⟨μ.w.drew,μ.φ,μ.O⟩:=
  ⟨af6 _,fun _ _ h=> ⟨rfl,h⟩,fun _=>af6 _,fun _ _=> ⟨rfl,rfl⟩,rfl,rfl,rfl,fun _ _=>rfl⟩
 exact⟨le,ho.sE le rfl rfl fun _ _=>rfl⟩
theorem Dp {X:Ctx} {μ:Mu} (ho:ba X μ) (r sz cap:Nat) (arr:Bool) {es:List V} {vs:List Value} {c:Array Value} (T:TypeId) (bF:0 <sz)
  (cM:es.length≤cap) (jM:es.all (aU · sz)=true) (bl:ag X μ es vs) (hc:cap*sz≤c.size)
  (dg: ∀i v,vs[i]? =some v→v.cells.size=sz∧ ∀j x,v.cells[j]? =some x→c[i*sz+j]? =some x):
  let μ':Mu:=⟨μ.w.alloc (.cells c T (0,0)),cU μ.φ r ⟨μ.w.heap.size,0,cap⟩,cU μ.O r {gen:=(μ.O r).gen+1,sz:=sz,arr:=arr,fz:=false,es:=some es}⟩
  Le μ μ'∧ba X μ':=by
 intro μ'
 have j5: ∀b,b<μ.w.heap.size→μ'.w.heap[b]? =μ.w.heap[b]? :=fun b hb=>heap_alloc_old _ _ _ hb
 have mC:μ'.w.heap.size=μ.w.heap.size+1:=Array.size_push _
 have pS:μ'.w.heap[μ.w.heap.size]? =some (.cells c T (0,0)):=heap_alloc_new _ _
 have le:Le μ μ':=by
  refine⟨ae0,fun b hb gR=> ⟨j5 b hb,?_⟩,fun r'=> ?_,fun r' e=> ?_,rfl,rfl,rfl,fun a ha=> ?_⟩
  ·rintro⟨r',h1,h2,h3,h4⟩
   by_cases e:r'=r
   ·subst e
    simp only[μ',aw] at h4
    omega
   ·simp only[μ',aW _ _ e] at h1 h2 h3 h4
    exact gR ⟨r',h1,h2,h3,h4⟩
  ·by_cases e:r'=r
   ·subst e;simp[μ',aw]
   ·simp[μ',aW _ _ e]
  ·by_cases e':r'=r
   ·subst e';simp[μ',aw] at e
   ·simp[μ',aW _ _ e']
  ·simp only[World.frozen?,j5 a.block ha]
 refine⟨le,fun r' es' fm=> ?_,fun r1 r2 cF h1 h2 h3 h4=> ?_,fun r' h1 h2 hb=> ?_,fun b hb=>af9 (ho.blt b hb) le.size⟩
 rotate_left 2
 ·by_cases e:r'=r
  ·subst e
   simp only[μ',aw] at hb
   have:=ho.blt _ hb
   omega
  ·simp only[μ',aW _ _ e] at h1 h2 hb
   exact ho.sS r' h1 h2 hb
 ·by_cases e:r'=r
  ·subst e
   simp only[μ',aw] at fm ⊢
   injection fm with fm
   subst fm
   refine .inl ?_
   unfold mB
   simp only[μ',aw]
   refine⟨bF,cM,jM,.inr ⟨c,T,vs,pS,by simpa using hc,ag.mono le bl,di.F1 pS ?_⟩⟩
   simpa using dg
  ·have hO:μ'.O r'=μ.O r':=by simp[μ',aW _ _ e]
   have hφ:μ'.φ r'=μ.φ r':=by simp[μ',aW _ _ e]
   rw[hO] at fm
   exact fR.bS le (ho.ok r' es' fm) (by rw[hO]) hφ fun hc=>j5 _ (fR.bV (ho.ok r' es' fm) hc)
 ·have hold: ∀r',r'≠r→(μ.O r').es.isSome=true→(μ.φ r').cap≠0→(μ.φ r').bV<μ.w.heap.size:=fun r' _ hs Co=>by
   obtain⟨es',he⟩:=af8.1 hs
   exact fR.bV (ho.ok r' es' he) Co
  by_cases e1:r1=r
  ·subst e1
   have e2:r2≠r1:=fun e=>cF e.symm
   simp only[μ',aw,aW _ _ e2] at h1 h2 h3 h4 ⊢
   have:=hold r2 e2 h2 h4
   omega
  ·by_cases e2:r2=r
   ·subst e2
    simp only[μ',aw,aW _ _ e1] at h1 h2 h3 h4 ⊢
    have:=hold r1 e1 h1 h3
    omega
   ·simp only[μ',aW _ _ e1,aW _ _ e2] at h1 h2 h3 h4 ⊢
    exact ho.inj r1 r2 cF h1 h2 h3 h4
theorem LO {X:Ctx} {μ:Mu} (ho:ba X μ) (r sz:Nat) (bF:0 <sz):
  let μ':Mu:=⟨μ.w,cU μ.φ r ⟨0,0,0⟩,cU μ.O r {gen:=(μ.O r).gen+1,sz:=sz,arr:=true,fz:=false,es:=some []}⟩
  Le μ μ'∧ba X μ':=by
 intro μ'
 have le:Le μ μ':=by
  refine⟨af6 _,fun b hb gR=> ⟨rfl,?_⟩,fun r'=> ?_,fun r' e=> ?_,rfl,rfl,rfl,fun _ _=>rfl⟩
  ·rintro⟨r',h1,h2,h3,h4⟩
   by_cases e:r'=r
   ·subst e
    simp only[μ',aw] at h3
    exact h3 rfl
   ·simp only[μ',aW _ _ e] at h1 h2 h3 h4
    exact gR ⟨r',h1,h2,h3,h4⟩
  ·by_cases e:r'=r
   ·subst e;simp[μ',aw]
   ·simp[μ',aW _ _ e]
  ·by_cases e':r'=r
   ·subst e';simp[μ',aw] at e
   ·simp[μ',aW _ _ e']
 refine⟨le,fun r' es' fm=> ?_,fun r1 r2 cF h1 h2 h3 h4=> ?_,fun r' h1 h2 hb=> ?_,ho.blt⟩
 ·by_cases e:r'=r
  ·subst e
   simp only[μ',aw] at fm
   injection fm with fm
   subst fm
   refine .inl ?_
   unfold mB
   simp only[μ',aw]
   exact⟨bF,af6 _,rfl,.inl afU⟩
  ·have hO:μ'.O r'=μ.O r':=by simp[μ',aW _ _ e]
   have hφ:μ'.φ r'=μ.φ r':=by simp[μ',aW _ _ e]
   rw[hO] at fm
   exact fR.bS le (ho.ok r' es' fm) (by rw[hO]) hφ fun _=>rfl
 ·have e1:r1≠r:=by
   intro e;subst e
   simp only[μ',aw] at h3
   exact h3 rfl
  have e2:r2≠r:=by
   intro e;subst e
   simp only[μ',aw] at h4
   exact h4 rfl
  simp only[μ',aW _ _ e1,aW _ _ e2] at h1 h2 h3 h4 ⊢
  exact ho.inj r1 r2 cF h1 h2 h3 h4
 ·have e:r'≠r:=by
   intro e;subst e
   simp only[μ',aw] at h2
   exact h2 rfl
  simp only[μ',aW _ _ e] at h1 h2 hb
  exact ho.sS r' h1 h2 hb
theorem Tj {X:Ctx} {μ:Mu} (ho:ba X μ) {r r1:Nat} (cF:r1≠r):
  let μ':Mu:=⟨μ.w,cU μ.φ r (μ.φ r1),cU (cU μ.O r ⟨(μ.O r).gen+1,(μ.O r1).sz,(μ.O r1).arr,(μ.O r1).fz,(μ.O r1).es⟩) r1 ⟨(μ.O r1).gen+1,(μ.O r1).sz,(μ.O r1).arr,(μ.O r1).fz,none⟩⟩
  Le μ μ'∧ba X μ':=by
 intro μ'
 have zz:r≠r1:=ag8 cF
 have Wj:μ'.O r1=⟨(μ.O r1).gen+1,(μ.O r1).sz,(μ.O r1).arr,(μ.O r1).fz,none⟩:=by simp[μ',aw]
 have hOr:μ'.O r=⟨(μ.O r).gen+1,(μ.O r1).sz,(μ.O r1).arr,(μ.O r1).fz,(μ.O r1).es⟩:=by simp[μ',aW _ _ zz,aw]
 have hφr:μ'.φ r=μ.φ r1:=by simp[μ',aw]
 have hO: ∀r',r'≠r→r'≠r1→μ'.O r'=μ.O r':=fun r' h1 h2=>by simp[μ',aW _ _ h1,aW _ _ h2]
 have hφ: ∀r',r'≠r→μ'.φ r'=μ.φ r':=fun r' h1=>by simp[μ',aW _ _ h1]
 have jd: ∀b,μ'.own b→μ.own b:=by
  rintro b ⟨r',h1,h2,h3,h4⟩
  by_cases e1:r'=r1
  ·subst e1;rw[Wj] at h1;simp at h1
  ·by_cases e:r'=r
   ·subst e
    rw[hOr] at h1 h2
    rw[hφr] at h3 h4
    exact⟨r1,h1,h2,h3,h4⟩
   ·rw[hO _ e e1] at h1 h2
    rw[hφ _ e] at h3 h4
    exact⟨r',h1,h2,h3,h4⟩
 have le:Le μ μ':=by
  refine⟨af6 _,fun b hb gR=> ⟨rfl,fun h=>gR (jd b h)⟩,fun r'=> ?_,fun r' e=> ?_,rfl,rfl,rfl,fun _ _=>rfl⟩
  ·by_cases e1:r'=r1
   ·subst e1;rw[Wj];simp
   ·by_cases e:r'=r
    ·subst e;rw[hOr];simp
    ·rw[hO _ e e1];exact af6 _
  ·by_cases e1:r'=r1
   ·subst e1;rw[Wj] at e;simp at e
   ·by_cases e2:r'=r
    ·subst e2;rw[hOr] at e;simp at e
    ·rw[hO _ e2 e1,hφ _ e2];exact⟨rfl,rfl⟩
 refine⟨le,fun r' es' fm=> ?_,fun r2 r3 aaX h1 h2 h3 h4=> ?_,fun r' h1 h2 hb=> ?_,ho.blt⟩
 ·by_cases e1:r'=r1
  ·subst e1;rw[Wj] at fm;simp at fm
  ·by_cases e:r'=r
   ·subst e
    rw[hOr] at fm
    exact fR.bS (r:=r1) le (ho.ok r1 es' fm) (by rw[hOr]) hφr fun _=>rfl
   ·rw[hO _ e e1] at fm
    exact fR.bS le (ho.ok r' es' fm) (by rw[hO _ e e1]) (hφ _ e) fun _=>rfl
 ·have ne1:r2≠r1:=by intro e;subst e;rw[Wj] at h1;simp at h1
  have ne2:r3≠r1:=by intro e;subst e;rw[Wj] at h2;simp at h2
  by_cases e2:r2=r
  ·subst e2
   have e3:r3≠r2:=ag8 aaX
   rw[hOr] at h1
   rw[hO _ e3 ne2] at h2
   rw[hφr] at h3 ⊢
   rw[hφ _ e3] at h4 ⊢
   exact ho.inj r1 r3 (ag8 ne2) h1 h2 h3 h4
  ·rw[hO _ e2 ne1] at h1
   rw[hφ _ e2] at h3 ⊢
   by_cases e3:r3=r
   ·subst e3
    rw[hOr] at h2
    rw[hφr] at h4 ⊢
    exact ho.inj r2 r1 ne1 h1 h2 h3 h4
   ·rw[hO _ e3 ne2] at h2
    rw[hφ _ e3] at h4 ⊢
    exact ho.inj r2 r3 aaX h1 h2 h3 h4
 ·have ne1:r'≠r1:=by intro e;subst e;rw[Wj] at h1;simp at h1
  by_cases e:r'=r
  ·subst e
   rw[hOr] at h1
   rw[hφr] at h2 hb
   exact ho.sS r1 h1 h2 hb
  ·rw[hO _ e ne1] at h1
   rw[hφ _ e] at h2 hb
   exact ho.sS r' h1 h2 hb
theorem kU {X:Ctx} {μ:Mu} (ho:ba X μ) (r:Nat) {es:List V} {c:Array Value} {T:TypeId} (bo: (μ.O r).es=some es) (gu: (μ.O r).fz=false)
  (hb:μ.w.heap[(μ.φ r).bV]? =some (.cells c T (0,0))) (il: (μ.φ r).cap≠0)
  {c':Array Value} (hc:c'.size=c.size) (Wk J2 LP:Nat) {es':List V} {vs':List Value}
  (hg: (Wk=(μ.O r).gen∧J2=(μ.φ r).base∧LP=(μ.φ r).cap)∨(μ.O r).gen<Wk) (afv:LP≠0)
  (hlen:es'.length≤LP) (jM:es'.all (aU · (μ.O r).sz)=true) (bl:ag X μ es' vs') (lM:J2+LP*(μ.O r).sz≤c.size)
  (dg: ∀i v,vs'[i]? =some v→v.cells.size=(μ.O r).sz∧ ∀j x,v.cells[j]? =some x→c'[J2+i*(μ.O r).sz+j]? =some x):
  let μ':Mu:=⟨μ.w.setRow (μ.φ r).bV c',cU μ.φ r ⟨(μ.φ r).bV,J2,LP⟩,cU μ.O r {μ.O r with gen:=Wk,es:=some es'}⟩
  Le μ μ'∧ba X μ':=by
 intro μ'
 have pS:μ'.w.heap[(μ.φ r).bV]? =some (.cells c' T (0,0)):=setRow_heap _ _ _ _ _ _ hb
 have sF: ∀b,b≠(μ.φ r).bV→μ'.w.heap[b]? =μ.w.heap[b]? :=fun b cF=>setRow_other _ _ _ _ cF
 have mC:μ'.w.heap.size=μ.w.heap.size:=by simp[μ',World.setRow]
 have bk: (μ.φ r).bV<μ.w.heap.size:=(af1.1 hb).1
 have jd:μ.own (μ.φ r).bV:=⟨r,by simp[bo],gu,il,rfl⟩
 have le:Le μ μ':=by
  refine⟨ae0,fun b kI gR=> ⟨sF b (fun e=>gR (e ▸ jd)),?_⟩,fun r'=> ?_,fun r' e=> ?_,rfl,rfl,rfl,fun a ha=> ?_⟩
  ·rintro⟨r',h1,h2,h3,h4⟩
   by_cases e:r'=r
   ·subst e
    simp only[μ',aw] at h4
    exact gR (h4 ▸ jd)
   ·simp only[μ',aW _ _ e] at h1 h2 h3 h4
    exact gR ⟨r',h1,h2,h3,h4⟩
  ·by_cases e:r'=r
   ·subst e;simp only[μ',aw];omega
   ·simp[μ',aW _ _ e]
  ·by_cases e':r'=r
   ·subst e'
    simp only[μ',aw] at e ⊢
    rcases hg with⟨_,g2,g3⟩ | hg
    ·subst g2;subst g3;exact⟨rfl,trivial⟩
    ·omega
   ·simp[μ',aW _ _ e']
  ·by_cases e:a.block=(μ.φ r).bV
   ·simp only[World.frozen?,e,pS,hb]
   ·simp only[World.frozen?,sF _ e]
 refine⟨le,fun r' Ar sG=> ?_,fun r1 r2 cF h1 h2 h3 h4=> ?_,fun r' h1 h2 hb=> ?_,fun b hb=>af9 (ho.blt b hb) le.size⟩
 rotate_left 2
 ·by_cases e:r'=r
  ·subst e
   simp only[μ',aw] at hb
   exact ho.sS r' (by simp[bo]) il hb
  ·simp only[μ',aW _ _ e] at h1 h2 hb
   exact ho.sS r' h1 h2 hb
 ·by_cases e:r'=r
  ·subst e
   have bF:0 < (μ.O r').sz:=by
    rcases ho.ok r' es bo with⟨h,_⟩ | ⟨_,_,ob,hm,D4⟩
    ·exact h
    ·rw[hb] at hm;injection hm with hm;subst hm
     rcases D4 with⟨_,_,h,_⟩ | ⟨_,_,h,_⟩ | ⟨_,_,_,h,_⟩ <;>cases h
   simp only[μ',aw] at sG
   injection sG with sG
   subst sG
   refine .inl ?_
   unfold mB
   simp only[μ',aw]
   exact⟨bF,hlen,jM,.inr ⟨c',T,vs',pS,ae0,ag.mono le bl,di.F1 pS dg⟩⟩
  ·have hO:μ'.O r'=μ.O r':=by simp[μ',aW _ _ e]
   have hφ:μ'.φ r'=μ.φ r':=by simp[μ',aW _ _ e]
   rw[hO] at sG
   exact fR.bS le (ho.ok r' Ar sG) (by rw[hO]) hφ fun hcr=>sF _ (ho.inj r' r e (by simp[sG]) (by simp[bo]) hcr il)
 ·have hs: ∀x,(μ'.O x).es.isSome=true→(μ.O x).es.isSome=true:=fun x hx=>by
   by_cases e:x=r
   ·subst e;simp[bo]
   ·simpa [μ',aW _ _ e] using hx
  have np: ∀x,(μ'.φ x).cap≠0→(μ.φ x).cap≠0:=fun x hx=>by
   by_cases e:x=r
   ·subst e;exact il
   ·simpa [μ',aW _ _ e] using hx
  have xO: ∀x,(μ'.φ x).bV=(μ.φ x).bV:=fun x=>by
   by_cases e:x=r
   ·subst e;simp[μ',aw]
   ·simp[μ',aW _ _ e]
  rw[xO,xO]
  exact ho.inj r1 r2 cF (hs _ h1) (hs _ h2) (np _ h3) (np _ h4)
theorem oB {X:Ctx} {μ:Mu} (ho:ba X μ) (r:Nat):
  let μ':Mu:=⟨μ.w,μ.φ,cU μ.O r {μ.O r with fz:=true}⟩
  Le μ μ'∧ba X μ':=by
 intro μ'
 have cE: ∀x,(μ'.O x).gen=(μ.O x).gen∧(μ'.O x).sz=(μ.O x).sz∧(μ'.O x).es=(μ.O x).es:=fun x=>by
  by_cases e:x=r
  ·subst e;simp[μ',aw]
  ·simp[μ',aW _ _ e]
 have le:Le μ μ':=
  ⟨af6 _,fun b hb h=> ⟨rfl,fun kI=>h (F3 (r:=r) (w':=μ.w) afU kI)⟩,fun x=>by rw[(cE x).1];exact af6 _,fun x _=> ⟨rfl,(cE x).2.1⟩,rfl,rfl,rfl,fun _ _=>rfl⟩
 refine⟨le,fun x es bo=> ?_,fun r1 r2 cF h1 h2 h3 h4=> ?_,fun x h1 h2 hb=>ho.sS x (by rw[(cE x).2.2] at h1;exact h1) h2 hb,ho.blt⟩
 ·rw[(cE x).2.2] at bo
  exact fR.bS le (ho.ok x es bo) (cE x).2.1 rfl fun _=>rfl
 ·rw[(cE r1).2.2] at h1
  rw[(cE r2).2.2] at h2
  exact ho.inj r1 r2 cF h1 h2 h3 h4
theorem LQ {X:Ctx} {μ:Mu} (ho:ba X μ) (r:Nat) {es':List V} (h0: (μ.O r).es.isSome=true) (bF:0 < (μ.O r).sz) (hl:es'.length≤(μ.φ r).cap) (jM:es'.all (aU · (μ.O r).sz)=true)
  (hc: (μ.φ r).cap=0∨ ∃c T vs,μ.w.heap[(μ.φ r).bV]? =some (.cells c T (0,0))∧(μ.φ r).base+(μ.φ r).cap*(μ.O r).sz≤c.size∧ag X μ es' vs∧
    di μ.w (μ.φ r).bV (μ.φ r).base (μ.O r).sz vs):
  let μ':Mu:=⟨μ.w,μ.φ,cU μ.O r {μ.O r with es:=some es'}⟩
  Le μ μ'∧ba X μ':=by
 intro μ'
 have cE: ∀x,(μ'.O x).gen=(μ.O x).gen∧(μ'.O x).sz=(μ.O x).sz∧(μ'.O x).es.isSome=(μ.O x).es.isSome∧(μ'.O x).fz=(μ.O x).fz:=fun x=>by
  by_cases e:x=r
  ·subst e;simp[μ',aw,h0]
  ·simp[μ',aW _ _ e]
 have jd: ∀b,μ'.own b→μ.own b:=by
  rintro b ⟨r',h1,h2,h3,h4⟩
  rw[(cE r').2.2.1] at h1
  rw[(cE r').2.2.2] at h2
  exact⟨r',h1,h2,h3,h4⟩
 have le:Le μ μ':=
  ⟨af6 _,fun b hb h=> ⟨rfl,fun kI=>h (jd b kI)⟩,fun x=>by rw[(cE x).1];exact af6 _,fun x _=> ⟨rfl,(cE x).2.1⟩,rfl,rfl,rfl,fun _ _=>rfl⟩
 refine⟨le,fun x es bo=> ?_,fun r1 r2 cF h1 h2 h3 h4=> ?_,fun x h1 h2 hb=>ho.sS x (by rw[(cE x).2.2.1] at h1;exact h1) h2 hb,ho.blt⟩
 ·by_cases e:x=r
  · subst e
    have:es=es':=by simp[μ',aw] at bo;exact bo.symm
    subst this
    refine .inl ?_
    unfold mB
    rw[(cE x).2.1]
    refine⟨bF,hl,jM,hc.imp id ?_⟩
    rintro⟨c,T,vs,q1,q2,q3,q4⟩
    exact⟨c,T,vs,q1,q2,ag.mono le q3,q4⟩
  · have hx:μ'.O x=μ.O x:=by simp[μ',aW _ _ e]
    rw[hx] at bo
    exact fR.bS le (ho.ok x es bo) (by rw[hx]) rfl fun _=>rfl
 ·rw[(cE r1).2.2.1] at h1
  rw[(cE r2).2.2.1] at h2
  exact ho.inj r1 r2 cF h1 h2 h3 h4
theorem zA {X:Ctx} {μ:Mu} (ho:ba X μ) (r:Nat) (ob:Go.Obj) (es:List V) (D4:oz X μ ob es):
  let μ':Mu:=⟨μ.w.alloc ob,cU μ.φ r ⟨μ.w.heap.size,0,1⟩,cU μ.O r {gen:=(μ.O r).gen+1,sz:=0,arr:=false,fz:=false,es:=some es}⟩
  Le μ μ'∧ba X μ':=by
 intro μ'
 have j5: ∀b,b<μ.w.heap.size→μ'.w.heap[b]? =μ.w.heap[b]? :=fun b hb=>heap_alloc_old _ _ _ hb
 have mC:μ'.w.heap.size=μ.w.heap.size+1:=Array.size_push _
 have pS:μ'.w.heap[μ.w.heap.size]? =some ob:=heap_alloc_new _ _
 have le:Le μ μ':=by
  refine⟨ae0,fun b hb gR=> ⟨j5 b hb,?_⟩,fun r'=> ?_,fun r' e=> ?_,rfl,rfl,rfl,fun a ha=> ?_⟩
  ·rintro⟨r',h1,h2,h3,h4⟩
   by_cases e:r'=r
   ·subst e
    simp only[μ',aw] at h4
    omega
   ·simp only[μ',aW _ _ e] at h1 h2 h3 h4
    exact gR ⟨r',h1,h2,h3,h4⟩
  ·by_cases e:r'=r
   ·subst e;simp[μ',aw]
   ·simp[μ',aW _ _ e]
  ·by_cases e':r'=r
   ·subst e';simp[μ',aw] at e
   ·simp[μ',aW _ _ e']
  ·simp only[World.frozen?,j5 a.block ha]
 refine⟨le,fun r' es' fm=> ?_,fun r1 r2 cF h1 h2 h3 h4=> ?_,fun r' h1 h2 hb=> ?_,fun b hb=>af9 (ho.blt b hb) le.size⟩
 rotate_left 2
 ·by_cases e:r'=r
  ·subst e
   simp only[μ',aw] at hb
   have:=ho.blt _ hb
   omega
  ·simp only[μ',aW _ _ e] at h1 h2 hb
   exact ho.sS r' h1 h2 hb
 ·by_cases e:r'=r
  ·subst e
   simp only[μ',aw] at fm
   injection fm with fm
   subst fm
   refine .inr ?_
   unfold uq
   simp only[μ',aw]
   exact⟨trivial,afU,ob,pS,D4.mono le⟩
  ·have hO:μ'.O r'=μ.O r':=by simp[μ',aW _ _ e]
   have hφ:μ'.φ r'=μ.φ r':=by simp[μ',aW _ _ e]
   rw[hO] at fm
   exact fR.bS le (ho.ok r' es' fm) (by rw[hO]) hφ fun hc=>j5 _ (fR.bV (ho.ok r' es' fm) hc)
 ·have hold: ∀r',r'≠r→(μ.O r').es.isSome=true→(μ.φ r').cap≠0→(μ.φ r').bV<μ.w.heap.size:=fun r' _ hs Co=>by
   obtain⟨es',he⟩:=af8.1 hs
   exact fR.bV (ho.ok r' es' he) Co
  by_cases e1:r1=r
  ·subst e1
   have e2:r2≠r1:=fun e=>cF e.symm
   simp only[μ',aw,aW _ _ e2] at h1 h2 h3 h4 ⊢
   have:=hold r2 e2 h2 h4
   omega
  ·by_cases e2:r2=r
   ·subst e2
    simp only[μ',aw,aW _ _ e1] at h1 h2 h3 h4 ⊢
    have:=hold r1 e1 h1 h3
    omega
   ·simp only[μ',aW _ _ e1,aW _ _ e2] at h1 h2 h3 h4 ⊢
    exact ho.inj r1 r2 cF h1 h2 h3 h4
theorem gv {X:Ctx} {μ:Mu} (ho:ba X μ) (r:Nat) {es es':List V} {ob ob':Go.Obj} (bo: (μ.O r).es=some es) (gu: (μ.O r).fz=false) (bF: (μ.O r).sz=0)
  (hb:μ.w.heap[(μ.φ r).bV]? =some ob) (il: (μ.φ r).cap≠0) (D4:oz X μ ob es) (aaY:oz X μ ob' es'):
  let μ':Mu:=⟨{μ.w with heap:=μ.w.heap.set! (μ.φ r).bV ob'},μ.φ,cU μ.O r {μ.O r with es:=some es'}⟩
  Le μ μ'∧ba X μ':=by
 intro μ'
 have bk: (μ.φ r).bV<μ.w.heap.size:=(af1.1 hb).1
 have pS:μ'.w.heap[(μ.φ r).bV]? =some ob':=by simp[μ',ag1,bk]
 have sF: ∀b,b≠(μ.φ r).bV→μ'.w.heap[b]? =μ.w.heap[b]? :=fun b cF=>by simp[μ',ag1,ag8 cF]
 have mC:μ'.w.heap.size=μ.w.heap.size:=by simp[μ']
 have jd:μ.own (μ.φ r).bV:=⟨r,by simp[bo],gu,il,rfl⟩
 have mm: ∀x,(μ'.O x).gen=(μ.O x).gen∧(μ'.O x).sz=(μ.O x).sz∧(μ'.O x).fz=(μ.O x).fz∧(μ'.O x).es.isSome=(μ.O x).es.isSome:=fun x=>by
  by_cases e:x=r
  ·subst e;simp[μ',aw,bo]
  ·simp[μ',aW _ _ e]
 have Nt: ∀b,μ'.own b→μ.own b:=by
  rintro b ⟨r',h1,h2,h3,h4⟩
  rw[(mm r').2.2.2] at h1
  rw[(mm r').2.2.1] at h2
  exact⟨r',h1,h2,h3,h4⟩
 have le:Le μ μ':=by
  refine⟨ae0,fun b kI gR=> ⟨sF b (fun e=>gR (e ▸ jd)),fun h=>gR (Nt b h)⟩,fun r'=>by rw[(mm r').1];exact af6 _,fun r' _=> ⟨rfl,(mm r').2.1⟩,rfl,rfl,rfl,fun a ha=> ?_⟩
  by_cases e:a.block=(μ.φ r).bV
  ·rw[aaY.live a μ'.w (by rw[e];exact pS),D4.live a μ.w (by rw[e];exact hb)]
  ·simp only[World.frozen?,sF _ e]
 refine⟨le,fun r' Ar sG=> ?_,fun r1 r2 cF h1 h2 h3 h4=> ?_,fun r' h1 h2 hb=> ?_,fun b hb=>af9 (ho.blt b hb) le.size⟩
 ·by_cases e:r'=r
  ·subst e
   simp only[μ',aw] at sG
   injection sG with sG
   subst sG
   refine .inr ?_
   unfold uq
   rw[(mm r').2.1]
   exact⟨bF,il,ob',pS,aaY.mono le⟩
  ·have hO:μ'.O r'=μ.O r':=by simp[μ',aW _ _ e]
   rw[hO] at sG
   exact fR.bS le (ho.ok r' Ar sG) (by rw[hO]) rfl fun hcr=>sF _ (ho.inj r' r e (by simp[sG]) (by simp[bo]) hcr il)
 ·rw[(mm r1).2.2.2] at h1
  rw[(mm r2).2.2.2] at h2
  exact ho.inj r1 r2 cF h1 h2 h3 h4
 ·rw[(mm r').2.2.2] at h1
  exact ho.sS r' h1 h2 hb
end Go.AM
namespace Go.AM
open Go Go.RowKit
structure Rel (X:Ctx) (T:Nat→V) (a:Go.Act) (μ:Mu):Prop where
 tmps: ∀t,aj X μ (T t) (a.tmps.getD t undef)
 a8:ba X μ
def cT (X:Ctx) (o:Oper) (a:Go.Act) (μ:Mu) (O':Nat→Obj) (v:V):Prop:=
 ∃val w' φ',((execOp a.eval o).run X.P μ.w= .ok (.value val) w'∨((execOp a.eval o).run X.P μ.w= .ok .skip w'∧val=undef))∧
  aj X ⟨w',φ',O'⟩ v val∧Le μ ⟨w',φ',O'⟩∧ba X ⟨w',φ',O'⟩
theorem aN {X:Ctx} {o:Oper} {a:Go.Act} {μ:Mu} {v:V} {val:Value} (ho:ba X μ) (ah: (execOp a.eval o).run X.P μ.w= .ok (.value val) μ.w)
  (hv:aj X μ v val):cT X o a μ μ.O v:=
 ⟨val,μ.w,μ.φ,.inl ah,hv,Le.refl μ,ho⟩
theorem du {P:Program} {s:Sem Value} {w w':World} {val:Value} (h:s.run P w= .ok val w'): (do pure (Next.value (←s)):Sem Next).run P w= .ok (.value val) w':=by
 simp[Sem.run_bind,h]
theorem zB {P:Program} {s:Sem Unit} {w w':World} (h:s.run P w= .ok () w'): (do s;pure Next.skip:Sem Next).run P w= .ok .skip w':=by
 simp[Sem.run_bind,h]
theorem bz (C:bn) (x:aT) (k:V→Act) (σ:St): (ev x k).run C σ=(k (bu σ x)).run C σ:=by cases x<;>rfl
theorem oC (C:bn): ∀ (xs:List aT) (k:List V→Act) (σ:St),(evs xs k).run C σ=(k (xs.map (bu σ))).run C σ
 | [],_,_=>rfl
 | x::xs,k,σ=>by simp only[evs,bz,oC C xs,List.map_cons]
theorem Tk (C:bn) (x:Option aT) (k:Option V→Act) (σ:St): (Mw x k).run C σ=(k (x.map (bu σ))).run C σ:=by
 cases x with
 | none=>rfl
 | some x=>exact bz C x _ σ
theorem fD {C:bn} {r:Option V} {σ σ':St} {v:V} (h: (eC r).run C σ=some (v,σ')):r=some v∧σ'=σ:=by
 cases r with
 | none=>simp[eC,Act.run] at h
 | some u=>simp only[eC,Act.run,afY,af4] at h;exact⟨by rw[h.1],h.2.symm⟩
theorem aY {C:bn} {u v:V} {σ σ':St} (h: (Act.done u).run C σ=some (v,σ')):u=v∧σ'=σ:=by
 simp only[Act.run,afY,af4] at h;exact⟨h.1,h.2.symm⟩
theorem aq {C:bn} {p:V×St} {σ:St}: (Act.fail).run C σ≠some p:=by simp[Act.run]
theorem rH {X:Ctx} {μ:Mu} {v:Value} {c:V} (h:qO v=some c):aj X μ c v∧c.aR=true:=by
 unfold qO at h
 split at h<;>first
  | (injection h with h;subst h;simp[aj,V.aR,V.ak])
  | simp at h
theorem pT {X:Ctx} {μ:Mu}: ∀ {vs:List Value} {cs:List V},lL vs=some cs→ag X μ cs vs∧cs.all V.aR=true
 | [],cs,h=>by simp[lL] at h;subst h;simp[ag]
 | v::vs,cs,h=>by
   simp only[lL] at h
   split at h
   ·rename_i c cP h1 h2
    injection h with h;subst h
    obtain⟨a1,a2⟩:=rH (X:=X) (μ:=μ) h1
    obtain⟨b1,b2⟩:=pT (X:=X) (μ:=μ) h2
    simp[ag,a1,a2,b1,b2]
   ·simp at h
theorem eG {X:Ctx} {μ:Mu} {v:Value} {c:V} (h:zt v=some c):aj X μ c v∧c.da=true:=by
 unfold zt at h
 split at h
 ·rename_i cs
  simp only[afZ] at h
  obtain⟨l,h1,rfl⟩:=h
  obtain⟨a1,a2⟩:=pT (X:=X) (μ:=μ) h1
  simp[aj,V.da,V.isAgg,a1,a2]
 ·obtain⟨a1,a2⟩:=rH (X:=X) (μ:=μ) h
  exact⟨a1,by simp[V.da,a2]⟩
theorem aQ {X:Ctx} {μ:Mu} {T:Nat→V} {a:Go.Act} {x:Operand} {y:aT} (hr:Rel X T a μ) (h:dc X x=some y) (O:Nat→Obj):aj X μ (bu ⟨T,O⟩ y) (a.eval x):=by
 cases x with
 | tmp t=>simp[dc] at h;subst h;exact hr.tmps t
 | const v=>
   simp only[dc,afZ] at h
   obtain⟨c,h1,rfl⟩:=h
   exact(eG h1).1
 | global g=>simp[dc] at h
 | func f=>
   simp only[dc,afZ] at h
   obtain⟨n,h1,rfl⟩:=h
   simp only[bu,Go.Act.eval,aj]
   exact⟨f,#[],rfl,h1,by simp[ag]⟩
theorem nE {X:Ctx} {μ:Mu} {T:Nat→V} {a:Go.Act} (hr:Rel X T a μ) (O:Nat→Obj): ∀ {xs:List Operand} {ys:List aT},nD X xs=some ys→
   ag X μ (ys.map (bu ⟨T,O⟩)) (xs.map a.eval)
 | [],ys,h=>by simp[nD] at h;subst h;simp[ag]
 | x::xs,ys,h=>by
   simp only[nD] at h
   split at h
   ·rename_i b bs h1 h2
    injection h with h;subst h
    simp only[List.map_cons,ag]
    exact⟨aQ hr h1 O,nE hr O h2⟩
   ·simp at h
theorem Dt {X:Ctx} {μ:Mu} {e u:V} {x:Value} {off sz:Nat} (h:aj X μ e x) (hp:part true off sz e=some u):
  ∃cs,x= .agg cs∧off+sz≤cs.size∧aj X μ u (.agg (cs.extract off (off+sz))):=by
 cases e<;>simp[part] at hp
 rename_i cs
 obtain⟨h1,h2⟩:=hp
 subst h2
 simp only[aj] at h
 obtain⟨h0,vs,rfl,hv⟩:=h
 have hl:=hv.length
 simp at hl
 refine⟨vs,rfl,ae0,?_⟩
 simp only[aj]
 refine⟨?_,_,rfl,?_⟩
 ·simp only[af5] at h0 ⊢
  intro c hc
  exact h0 c (agF (agp hc))
 ·have:=ag.take sz (ag.drop off hv)
  simpa [aho,ag5] using this
theorem AK {X:Ctx} {μ:Mu} {e u:V} {x:Value} {off sz:Nat} (h:aj X μ e x) (hp:part false off sz e=some u):
  e.da=true∧ ∃c,x.cells[off]? =some c∧aj X μ u c:=by
 by_cases ha: ∃cs,e= .agg cs
 ·obtain⟨cs,rfl⟩:=ha
  simp only[part] at hp
  simp only[aj] at h
  obtain⟨h0,vs,rfl,hv⟩:=h
  obtain⟨c,h1,h2⟩:=hv.get hp
  exact⟨by simp[V.da,V.isAgg],c,by simpa [Value.cells] using h1,h2⟩
 ·have:part false off sz e=if e.aR∧off=0 then some e else none:=by
   cases e<;>first| rfl| exact absurd ⟨_,rfl⟩ ha
  rw[this] at hp
  split at hp
  ·rename_i hc
   injection hp with hp;subst hp
   refine⟨by simp[V.da,hc.1],x,?_,h⟩
   rw[(h.oA hc.1).2,hc.2];simp
  ·simp at hp
section
variable {X:Ctx} {h:Hints} {dst:Nat} {E:Env} {C:bn} {o:Oper} {a:Go.Act} {T:Nat→V} {μ:Mu} {v:V} {σ':St}
theorem ag.Cy {X:Ctx} {μ:Mu}: ∀ (ks:List Nat) {cs:List V} {vs:List Value},ag X μ cs vs→ag X μ (AM.Cy ks cs) vs
 | [],cs,vs,h=>by simpa [AM.Cy] using h
 | k::ks,[],vs,h=>by simpa [AM.Cy] using h
 | k::ks,c::cs,[],h=>by simp[ag] at h
 | k::ks,c::cs,v::vs,h=>by
   simp only[ag] at h
   simp only[AM.Cy,ag]
   refine⟨?_,ag.Cy ks h.2⟩
   split
   ·obtain⟨a,rfl⟩:=by simpa [aj] using h.1
    simp only[aj]
    exact⟨rfl,rfl,a,0,[],rfl,af6 _,by simp[ag],.inl trivial⟩
   ·exact h.1
theorem sH: ∀ (ks:List Nat) {cs:List V},cs.all V.aR=true→(AM.Cy ks cs).all V.aR=true
 | [],cs,h=>by simpa [AM.Cy] using h
 | k::ks,[],h=>by simp[AM.Cy]
 | k::ks,c::cs,h=>by
   simp only[agj,af2] at h
   simp only[AM.Cy,agj,af2]
   refine⟨?_,sH ks h.2⟩
   split
   ·rfl
   ·exact h.1
theorem aj.GN {X:Ctx} {μ:Mu} (ks:List Nat) {v:V} {val:Value} (h:aj X μ v val):aj X μ (AM.GN ks v) val:=by
 unfold AM.GN
 split
 ·simp only[aj] at h ⊢
  obtain⟨h1,vs,rfl,h2⟩:=h
  exact⟨sH ks h1,vs,rfl,h2.Cy ks⟩
 ·split
  ·obtain⟨a,rfl⟩:=by simpa [aj] using h
   simp only[aj]
   exact⟨rfl,rfl,a,0,[],rfl,af6 _,by simp[ag],.inl trivial⟩
  ·exact h
 ·exact h
theorem aj.Uq {X:Ctx} {μ:Mu} (ks:List Nat) {σ:St} {y:aT} {val:Value} (h:aj X μ (bu σ y) val):aj X μ (bu σ (AM.Uq ks y)) val:=by
 cases y with
 | tmp t=>exact h
 | const v=>exact aj.GN ks h
theorem Wl {x:Operand} {y:aT} (ks:List Nat) (hr:Rel X T a μ) (ho:o.op= .move x∨o.op= .assign x) (ht:dc X x=some y) (ah: (aH E (.move (Uq ks y))).run C ⟨T,μ.O⟩=some (v,σ')):
  σ'.T=T∧cT X o a μ σ'.O v:=by
 simp only[aH,bz] at ah
 obtain⟨rfl,rfl⟩:=aY ah
 refine⟨rfl,aN hr.a8 ?_ (aj.Uq ks (aQ hr ht _))⟩
 rcases ho with ho| ho<;>simp[execOp,ho]
theorem Ut {h:Hints} {dst:Nat} {x:Operand} {rj:sW} (hr:Rel X T a μ) (ho:o.op= .move x∨o.op= .assign x) (ht:zu X h dst x=some rj) (ah: (aH E rj).run C ⟨T,μ.O⟩=some (v,σ')):
  σ'.T=T∧cT X o a μ σ'.O v:=by
 unfold zu at ht
 split at ht
 ·rename_i r sz hn hb
  injection ht with ht;subst ht
  simp only[aH] at ah
  split at ah
  ·rename_i bF
   simp only[Act.run,afY,af4] at ah
   obtain⟨rfl,rfl⟩:=ah
   have hx:x= .const (.slice none 0 0):=by
    unfold isNil at hn
    split at hn
    ·rfl
    ·simp at hn
   subst hx
   obtain⟨le,uR⟩:=LO hr.a8 r sz bF
   refine⟨rfl,.slice none 0 0,μ.w,cU μ.φ r ⟨0,0,0⟩,.inl ?_,?_,le,uR⟩
   ·rcases ho with ho| ho<;>simp[execOp,ho,Go.Act.eval]
   ·simp only[aj,aw]
    exact⟨_,0,rfl,af6 _,af6 _,fun _=> ⟨bF,rfl,.inl rfl⟩⟩
  ·exact absurd ah aq
 ·split at ht
  ·rename_i r hrn
   simp only[afZ] at ht
   obtain⟨y,h1,rfl⟩:=ht
   simp only[aH,bz] at ah
   have bl:=aQ hr h1 μ.O
   have jl: (execOp a.eval o).run X.P μ.w= .ok (.value (a.eval x)) μ.w:=by rcases ho with ho| ho<;>simp[execOp,ho]
   split at ah
   ·rename_i r1 g off len he
    rw[he] at bl
    split at ah
    ·obtain⟨rfl,rfl⟩:=aY ah
     exact⟨rfl,aN hr.a8 jl bl⟩
    ·rename_i cF
     simp only[Act.run] at ah
     split at ah
     ·rename_i hg
      simp only[Act.run,afY,af4] at ah
      obtain⟨rfl,rfl⟩:=ah
      obtain⟨le,uR⟩:=Tj hr.a8 (r:=r) (r1:=r1) cF
      refine⟨rfl,a.eval x,μ.w,cU μ.φ r (μ.φ r1),.inl jl,?_,le,uR⟩
      simp only[aj] at bl ⊢
      obtain⟨ad,cap,k1,k2,k3,k4⟩:=bl
      obtain⟨k5,k6⟩:=k4 hg
      have zz:r≠r1:=fun e=>cF e.symm
      simp only[aW _ _ zz,aw]
      exact⟨ad,cap,k1,k2,af6 _,fun _=> ⟨k5,k6⟩⟩
     ·simp[Act.run] at ah
   ·obtain⟨rfl,rfl⟩:=aY ah
    exact⟨rfl,aN hr.a8 jl bl⟩
  ·simp only[afZ] at ht
   obtain⟨y,h1,rfl⟩:=ht
   exact Wl _ hr ho h1 ah
theorem Tl {c p q:Operand} {c' p' q':aT} (hr:Rel X T a μ) (ho:o.op= .pick c p q) (h1:dc X c=some c') (h2:dc X p=some p') (h3:dc X q=some q')
  (ah: (aH E (.pick c' p' q')).run C ⟨T,μ.O⟩=some (v,σ')):σ'.T=T∧cT X o a μ σ'.O v:=by
 simp only[aH,bz] at ah
 have hc:=aQ hr h1 μ.O
 split at ah
 ·rename_i e
  rw[e] at hc
  simp only[aj] at hc
  rw[bz] at ah
  obtain⟨rfl,rfl⟩:=aY ah
  refine⟨rfl,aN hr.a8 ?_ (aQ hr h2 _)⟩
  simp[execOp,ho,hc,asBool,Sem.run_bind]
 ·rename_i e
  rw[e] at hc
  simp only[aj] at hc
  rw[bz] at ah
  obtain⟨rfl,rfl⟩:=aY ah
  refine⟨rfl,aN hr.a8 ?_ (aQ hr h3 _)⟩
  simp[execOp,ho,hc,asBool,Sem.run_bind]
 ·exact absurd ah aq
theorem F4 {x:Operand} {y:aT} (hr:Rel X T a μ) (ho:o.op= .nilCheck x) (ht:dc X x=some y) (ah: (aH E (.nilCheck y)).run C ⟨T,μ.O⟩=some (v,σ')):
  σ'.T=T∧cT X o a μ σ'.O v:=by
 simp only[aH,bz] at ah
 have hx:=aQ hr ht μ.O
 split at ah
 ·rename_i e
  obtain⟨rfl,rfl⟩:=aY ah
  refine⟨rfl,aN hr.a8 ?_ (e ▸ hx)⟩
  rw[e] at hx
  simp only[aj] at hx
  obtain⟨p,hp,_⟩:=hx
  simp[execOp,ho,hp]
 ·rename_i e
  obtain⟨rfl,rfl⟩:=aY ah
  refine⟨rfl,aN hr.a8 ?_ (e ▸ hx)⟩
  rw[e] at hx
  simp only[aj] at hx
  obtain⟨_,_,b,o',sz,q,hp,_⟩:=hx
  simp[execOp,ho,hp]
 ·rename_i e
  obtain⟨rfl,rfl⟩:=aY ah
  refine⟨rfl,aN hr.a8 ?_ (e ▸ hx)⟩
  rw[e] at hx
  simp only[aj] at hx
  obtain⟨_,_,q,hp,_⟩:=hx
  simp[execOp,ho,hp]
 ·rename_i e
  obtain⟨rfl,rfl⟩:=aY ah
  refine⟨rfl,aN hr.a8 ?_ (e ▸ hx)⟩
  rw[e] at hx
  simp only[aj] at hx
  obtain⟨F,cv,hp,_⟩:=hx
  simp[execOp,ho,hp]
 ·rename_i e
  obtain⟨rfl,rfl⟩:=aY ah
  refine⟨rfl,aN hr.a8 ?_ (e ▸ hx)⟩
  rw[e] at hx
  simp only[aj] at hx
  obtain⟨F,cv,hp,_⟩:=hx
  simp[execOp,ho,hp]
 ·exact absurd ah aq
theorem Du {s:TypeId} {x:Operand} {i:Nat} {y:aT} {fs:Array Field} {f:Field} {n:Nat} (hr:Rel X T a μ) (ho:o.op= .fieldAddr s x i) (ht:dc X x=some y)
  (hd:bJ X s=some (.struct fs)) (hf:fs[i]? =some f) (hn:bO X f.type=some (n+1)) (ah: (aH E (.fieldAddr f.offset y)).run C ⟨T,μ.O⟩=some (v,σ')):
  σ'.T=T∧cT X o a μ σ'.O v:=by
 simp only[aH,bz] at ah
 have hx:=aQ hr ht μ.O
 have hi: ∃inf,X.P.info? f.type=some inf∧inf.size=n+1:=by
  simpa [bO,info] using hn
 obtain⟨inf,qA,FX⟩:=hi
 have bF:X.P.cellsOf f.type=n+1:=by simp[Program.cellsOf,qA,FX]
 have key: ∀p:Addr,a.eval x= .pointer (some p)→(execOp a.eval o).run X.P μ.w= .ok (.value (.pointer (some (p.add f.offset)))) μ.w:=fun p hp=>by
  simp only[execOp,ho]
  refine du ?_
  simp[Instr.fieldAt,Sem.run_bind,run_underlying hd,hf,Instr.sureAddr,hp,fieldPlace,run_sizeOf (w:=μ.w) qA,bF]
 have tE: ∀ (b q:Nat),(⟨b,q,none⟩:Addr).add f.offset=⟨b,q+f.offset,none⟩:=fun b q=>by unfold Addr.add;split<;>simp_all
 split at ah
 ·rename_i e
  obtain⟨rfl,rfl⟩:=aY ah
  rw[e] at hx
  simp only[aj] at hx
  obtain⟨p,hp,h1,h2⟩:=hx
  refine⟨rfl,aN hr.a8 (key p hp) ?_⟩
  simp only[aj]
  refine⟨_,rfl,h1,fun eg=> ⟨(h2 eg).1,?_⟩⟩
  rw[(h2 eg).2,tE];simp[ahy]
 ·rename_i e
  obtain⟨rfl,rfl⟩:=aY ah
  rw[e] at hx
  simp only[aj] at hx
  obtain⟨h0,jx,b,o',sz,q,hp,h1,h2,h3,h4⟩:=hx
  refine⟨rfl,aN hr.a8 (key _ hp) ?_⟩
  simp only[aj]
  exact⟨h0,jx,b,o',sz,q,by rw[tE];simp[ahy],h1,h2,h3,h4⟩
 ·rename_i e
  obtain⟨rfl,rfl⟩:=aY ah
  rw[e] at hx
  simp only[aj] at hx
  obtain⟨h0,jx,q,hp,h1,h2,h3,h4⟩:=hx
  refine⟨rfl,aN hr.a8 (key _ hp) ?_⟩
  simp only[aj]
  exact⟨h0,jx,q,by rw[tE];simp[ahy],h1,h2,h3,h4⟩
 ·exact absurd ah aq
theorem Il {x:Operand} {i:Nat} {y:aT} (hr:Rel X T a μ) (ho:o.op= .extract x i) (ht:dc X x=some y) (ah: (aH E (.extract y i)).run C ⟨T,μ.O⟩=some (v,σ')):
  σ'.T=T∧cT X o a μ σ'.O v:=by
 simp only[aH,bz] at ah
 have hx:=aQ hr ht μ.O
 split at ah
 ·rename_i vs e
  obtain⟨h1,rfl⟩:=fD ah
  rw[e] at hx
  simp only[aj] at hx
  obtain⟨us,hu,hv⟩:=hx
  obtain⟨c,h2,h3⟩:=hv.get h1
  refine⟨rfl,aN hr.a8 ?_ h3⟩
  simp only[execOp,ho]
  refine du ?_
  have KR:us[i]? =some c:=by simpa using h2
  simp[Instr.extract,hu,KR]
 ·exact absurd ah aq
theorem F5 {f:FuncId} {first caps:Array Operand} {n:Nat} {cs:List aT} (hr:Rel X T a μ) (ho:o.op= .makeFunc (.func f) first caps) (KD:first.isEmpty=true)
  (hn:X.fo f=some n) (ht:nD X caps.toList=some cs) (ah: (aH E (.yr n cs)).run C ⟨T,μ.O⟩=some (v,σ')):σ'.T=T∧cT X o a μ σ'.O v:=by
 simp only[aH,oC] at ah
 obtain⟨rfl,rfl⟩:=aY ah
 have hx:=nE hr μ.O ht
 obtain rfl:first= #[]:=by simpa using KD
 refine⟨rfl,aN (val:= .func (.func f) #[] (caps.map a.eval)) hr.a8 ?_ ?_⟩
 ·simp[execOp,ho,Instr.makeFunc,Sem.run_bind]
 ·simp only[aj]
  exact⟨f,_,rfl,hn,by simpa using hx⟩
theorem F6 {X:Ctx} {μ:Mu} {a:Go.Act} (σ:St): ∀ (xs:List Operand),ag X μ ((xs.map fun _=>aT.const .any).map (bu σ)) (xs.map a.eval)
 | []=>by simp[ag]
 | x::xs=>by
   simp only[List.map_cons,ag]
   exact⟨by simp[bu,aj],F6 σ xs⟩
theorem Dv {f:FuncId} {first caps:Array Operand} {n:Nat} {cs:List aT} {k:Bool} (hr:Rel X T a μ) (ho:o.op= .makeFunc (.func f) first caps) (KD:caps.isEmpty=true)
  (hn:X.fo f=some n) (ht: (if k=true then some (first.toList.map fun _=>aT.const .any) else nD X first.toList)=some cs) (ah: (aH E (.tj n cs)).run C ⟨T,μ.O⟩=some (v,σ')):σ'.T=T∧cT X o a μ σ'.O v:=by
 simp only[aH,oC] at ah
 obtain⟨rfl,rfl⟩:=aY ah
 have hx:ag X μ (cs.map (bu ⟨T,μ.O⟩)) (first.toList.map a.eval):=by
  split at ht
  ·injection ht with ht;subst ht
   exact F6 _ _
  ·exact nE hr μ.O ht
 obtain rfl:caps= #[]:=by simpa using KD
 refine⟨rfl,aN (val:= .func (.func f) (first.map a.eval) #[]) hr.a8 ?_ ?_⟩
 ·simp[execOp,ho,Instr.makeFunc,Sem.run_bind]
 ·simp only[aj]
  exact⟨f,_,rfl,hn,by simpa using hx⟩
end
end Go.AM
namespace Go.AM
open Go Go.RowKit
theorem qQ {X:Ctx} {t:TypeId} {g:Bool} (hg:gp X t=some g) (w:World): (isAgg t).run X.P w= .ok g w:=by
 simp only[gp,bJ,afZ] at hg
 obtain⟨d,hdd,hg⟩:=hg
 simp only[isAgg,Sem.run_bind,run_underlying hdd,Result.andThen_ok]
 subst hg
 cases d<;>rfl
theorem eT {X:Ctx} {t:TypeId} {sz:Nat} (hn:bO X t=some sz) (w:World): (sizeOf t).run X.P w= .ok sz w:=by
 obtain⟨inf,qA,FX⟩: ∃inf,X.P.info? t=some inf∧inf.size=sz:=by simpa [bO,info] using hn
 have bF:X.P.cellsOf t=sz:=by simp[Program.cellsOf,qA,FX]
 rw[run_sizeOf (w:=w) qA,bF]
theorem ur {X:Ctx} {t:TypeId} {sz:Nat} (hg:gp X t=some true) (hn:bO X t=some sz) (cs:Array Value) (off:Nat) (w:World):
  (Go.part t cs off).run X.P w= .ok (.agg (cs.extract off (off+sz))) w:=by
 simp[Go.part,Sem.run_bind,qQ hg,eT hn]
theorem fH {X:Ctx} {t:TypeId} (hg:gp X t=some false) (cs:Array Value) (off:Nat) (c:Value) (hc:cs[off]? =some c) (w:World):
  (Go.part t cs off).run X.P w= .ok c w:=by
 simp[Go.part,Sem.run_bind,qQ hg,hc]
theorem sI: ∀ (ks:List Nat) {uS:List Nat} {cs ds:List V} {b:Bool},cR (ks++uS) cs ds=some b→
   ∃b1 b2,cR ks (cs.take ks.length) (ds.take ks.length)=some b1∧cR uS (cs.drop ks.length) (ds.drop ks.length)=some b2∧b=(b1 &&b2)
 | [],uS,cs,ds,b,h=> ⟨true,b,by simp[cR],by simpa using h,afU⟩
 | k::ks,uS,[],_,b,h=>by simp[cR] at h
 | k::ks,uS,_::_,[],b,h=>by simp[cR] at h
 | k::ks,uS,c::cs,d::ds,b,h=>by
   simp only[ags,cR] at h
   split at h
   ·rename_i x y hx hy
    injection h with h;subst h
    obtain⟨b1,b2,h1,h2,h3⟩:=sI ks hy
    refine⟨x &&b1,b2,?_,by simpa using h2,by rw[h3,Bool.and_assoc]⟩
    simp[cR,hx,h1]
   ·simp at h
theorem pU: ∀ {ks:List Nat} {cs ds:List V} {b:Bool},cR ks cs ds=some b→cs.length=ks.length∧ds.length=ks.length
 | [],[],[],_,_=> ⟨rfl,rfl⟩
 | [],[],_::_,_,h=>by simp[cR] at h
 | [],_::_,_,_,h=>by simp[cR] at h
 | _::_,[],_,_,h=>by simp[cR] at h
 | _::_,_::_,[],_,h=>by simp[cR] at h
 | k::ks,c::cs,d::ds,b,h=>by
   simp only[cR] at h
   split at h
   ·rename_i x y hx hy
    obtain⟨h1,h2⟩:=pU hy
    simp[h1,h2]
   ·simp at h
theorem Tm {X:Ctx} {μ:Mu} {t:TypeId} {m k:Nat} {c e:V} {x y:Value} {b:Bool} {D:TypeDesc} (hd:bJ X t=some D)
  (hk: (k=0∧D= .bool)∨(k=1∧ ∃q,D= .int q)∨(k=2∧D= .string))
  (hc:aj X μ c x) (he:aj X μ e y) (hb:GO k c e=some b) (w:World): (Op.equalIn (m+1) t x y).run X.P w= .ok b w:=by
 unfold GO at hb
 split at hb
 ·injection hb with hb;subst hb
  simp only[aj] at hc he
  subst hc;subst he
  rcases hk with⟨_,rfl⟩ | ⟨h,_⟩ | ⟨h,_⟩
  ·exact run_equalIn_bool' w m t _ _ hd
  ·cases h
  ·cases h
 ·split at hb
  ·injection hb with hb;subst hb
   simp only[aj] at hc he
   subst hc;subst he
   rename_i hkk
   subst hkk
   rcases hk with⟨h,_⟩ | ⟨_,q,rfl⟩ | ⟨h,_⟩
   ·cases h
   ·exact run_equalIn_int w m t _ _ _ _ hd
   ·cases h
  ·simp at hb
 ·injection hb with hb;subst hb
  simp only[aj] at hc he
  obtain⟨p,rfl,hp⟩:=hc
  obtain⟨q,rfl,hq⟩:=he
  rcases hk with⟨h,_⟩ | ⟨h,_⟩ | ⟨_,rfl⟩
  ·cases h
  ·cases h
  ·rw[run_equalIn_string w m t _ _ hd]
   congr 1
   rw[ByteArray.toList_eq,ByteArray.toList_eq,hp,hq]
   rw[ahH];simp
 ·simp at hb
theorem wM {X:Ctx} {μ:Mu} (w:World) {e:TypeId} {k m:Nat} (hg:gp X e=some false) (h1:X.P.cellsOf e=1)
   (ih: ∀c f x y b,aj X μ c x→aj X μ f y→GO k c f=some b→(Op.equalIn m e x y).run X.P w= .ok b w):
   ∀ (n off:Nat) (cs ds:List V) (xs ys:List Value) (b:Bool),ag X μ cs xs→ag X μ ds ys→cR (List.replicate n k) (cs.drop off) (ds.drop off)=some b→
     (Op.eqItems m e (X.P.cellsOf e) xs.toArray ys.toArray (List.range' off n)).run X.P w= .ok b w
 | 0,off,cs,ds,xs,ys,b,hx,hy,hb=>by
   cases hc:cs.drop off<;>cases he:ds.drop off<;>rw[hc,he] at hb<;>simp[cR] at hb
   subst hb
   simp[Op.eqItems]
 | n+1,off,cs,ds,xs,ys,b,hx,hy,hb=>by
   rw[List.replicate_succ] at hb
   cases hc:cs.drop off with
   | nil=>rw[hc] at hb;simp[cR] at hb
   | cons c cP=>
     cases he:ds.drop off with
     | nil=>rw[hc,he] at hb;simp[cR] at hb
     | cons f ds'=>
       rw[hc,he] at hb
       simp only[cR] at hb
       split at hb
       ·rename_i p q hp hq
        injection hb with hb;subst hb
        have gc:cs[off]? =some c:=by
         have:=congrArg (fun l=>l[0]?) hc
         simpa using this
        have gf:ds[off]? =some f:=by
         have:=congrArg (fun l=>l[0]?) he
         simpa using this
        obtain⟨x,gx,rx⟩:=hx.get gc
        obtain⟨y,gy,ry⟩:=hy.get gf
        have tF:cs.drop (off+1)=cP:=by
         have:=congrArg (List.drop 1) hc
         simpa [ahc] using this
        have T3:ds.drop (off+1)=ds':=by
         have:=congrArg (List.drop 1) he
         simpa [ahc] using this
        have rest:=wM w hg h1 ih n (off+1) cs ds xs ys q hx hy (by rw[tF,T3];exact hq)
        have px:xs.toArray[off*X.P.cellsOf e]? =some x:=by rw[h1];simpa using gx
        have py:ys.toArray[off*X.P.cellsOf e]? =some y:=by rw[h1];simpa using gy
        rw[List.range'_succ]
        simp only[Op.eqItems,Sem.run_bind,fH hg _ _ _ px,fH hg _ _ _ py,Result.andThen_ok,ih c f x y p rx ry hp]
        cases p
        ·simp
        ·simpa using rest
       ·simp at hb
theorem PU {  X:Ctx} {μ:Mu} (w:World): ∀d:Nat,
   (∀t ks cs ds xs ys b m,gq X d t=some ks→d≤m→ag X μ cs xs→ag X μ ds ys→cR ks cs ds=some b→
     bO X t=some ks.length∧((gp X t=some true∧(Op.equalIn m t (.agg xs.toArray) (.agg ys.toArray)).run X.P w= .ok b w)∨
       (gp X t=some false∧ks.length=1∧ ∃x y,xs=[x]∧ys=[y]∧(Op.equalIn m t x y).run X.P w= .ok b w)))∧
   (∀fs off ks cs ds xs ys b m,oy X d fs off=some ks→d≤m→ag X μ cs xs→ag X μ ds ys→cR ks (cs.drop off) (ds.drop off)=some b→
     (Op.eqFields m xs.toArray ys.toArray fs).run X.P w= .ok b w):=by
 intro d
 induction d with
 | zero=>exact⟨fun _ _ _ _ _ _ _ _ h=>by simp[gq] at h,fun _ _ _ _ _ _ _ _ _ h=>by simp[oy] at h⟩
 | succ d ih=>
   refine⟨fun t ks cs ds xs ys b m hk hm hx hy hb=> ?_,fun fs off ks cs ds xs ys b m hk hm hx hy hb=> ?_⟩
   · obtain⟨m,rfl⟩: ∃m',m=m'+1:=⟨m - 1,ae0⟩
     have scalar: ∀ (D:TypeDesc) (k:Nat),bJ X t=some D→((k=0∧D= .bool)∨(k=1∧ ∃q,D= .int q)∨(k=2∧D= .string))→bO X t=some 1→ks=[k]→
         bO X t=some ks.length∧((gp X t=some true∧(Op.equalIn (m+1) t (.agg xs.toArray) (.agg ys.toArray)).run X.P w= .ok b w)∨
       (gp X t=some false∧ks.length=1∧ ∃x y,xs=[x]∧ys=[y]∧(Op.equalIn (m+1) t x y).run X.P w= .ok b w)):=by
       intro D k hd hD hs e
       subst e
       obtain⟨l1,l2⟩:=pU hb
       have lx:=hx.length
       have ly:=hy.length
       match cs,ds,xs,ys,l1,l2,lx,ly with
       | [c],[e],[x],[y],_,_,_,_=>
         simp only[ag,and_true] at hx hy
         simp only[cR,agB] at hb
         have kI:GO k c e=some b:=by
           cases hq:GO k c e<;>rw[hq] at hb<;>simp at hb;rw[hb]
         refine⟨by simpa using hs,.inr ⟨?_,rfl,x,y,rfl,rfl,Tm hd hD hx hy kI w⟩⟩
         simp only[gp,hd,agc]
         rcases hD with⟨_,rfl⟩ | ⟨_,q,rfl⟩ | ⟨_,rfl⟩ <;>rfl
     simp only[gq] at hk
     split at hk
     · split at hk<;>simp at hk
       rename_i hd hs
       exact scalar _ 0 hd afU hs hk.symm
     · split at hk<;>simp at hk
       rename_i hd hs
       exact scalar _ 1 hd afU hs hk.symm
     · split at hk<;>simp at hk
       rename_i hd hs
       exact scalar _ 2 hd afU hs hk.symm
     · rename_i fs hd
       split at hk
       · rename_i eJ
         split at hk
         · rename_i uS hkf
           split at hk
           ·rename_i hs
            injection hk with hk;subst hk
            refine⟨hs,.inl ⟨by simp[gp,hd],?_⟩⟩
            have EB:X.P.fieldsOf t=fs:=by
              have oX:X.P.underlying t=some (.struct fs):=hd
              simp[Program.fieldsOf,oX]
            rw[run_equalIn_struct w m t _ _ (by rw[EB];exact hd) eJ,EB]
            exact ih.2 _ 0 _ cs ds xs ys b m hkf ae0 hx hy (by simpa using hb)
           ·simp at hk
         ·simp at hk
       ·simp at hk
     · rename_i n e hd
       split at hk
       · rename_i oO
         obtain⟨oO,bF⟩:=oO
         split at hk
         · rename_i k oW
           injection hk with hk;subst hk
           refine⟨by rw[ahi];exact bF,.inl ⟨by simp[gp,hd],?_⟩⟩
           have iY:bO X e=some 1:=by
            cases d with
            | zero=>simp[gq] at oW
            | succ d=>
              simp only[gq] at oW
              split at oW<;> (try (split at oW<;>simp at oW<;>assumption)) <;> (try (rename_i hde;simp[gp,hde] at oO)) <;>simp at oW
           obtain⟨inf,qA,FX⟩: ∃inf,X.P.info? e=some inf∧inf.size=1:=by simpa [bO,info] using iY
           have np:X.P.cellsOf e=1:=by simp[Program.cellsOf,qA,FX]
           rw[run_equalIn_array w m _ _ hd qA,aha]
           refine wM w oO np (fun c f x y b' rx ry kI=> ?_) n 0 cs ds xs ys b hx hy (by simpa using hb)
           obtain⟨_,hq⟩:=ih.1 e [k] [c] [f] [x] [y] b' m oW ae0 (by simp only[ag,and_true];exact rx) (by simp only[ag,and_true];exact ry) (by simp[cR,kI])
           rcases hq with⟨hq,_⟩ | ⟨_,_,x',y',wh,Hu,hq⟩
           ·rw[oO] at hq;cases hq
           ·obtain rfl:x=x':=by simpa using wh
            obtain rfl:y=y':=by simpa using Hu
            exact hq
         ·simp at hk
       ·simp at hk
     ·simp at hk
   · obtain⟨m,rfl⟩: ∃m',m=m'+1:=⟨m - 1,ae0⟩
     cases fs with
     | nil=>
       simp only[oy,afY] at hk
       subst hk
       cases hc:cs.drop off<;>cases he:ds.drop off<;>rw[hc,he] at hb<;>simp[cR] at hb
       subst hb
       simp[Op.eqFields]
     | cons f fs=>
       simp only[oy] at hk
       split at hk
       · rename_i hn
         split at hk
         · rename_i k1 yN
           split at hk
           ·rename_i k2 JL
            injection hk with hk;subst hk
            obtain⟨b1,b2,e1,e2,e3⟩:=sI k1 hb
            obtain⟨hs,ha⟩:=ih.1 f.type k1 _ _ _ _ b1 (m+1) yN ae0 (ag.take k1.length (ag.drop off hx)) (ag.take k1.length (ag.drop off hy)) e1
            have ud:=ih.2 fs (off+k1.length) k2 cs ds xs ys b2 (m+1) JL ae0 hx hy (by simpa [ahc] using e2)
            have Im:=hn.2
            have head: (do let a ←Go.part f.type xs.toArray f.offset;let c ←Go.part f.type ys.toArray f.offset;Op.equalIn (m+1) f.type a c:Sem Bool).run X.P w= .ok b1 w:=by
              rcases ha with⟨hg,hq⟩ | ⟨hg,h1,x,y,MO,hy1,hq⟩
              · simp only[Sem.run_bind,ur hg hs,Result.andThen_ok,Im]
                rw[←hq]
                congr 3 <;> (apply Array.ext';simp[aho,ag5])
              · have gx:xs.toArray[f.offset]? =some x:=by
                 have:=congrArg (fun l=>l[0]?) MO
                 simpa [agy,h1,Im] using this
                have gy:ys.toArray[f.offset]? =some y:=by
                 have:=congrArg (fun l=>l[0]?) hy1
                 simpa [agy,h1,Im] using this
                simp only[Sem.run_bind,fH hg _ _ _ gx,fH hg _ _ _ gy,Result.andThen_ok]
                exact hq
            simp only[Op.eqFields,Sem.run_ite,if_pos hn.1]
            simp only[Sem.run_bind] at head ⊢
            generalize (Go.part f.type xs.toArray f.offset).run X.P w=r1 at head ⊢
            cases r1 with
            | halt _ _=>simp[Result.andThen] at head
            | ok a1 w1=>
              simp only[Result.andThen_ok] at head ⊢
              generalize (Go.part f.type ys.toArray f.offset).run X.P w1=r2 at head ⊢
              cases r2 with
              | halt _ _=>simp[Result.andThen] at head
              | ok a2 w2=>
                simp only[Result.andThen_ok] at head ⊢
                rw[head]
                simp only[Result.andThen_ok,Sem.run_ite]
                subst e3
                cases b1
                ·simp
                ·simpa using ud
           ·simp at hk
         ·simp at hk
       ·simp at hk
end Go.AM
namespace Go.AM
open Go Go.RowKit
theorem PV {X:Ctx} {μ:Mu} {T:Nat→V} {a:Go.Act} {x:Option Operand} {y:Option aT} (hr:Rel X T a μ) (h:AI X x=some y) (O:Nat→Obj):
   (x=none∧y=none)∨ ∃x' y',x=some x'∧y=some y'∧aj X μ (bu ⟨T,O⟩ y') (a.eval x'):=by
 cases x with
 | none=>simp[AI] at h;exact .inl ⟨rfl,h.symm⟩
 | some x=>
   simp only[AI,afZ] at h
   obtain⟨c,h1,rfl⟩:=h
   exact .inr ⟨x,c,rfl,rfl,aQ hr h1 O⟩
section
variable {X:Ctx} {E:Env} {C:bn} {o:Oper} {a:Go.Act} {T:Nat→V} {μ:Mu} {v:V} {σ':St}
theorem PW {op:BinOp} {t:TypeId} {x y:V} {xv yv:Value} {u:V} (hx:aj X μ x xv) (hy:aj X μ y yv) (h:rZ op x y=some u) (p q:Operand):
  ∃val,(do eqGuard op t p q xv yv;Go.binOp op t xv yv:Sem Value).run X.P μ.w= .ok val μ.w∧aj X μ u val:=by
 unfold rZ at h
 split at h
 ·rename_i k n k' n'
  simp only[aj] at hx hy
  subst hx;subst hy
  have hg: (eqGuard op t p q (.int k n) (.int k' n')).run X.P μ.w= .ok () μ.w:=by
    cases op<;>simp[eqGuard]
  simp only[Sem.run_bind,hg,Result.andThen_ok]
  cases op with
  | shl=>
    simp only at h
    split at h<;>simp at h
    subst h
    rename_i hb
    exact⟨.int k (k.wrap (n*2 ^ min n'.toNat k.bits)),by simp[Go.binOp,Op.shift,hb],by simp[aj]⟩
  | shr=>
    simp only at h
    split at h<;>simp at h
    subst h
    rename_i hb
    exact⟨.int k (n.fdiv (2 ^ min n'.toNat k.bits)),by simp[Go.binOp,Op.shift,hb],by simp[aj]⟩
  | quo=>
    simp only at h
    split at h
    ·rename_i hk;subst hk
     split at h<;>simp at h
     subst h
     rename_i hb
     exact⟨.int k (k.wrap (n.tdiv n')),by simp[Go.binOp,Op.intDiv,hb],by simp[aj]⟩
    ·simp at h
  | rem=>
    simp only at h
    split at h
    ·rename_i hk;subst hk
     split at h<;>simp at h
     subst h
     rename_i hb
     exact⟨.int k (n.tmod n'),by simp[Go.binOp,Op.intDiv,hb],by simp[aj]⟩
    ·simp at h
  | _=>
    simp only at h
    split at h
    ·rename_i hk;subst hk
     simp only[mi,G7,afY] at h
     subst h
     exact⟨_,by simp[Go.binOp,Op.intArith,Op.intBits,Op.intCmp];rfl,by simp[aj]⟩
    ·simp at h
 ·rename_i s s'
  simp only[aj] at hx hy
  obtain⟨bs,rfl,rfl⟩:=hx
  obtain⟨cs,rfl,rfl⟩:=hy
  have hg: (eqGuard op t p q (.string bs) (.string cs)).run X.P μ.w= .ok () μ.w:=by
    cases op<;>simp[eqGuard]
  simp only[Sem.run_bind,hg,Result.andThen_ok]
  have he: (bs.toList==cs.toList)=decide (bs.data.toList=cs.data.toList):=by
    rw[ByteArray.toList_eq,ByteArray.toList_eq,ahH];simp
  cases op with
  | add=>
    simp only at h
    split at h<;>simp at h
    subst h
    rename_i hl
    have xH: ¬ ((bs.size+cs.size:Nat):Int) >IntKind.i64.max:=by
     have hm:IntKind.i64.max=9223372036854775807:=afV
     have h1:bs.data.toList.length=bs.size:=by rw[agh];rfl
     have h2:cs.data.toList.length=cs.size:=by rw[agh];rfl
     rw[hm];rw[h1,h2] at hl;omega
    refine⟨.string (bs++cs),by simp only[Go.binOp,Op.stringOp];rw[if_neg xH];rfl,?_⟩
    simp[aj,ByteArray.data_append]
  | _=>
    simp only[afY,reduceCtorEq] at h
    try (subst h;refine⟨_,by simp only[Go.binOp,Op.stringOp];rfl,?_⟩;simp only[aj,he] <;>simp only[ByteArray.toList_eq])
 ·simp at h
theorem Io {op:BinOp} {t t2:TypeId} {x y:Operand} {x' y':aT} (hr:Rel X T a μ) (ho:o.op= .binOp op t x y t2) (h1:dc X x=some x') (h2:dc X y=some y')
  (ah: (aH E (.bin op x' y')).run C ⟨T,μ.O⟩=some (v,σ')):σ'.T=T∧cT X o a μ σ'.O v:=by
 simp only[aH,bz] at ah
 obtain⟨hb,rfl⟩:=fD ah
 obtain⟨val,hv,bl⟩:=PW (t:=t) (aQ hr h1 μ.O) (aQ hr h2 μ.O) hb x y
 refine⟨rfl,aN hr.a8 ?_ bl⟩
 simp only[execOp,ho]
 exact du hv
theorem PX {op:BinOp} {t t2:TypeId} {x y:Operand} {x' y':aT} {ks:List Nat} (hr:Rel X T a μ) (ho:o.op= .binOp op t x y t2) (eA:op= .eql∨op= .neq)
  (hg:X.P.eqGuardType X.P.depth t=false) (hk:gq X 100 t=some ks) (Wm:gp X t=some true)
  (h1:dc X x=some x') (h2:dc X y=some y') {neg:Bool} (hn:neg=wL op)
  (ah: (aH E (.Xh neg ks x' y')).run C ⟨T,μ.O⟩=some (v,σ')):σ'.T=T∧cT X o a μ σ'.O v:=by
 simp only[aH,bz] at ah
 have hx:=aQ hr h1 μ.O
 have hy:=aQ hr h2 μ.O
 split at ah
 ·rename_i p q e1 e2
  split at ah
  ·rename_i b hb
   obtain⟨rfl,rfl⟩:=aY ah
   rw[e1] at hx;rw[e2] at hy
   simp only[aj] at hx hy
   obtain⟨_,xs,I8,hvx⟩:=hx
   obtain⟨_,ys,hys,hvy⟩:=hy
   refine⟨rfl,aN (val:= .bool (b !=neg)) hr.a8 ?_ (by simp[aj])⟩
   simp only[execOp,ho]
   refine du ?_
   obtain⟨_,hh⟩:=(PU (X:=X) (μ:=μ) μ.w 100).1 t ks p q _ _ b 10000 hk ae0 hvx hvy hb
   rcases hh with⟨_,hh⟩ | ⟨hh,_⟩
   ·have heq: (Op.equal t (.agg xs) (.agg ys)).run X.P μ.w= .ok b μ.w:=by simpa [Op.equal,Op.maxDepth] using hh
    have LR: (eqGuard op t x y (.agg xs) (.agg ys)).run X.P μ.w= .ok () μ.w:=run_eqGuard_agg μ.w op t x y xs ys hg
    rw[I8,hys]
    rcases eA with rfl| rfl
    ·subst hn
     simp only[Sem.run_bind,LR,Result.andThen_ok,Go.binOp,heq,wL];simp
    ·subst hn
     simp only[Sem.run_bind,LR,Result.andThen_ok,Go.binOp,heq,wL];simp
   ·rw[Wm] at hh;cases hh
  ·exact absurd ah aq
 ·exact absurd ah aq
theorem lN {P:Program} {w:World} (d:Nat) {t e:TypeId} (q:Option Addr) (hi:P.underlying t=some (.pointer e)):
  (Op.equalIn (d+1) t (.pointer none) (.pointer q)).run P w= .ok q.isNone w:=by
 simp[Op.equalIn,run_underlying hi]
theorem pV {P:Program} {w:World} (d:Nat) {t e:TypeId} (p:Addr) (hi:P.underlying t=some (.pointer e)):
  (Op.equalIn (d+1) t (.pointer (some p)) (.pointer none)).run P w= .ok false w:=by
 simp[Op.equalIn,run_underlying hi]
theorem zC {P:Program} {w:World} (d:Nat) {t e:TypeId} {inf:TypeInfo} {n:Nat} {b o o':Nat} (hi:P.underlying t=some (.pointer e)) (qA:P.info? e=some inf) (hse:P.cellsOf e=n+1):
  (Op.equalIn (d+1) t (.pointer (some ⟨b,o,none⟩)) (.pointer (some ⟨b,o',none⟩))).run P w= .ok (o==o') w:=by
 have hq: ((⟨b,o,none⟩:Addr)==⟨b,o',none⟩)=(o==o'):=by
  rw[ahH]
  simp only[beq_iff_eq,Addr.mk.injEq,true_and,and_true]
 simp[Op.equalIn,run_underlying hi,Sem.run_bind,run_sizeOf (w:=w) qA,hse,sameAddr,hq]
theorem Wn {op:BinOp} {t e t2:TypeId} {n:Nat} {x y:Operand} {x' y':aT} (hr:Rel X T a μ) (ho:o.op= .binOp op t x y t2) (eA:op= .eql∨op= .neq) (hd:bJ X t=some (.pointer e)) (bF:bO X e=some (n+1))
  (h1:dc X x=some x') (h2:dc X y=some y') {neg:Bool} (hn:neg=wL op)
  (ah: (aH E (.UU neg x' y')).run C ⟨T,μ.O⟩=some (v,σ')):σ'.T=T∧cT X o a μ σ'.O v:=by
 simp only[aH,bz] at ah
 have hx:=aQ hr h1 μ.O
 have hy:=aQ hr h2 μ.O
 obtain⟨hb,rfl⟩:=fD ah
 rw[afZ] at hb
 obtain⟨b,hb,rfl⟩:=hb
 have oX:X.P.underlying t=some (.pointer e):=hd
 obtain⟨inf,qA,FX⟩: ∃inf,X.P.info? e=some inf∧inf.size=n+1:=by simpa [bO,info] using bF
 have hse:X.P.cellsOf e=n+1:=by simp[Program.cellsOf,qA,FX]
 have key: ∃p q,a.eval x= .pointer p∧a.eval y= .pointer q∧(Op.equal t (.pointer p) (.pointer q)).run X.P μ.w= .ok b μ.w:=by
  unfold Jg at hb
  split at hb
  ·rename_i e1 e2
   rw[e1] at hx;rw[e2] at hy
   simp only[aj] at hx hy
   simp only[afY] at hb;subst hb
   exact⟨_,_,hx,hy,lN 9999 none oX⟩
  ·rename_i e1 e2
   rw[e1] at hx;rw[e2] at hy
   simp only[aj] at hx hy
   simp only[afY] at hb;subst hb
   obtain⟨_,_,_,_,_,_,hy,_⟩:=hy
   exact⟨_,_,hx,hy,lN 9999 _ oX⟩
  ·rename_i e1 e2
   rw[e1] at hx;rw[e2] at hy
   simp only[aj] at hx hy
   simp only[afY] at hb;subst hb
   obtain⟨_,_,_,hy,_⟩:=hy
   exact⟨_,_,hx,hy,lN 9999 _ oX⟩
  ·rename_i e1 e2
   rw[e1] at hx;rw[e2] at hy
   simp only[aj] at hx hy
   simp only[afY] at hb;subst hb
   obtain⟨_,_,_,_,_,_,hx,_⟩:=hx
   exact⟨_,_,hx,hy,pV 9999 _ oX⟩
  ·rename_i e1 e2
   rw[e1] at hx;rw[e2] at hy
   simp only[aj] at hx hy
   simp only[afY] at hb;subst hb
   obtain⟨_,_,_,hx,_⟩:=hx
   exact⟨_,_,hx,hy,pV 9999 _ oX⟩
  ·rename_i i z e0 i' z' e0' e1 e2
   rw[e1] at hx;rw[e2] at hy
   simp only[aj] at hx hy
   split at hb<;>simp only[afY,reduceCtorEq] at hb
   rename_i hz
   obtain⟨rfl,Tn⟩:=hz
   subst hb
   obtain⟨_,_,_,hx,_⟩:=hx
   obtain⟨_,_,_,hy,_⟩:=hy
   refine⟨_,_,hx,hy,?_⟩
   have hq: (X.tok.2+i*z+0==X.tok.2+i'*z+0)=(i==i'):=by
    rw[ahH]
    simp only[beq_iff_eq]
    constructor
    ·intro h
     have:i*z=i'*z:=ae0
     exact Nat.eq_of_mul_eq_mul_right Tn this
    ·rintro rfl;rfl
   exact(zC 9999 oX qA hse).trans (by rw[hq])
  ·simp at hb
 obtain⟨p,q,hp,hq,heq⟩:=key
 refine⟨rfl,aN (val:= .bool (b !=neg)) hr.a8 ?_ (by simp[aj])⟩
 simp only[execOp,ho,hp,hq]
 refine du ?_
 subst hn
 rcases eA with rfl| rfl<;>simp[eqGuard,Go.binOp,Sem.run_bind,heq,wL]
theorem aaZ {op:UnOp} {t:TypeId} {x:Operand} {x':aT} (hr:Rel X T a μ) (ho:o.op= .unOp op t x) (h1:dc X x=some x')
  (ah: (aH E (.un op x')).run C ⟨T,μ.O⟩=some (v,σ')):σ'.T=T∧cT X o a μ σ'.O v:=by
 simp only[aH,bz] at ah
 obtain⟨hb,rfl⟩:=fD ah
 have hx:=aQ hr h1 μ.O
 have: ∃val,(Op.unary op (a.eval x)).run X.P μ.w= .ok val μ.w∧aj X μ v val:=by
  unfold unV at hb
  split at hb
  ·rename_i k n e
   simp at hb;subst hb
   rw[e] at hx;simp only[aj] at hx
   exact⟨.int k (k.wrap (0 - n)),by simp[hx,Op.unary,Op.intArith],by simp[aj]⟩
  ·rename_i b e
   simp at hb;subst hb
   rw[e] at hx;simp only[aj] at hx
   exact⟨.bool (!b),by simp[hx,Op.unary],by simp[aj]⟩
  ·rename_i k n e
   simp only[mi,afY] at hb;subst hb
   rw[e] at hx;simp only[aj] at hx
   exact⟨_,by simp[hx,Op.unary,Op.intBits];rfl,by simp[aj]⟩
  ·simp at hb
 obtain⟨val,h2,h3⟩:=this
 refine⟨rfl,aN hr.a8 ?_ h3⟩
 simp only[execOp,ho]
 exact du h2
theorem Ip {s d:TypeId} {x:Operand} {x':aT} {k k0:IntKind} (hr:Rel X T a μ) (ho:o.op= .convert s d x) (hs:bJ X s=some (.int k0)) (hd:bJ X d=some (.int k))
  (h1:dc X x=some x') (ah: (aH E (.te k x')).run C ⟨T,μ.O⟩=some (v,σ')):σ'.T=T∧cT X o a μ σ'.O v:=by
 simp only[aH,bz] at ah
 have hx:=aQ hr h1 μ.O
 split at ah
 ·rename_i k1 n1 e
  obtain⟨rfl,rfl⟩:=aY ah
  rw[e] at hx;simp only[aj] at hx
  refine⟨rfl,aN (val:= .int k (k.wrap n1)) hr.a8 ?_ (by simp[aj])⟩
  simp only[execOp,ho]
  refine du ?_
  simp[convert,Sem.run_bind,run_underlying hs,run_underlying hd,hx,Conv.intToInt]
 ·exact absurd ah aq
theorem LS {s d:TypeId} {x:Operand} {x':aT} {k0:IntKind} (hr:Rel X T a μ) (ho:o.op= .convert s d x) (hs:bJ X s=some (.int k0)) (hd:bJ X d=some (.float .f64))
  (h1:dc X x=some x') (ah: (aH E (.yp x')).run C ⟨T,μ.O⟩=some (v,σ')):σ'.T=T∧cT X o a μ σ'.O v:=by
 simp only[aH,bz] at ah
 have hx:=aQ hr h1 μ.O
 split at ah
 ·rename_i k1 n1 e
  obtain⟨rfl,rfl⟩:=aY ah
  rw[e] at hx;simp only[aj] at hx
  refine⟨rfl,aN (val:= .float .f64 (FloatKind.f64.nearest n1)) hr.a8 ?_ (by simp[aj])⟩
  simp only[execOp,ho]
  refine du ?_
  simp[convert,Sem.run_bind,run_underlying hs,run_underlying hd,hx,Conv.intToFloat]
 ·exact absurd ah aq
theorem LU {s d:TypeId} {x:Operand} {x':aT} {k:IntKind} (hr:Rel X T a μ) (ho:o.op= .convert s d x) (hs:bJ X s=some (.float .f64)) (hd:bJ X d=some (.int k))
  (h1:dc X x=some x') (ah: (aH E (.yq k x')).run C ⟨T,μ.O⟩=some (v,σ')):σ'.T=T∧cT X o a μ σ'.O v:=by
 simp only[aH,bz] at ah
 have hx:=aQ hr h1 μ.O
 split at ah
 ·rename_i b e
  split at ah
  ·rename_i n hn
   split at ah
   ·rename_i hle
    obtain⟨rfl,rfl⟩:=aY ah
    rw[e] at hx;simp only[aj] at hx
    refine⟨rfl,aN (val:= .int k n) hr.a8 ?_ (by simp[aj])⟩
    simp only[execOp,ho]
    refine du ?_
    simp[convert,Sem.run_bind,run_underlying hs,run_underlying hd,hx,Conv.floatToInt,hn,hle]
   ·exact absurd ah aq
  ·exact absurd ah aq
 ·exact absurd ah aq
theorem gz {c:Call} {b:Builtin} {val:Value} {w w':World} (ho:o.op= .call c) (hc:c.callee= .builtin b)
  (h: (builtin b c.argTypes o.type (c.args.map fun| .const _=>true| _=>false) (c.args.map a.eval)).run X.P w= .ok (.value val) w'):
  (execOp a.eval o).run X.P w= .ok (.value val) w':=by
 simp only[execOp,ho,resolve,hc,Sem.run_bind,Sem.run_pure,Result.andThen_ok,invoke]
 exact h
theorem Wo {c:Call} {x:Operand} {t e:TypeId} {x':aT} (hr:Rel X T a μ) (ho:o.op= .call c) (hc:c.callee= .builtin .len) (ha:c.args= #[x]) (ht:c.argTypes= #[t])
  (hd:bJ X t=some (.slice e)) (h1:dc X x=some x') (ah: (aH E (.len x')).run C ⟨T,μ.O⟩=some (v,σ')):
  σ'.T=T∧cT X o a μ σ'.O v:=by
 simp only[aH,bz] at ah
 obtain⟨hb,rfl⟩:=fD ah
 have hx:=aQ hr h1 μ.O
 have key: ∃n:Nat,(Builtin.len_ #[t] o.type #[a.eval x]).run X.P μ.w= .ok (goInt n) μ.w∧v= .int .i64 n:=by
  cases hy:bu ⟨T,μ.O⟩ x'<;>rw[hy] at hb hx<;>simp[Rw] at hb
  ·simp only[aj] at hx
   obtain⟨p,hp⟩:=hx
   exact⟨0,by simp[Builtin.len_,Sem.run_bind,run_underlying hd,hp],hb.symm⟩
  ·simp only[aj] at hx
   obtain⟨_,_,p,cap,vs,hp,_⟩:=hx
   exact⟨_,by simp[Builtin.len_,Sem.run_bind,run_underlying hd,hp],hb.symm⟩
  ·simp only[aj] at hx
   obtain⟨p,cap,hp,_⟩:=hx
   exact⟨_,by simp[Builtin.len_,Sem.run_bind,run_underlying hd,hp],hb.symm⟩
  ·simp only[aj] at hx
   obtain⟨_,_,p,cap,vs,hp,_⟩:=hx
   exact⟨_,by simp[Builtin.len_,Sem.run_bind,run_underlying hd,hp],hb.symm⟩
 obtain⟨n,h2,rfl⟩:=key
 refine⟨rfl,aN (val:=goInt n) hr.a8 ?_ (by simp[aj,goInt])⟩
 refine gz ho hc ?_
 simp only[builtin,ha,ht]
 refine du ?_
 simpa using h2
theorem LV {c:Call} {x:Operand} {t:TypeId} {x':aT} (hr:Rel X T a μ) (ho:o.op= .call c) (hc:c.callee= .builtin .len) (ha:c.args= #[x]) (ht:c.argTypes= #[t])
  (hd:bJ X t=some .string) (h1:dc X x=some x') (ah: (aH E (.yt x')).run C ⟨T,μ.O⟩=some (v,σ')):
  σ'.T=T∧cT X o a μ σ'.O v:=by
 simp only[aH,bz] at ah
 have hx:=aQ hr h1 μ.O
 split at ah
 ·rename_i s e
  obtain⟨rfl,rfl⟩:=aY ah
  rw[e] at hx;simp only[aj] at hx
  obtain⟨bs,To,rfl⟩:=hx
  refine⟨rfl,aN (val:=goInt bs.size) hr.a8 ?_ (by simp only[aj,goInt];rw[agh];rfl)⟩
  refine gz ho hc ?_
  simp only[builtin,ha,ht]
  refine du ?_
  simp[Builtin.len_,Sem.run_bind,run_underlying hd,To]
 ·exact absurd ah aq
theorem LW {c:Call} {x:Operand} {t e:TypeId} {n:Nat} (hr:Rel X T a μ) (ho:o.op= .call c) (hc:c.callee= .builtin .len) (ha:c.args= #[x]) (ht:c.argTypes= #[t])
  (hd:bJ X t=some (.array n e)) (ah: (aH E (.move (.const (.int .i64 n)))).run C ⟨T,μ.O⟩=some (v,σ')):
  σ'.T=T∧cT X o a μ σ'.O v:=by
 simp only[aH,bz,bu] at ah
 obtain⟨rfl,rfl⟩:=aY ah
 refine⟨rfl,aN (val:=goInt n) hr.a8 ?_ (by simp[aj,goInt])⟩
 refine gz ho hc ?_
 simp only[builtin,ha,ht]
 refine du ?_
 simp[Builtin.len_,Sem.run_bind,run_underlying hd]
theorem BZ {w:World}: ∀ {xs:List V} {x:V} {u:V} {xv:Value} {vs:List Value},aj X μ x xv→ag X μ xs vs→oK min2 (x::xs)=some u→
   ∃val,(vs.foldlM Builtin.min2 xv).run X.P w= .ok val w∧aj X μ u val
 | [],x,u,xv,[],hx,_,h=>by simp[oK,pg] at h;subst h;exact⟨xv,afU,hx⟩
 | [],_,_,_,_::_,_,hv,_=>by simp[ag] at hv
 | _::_,_,_,_,[],_,hv,_=>by simp[ag] at hv
 | y::ys,x,u,xv,yv::vs,hx,hv,h=>by
   simp only[ag] at hv
   simp only[oK,pg] at h
   split at h
   ·rename_i z hz
    have: ∃zv,(Builtin.min2 xv yv).run X.P w= .ok zv w∧aj X μ z zv:=by
     unfold min2 at hz
     split at hz
     ·split at hz<;>simp at hz
      rename_i hk;subst hk;subst hz
      have h1:=hv.1
      simp only[aj] at hx h1
      subst hx;subst h1
      exact⟨_,by simp[Builtin.min2];rfl,by simp[aj]⟩
     ·simp at hz
    obtain⟨zv,h1,h2⟩:=this
    obtain⟨val,h3,h4⟩:=BZ (w:=w) h2 hv.2 h
    exact⟨val,by simp[List.foldlM_cons,Sem.run_bind,h1,h3],h4⟩
   ·simp at h
theorem B0 {w:World}: ∀ {xs:List V} {x:V} {u:V} {xv:Value} {vs:List Value},aj X μ x xv→ag X μ xs vs→oK max2 (x::xs)=some u→
   ∃val,(vs.foldlM Builtin.max2 xv).run X.P w= .ok val w∧aj X μ u val
 | [],x,u,xv,[],hx,_,h=>by simp[oK,pg] at h;subst h;exact⟨xv,afU,hx⟩
 | [],_,_,_,_::_,_,hv,_=>by simp[ag] at hv
 | _::_,_,_,_,[],_,hv,_=>by simp[ag] at hv
 | y::ys,x,u,xv,yv::vs,hx,hv,h=>by
   simp only[ag] at hv
   simp only[oK,pg] at h
   split at h
   ·rename_i z hz
    have: ∃zv,(Builtin.max2 xv yv).run X.P w= .ok zv w∧aj X μ z zv:=by
     unfold max2 at hz
     split at hz
     ·split at hz<;>simp at hz
      rename_i hk;subst hk;subst hz
      have h1:=hv.1
      simp only[aj] at hx h1
      subst hx;subst h1
      exact⟨_,by simp[Builtin.max2];rfl,by simp[aj]⟩
     ·simp at hz
    obtain⟨zv,h1,h2⟩:=this
    obtain⟨val,h3,h4⟩:=B0 (w:=w) h2 hv.2 h
    exact⟨val,by simp[List.foldlM_cons,Sem.run_bind,h1,h3],h4⟩
   ·simp at h
theorem Wp {c:Call} {xs:List aT} (hr:Rel X T a μ) (ho:o.op= .call c) (hc:c.callee= .builtin .min) (h1:nD X c.args.toList=some xs)
   (ah: (aH E (.min xs)).run C ⟨T,μ.O⟩=some (v,σ')):σ'.T=T∧cT X o a μ σ'.O v:=by
 simp only[aH,oC] at ah
 obtain⟨hb,rfl⟩:=fD ah
 have hx:=nE hr μ.O h1
 generalize hq:xs.map (bu ⟨T,μ.O⟩)=us at hb hx
 generalize hp:c.args.toList.map a.eval=vs at hx
 match us,vs,hx,hb with
 | [],_,_,hb=>simp[oK,pg] at hb
 | u::us,[],hx,_=>simp[ag] at hx
 | u::us,y::vs,hx,hb=>
   simp only[ag] at hx
   obtain⟨val,h2,h3⟩:=BZ (w:=μ.w) hx.1 hx.2 hb
   refine⟨rfl,aN (val:=val) hr.a8 (gz ho hc ?_) h3⟩
   simp only[builtin]
   refine du ?_
   simp only[Builtin.min_,ahS,hp]
   exact h2
theorem Wq {c:Call} {xs:List aT} (hr:Rel X T a μ) (ho:o.op= .call c) (hc:c.callee= .builtin .max) (h1:nD X c.args.toList=some xs)
   (ah: (aH E (.max xs)).run C ⟨T,μ.O⟩=some (v,σ')):σ'.T=T∧cT X o a μ σ'.O v:=by
 simp only[aH,oC] at ah
 obtain⟨hb,rfl⟩:=fD ah
 have hx:=nE hr μ.O h1
 generalize hq:xs.map (bu ⟨T,μ.O⟩)=us at hb hx
 generalize hp:c.args.toList.map a.eval=vs at hx
 match us,vs,hx,hb with
 | [],_,_,hb=>simp[oK,pg] at hb
 | u::us,[],hx,_=>simp[ag] at hx
 | u::us,y::vs,hx,hb=>
   simp only[ag] at hx
   obtain⟨val,h2,h3⟩:=B0 (w:=μ.w) hx.1 hx.2 hb
   refine⟨rfl,aN (val:=val) hr.a8 (gz ho hc ?_) h3⟩
   simp only[builtin]
   refine du ?_
   simp only[Builtin.max_,ahS,hp]
   exact h2
end
end Go.AM
namespace Go.AM
open Go Go.RowKit
theorem gA (b q n:Nat): (⟨b,q,none⟩:Addr).add n=⟨b,q+n,none⟩:=by unfold Addr.add;split<;>simp_all
theorem pW: ∀ {xs:List V} {i:Nat} {x:V},V.ak xs=true→xs[i]? =some x→V.au x=true
 | [],_,_,_,h=>by simp at h
 | y::ys,0,x,hp,h=>by simp[V.ak] at hp;simp at h;rw[←h];exact hp.1
 | y::ys,i+1,x,hp,h=>by simp[V.ak] at hp;simp at h;exact pW hp.2 h
theorem uu: ∀ {xs:List V} (n:Nat),V.ak xs=true→V.ak (xs.take n)=true
 | _,0,_=>by simp[V.ak]
 | [],n+1,_=>by simp[V.ak]
 | y::ys,n+1,h=>by simp[V.ak] at h ⊢;exact⟨h.1,uu n h.2⟩
theorem uw: ∀ {xs:List V} (n:Nat),V.ak xs=true→V.ak (xs.drop n)=true
 | _,0,h=>by simpa using h
 | [],n+1,_=>by simp[V.ak]
 | y::ys,n+1,h=>by simp[V.ak] at h;simpa using uw n h.2
theorem kV {p:V→Bool} {xs:List V} (n:Nat) (h:xs.all p=true): (xs.take n).all p=true:=by
 simp only[af5] at h ⊢
 exact fun x hx=>h x (agp hx)
theorem nF {p:V→Bool} {xs:List V} (n:Nat) (h:xs.all p=true): (xs.drop n).all p=true:=by
 simp only[af5] at h ⊢
 exact fun x hx=>h x (agF hx)
theorem di.drop {w:World} {b off sz:Nat} {vs:List Value} (h:di w b off sz vs) (n:Nat):di w b (off+n*sz) sz (vs.drop n):=by
 intro i v hv
 simp only[ahF] at hv
 obtain⟨h1,h2⟩:=h (n+i) v hv
 refine⟨h1,fun j c hc=> ?_⟩
 rw[←h2 j c hc]
 congr 2
 rw[agv];omega
theorem di.take {w:World} {b off sz:Nat} {vs:List Value} (h:di w b off sz vs) (n:Nat):di w b off sz (vs.take n):=by
 intro i v hv
 rw[agy] at hv
 split at hv
 ·exact h i v hv
 ·simp at hv
section
variable {X:Ctx} {E:Env} {C:bn} {o:Oper} {a:Go.Act} {T:Nat→V} {μ:Mu} {v:V} {σ':St}
theorem qR {t:TypeId} {e u:V} {x:Value} {off sz:Nat} {agg:Bool} {w:World} {b q:Nat} (hx:aj X μ e x) (hp:part agg off sz e=some u)
   (hg:gp X t=some agg) (hn:bO X t=some sz) (hm: ∀j c,x.cells[j]? =some c→w.cell? ⟨b,q+j,none⟩=some c):
   ∃val,(loadVar t ⟨b,q+off,none⟩).run X.P w= .ok val w∧aj X μ u val:=by
 cases agg with
 | true=>
   obtain⟨cs,rfl,hle,hv⟩:=Dt hx hp
   refine⟨_,?_,hv⟩
   have hl: (cs.extract off (off+sz)).toList.length=sz:=by simp;omega
   have:=run_loadCells_list (P:=X.P) w ⟨b,q+off,none⟩ (cs.extract off (off+sz)).toList (fun j c hc=>by
    rw[gA]
    have Co:cs[off+j]? =some c:=by
     rw[aho,ag5,agy] at hc
     split at hc
     ·simpa using hc
     ·simp at hc
    have:=hm (off+j) c (by simpa [Value.cells] using Co)
    rwa [←ahy] at this)
   rw[hl,Array.toArray_toList] at this
   simp[loadVar,Sem.run_bind,qQ hg,eT hn,this]
 | false=>
   obtain⟨_,c,hc,hv⟩:=AK hx hp
   refine⟨c,?_,hv⟩
   have:=hm off c hc
   simp[loadVar,Sem.run_bind,qQ hg,this]
theorem F7 (ho:ba X μ) {r idx:Nat} {es:List V} {e:V} (bo: (μ.O r).es=some es) (he:es[idx]? =some e) (h0:0 < (μ.O r).sz):
  ∃x,aj X μ e x∧(μ.φ r).cap≠0∧ ∀j c,x.cells[j]? =some c→μ.w.cell? ⟨(μ.φ r).bV,(μ.φ r).base+idx*(μ.O r).sz+j,none⟩=some c:=by
 obtain⟨_,h2,_,h4⟩:=ho.row r es bo h0
 have bk:idx<es.length:=(af0.1 he).1
 have hc: (μ.φ r).cap≠0:=ae0
 rcases h4 with h4| ⟨c,T',vs,_,_,hv,dg⟩
 ·exact absurd h4 hc
 ·obtain⟨x,hx,hr⟩:=hv.get he
  exact⟨x,hr,hc,(dg idx x hx).2⟩
theorem J3 {t:TypeId} {x:Operand} {x':aT} {agg:Bool} {sz:Nat} (hr:Rel X T a μ) (ho:o.op= .load t x) (h1:dc X x=some x') (hg:gp X t=some agg) (hn:bO X t=some sz)
  (ah: (aH E (.load agg sz x')).run C ⟨T,μ.O⟩=some (v,σ')):σ'.T=T∧cT X o a μ σ'.O v:=by
 simp only[aH,bz] at ah
 have hx:=aQ hr h1 μ.O
 have fin: ∀ (p:Addr),a.eval x= .pointer (some p)→ ∀val,(loadVar t p).run X.P μ.w= .ok val μ.w→(execOp a.eval o).run X.P μ.w= .ok (.value val) μ.w:=fun p hp val hv=>by
  simp only[execOp,ho]
  refine du ?_
  simp[Instr.loadAt,Instr.sureAddr,Sem.run_bind,hp,hv]
 split at ah
 ·rename_i r g idx off e
  simp only[Act.run] at ah
  split at ah
  ·rename_i es bo
   split at ah
   ·rename_i cE
    split at ah
    ·rename_i el rB
     obtain⟨hp,rfl⟩:=fD ah
     rw[e] at hx
     simp only[aj] at hx
     obtain⟨p,Uu,_,bT⟩:=hx
     obtain⟨xv,re,_,jZ⟩:=F7 hr.a8 bo rB (bT cE).1
     obtain⟨val,hl,bl⟩:=qR re hp hg hn jZ
     refine⟨rfl,aN hr.a8 (fin p Uu val ?_) bl⟩
     rw[(bT cE).2];exact hl
    ·exact absurd ah aq
   ·exact absurd ah aq
  ·exact absurd ah aq
 ·rename_i el off e
  obtain⟨hp,rfl⟩:=fD ah
  rw[e] at hx
  simp only[aj] at hx
  obtain⟨_,_,b,q,sz',xv,Uu,_,_,re,dg⟩:=hx
  obtain⟨val,hl,bl⟩:=qR (w:=μ.w) (b:=b) (q:=q) re hp hg hn (fun j c hc=>by simpa using (dg 0 xv afU).2 j c hc)
  exact⟨rfl,aN hr.a8 (fin _ Uu val hl) bl⟩
 ·rename_i i z el off e
  obtain⟨hp,rfl⟩:=fD ah
  rw[e] at hx
  simp only[aj] at hx
  obtain⟨_,_,xv,Uu,_,_,re,dg⟩:=hx
  obtain⟨val,hl,bl⟩:=qR (w:=μ.w) (b:=X.tok.1) (q:=X.tok.2+i*z) re hp hg hn (fun j c hc=>by simpa using (dg 0 xv afU).2 j c hc)
  exact⟨rfl,aN hr.a8 (fin _ Uu val hl) bl⟩
 ·exact absurd ah aq
theorem LX {ks:List Nat} {agg:Bool} {sz:Nat} {x:aT} {σ:St} (h: (aH E (.A3 ks agg sz x)).run C σ=some (v,σ')): ∃v0,(aH E (.load agg sz x)).run C σ=some (v0,σ')∧v=AM.GN ks v0:=by
 simp only[aH,bz] at h ⊢
 have fin: ∀ (p:Option V),(eC (p.map (AM.GN ks))).run C σ=some (v,σ')→ ∃v0,(eC p).run C σ=some (v0,σ')∧v=AM.GN ks v0:=by
  intro p hp
  cases p with
  | none=>exact absurd hp aq
  | some v0=>
    obtain⟨h1,h2⟩:=fD hp
    simp only[agc,afY] at h1
    exact⟨v0,by simp only[eC,Act.run,h2],h1.symm⟩
 split at h
 ·rename_i r g idx off e
  simp only[Act.run] at h ⊢
  split at h
  · rename_i es bo
    split at h
    ·rename_i hg
     split at h
     ·rename_i el rB
      rw[if_pos hg]
      exact fin _ h
     ·exact absurd h aq
    ·exact absurd h aq
  ·exact absurd h aq
 ·exact fin _ h
 ·exact fin _ h
 ·exact absurd h aq
theorem PY {t:TypeId} {x:Operand} {x':aT} {agg:Bool} {sz:Nat} (ks:List Nat) (hr:Rel X T a μ) (ho:o.op= .load t x) (h1:dc X x=some x') (hg:gp X t=some agg) (hn:bO X t=some sz)
  (ah: (aH E (.A3 ks agg sz x')).run C ⟨T,μ.O⟩=some (v,σ')):σ'.T=T∧cT X o a μ σ'.O v:=by
 obtain⟨v0,h2,rfl⟩:=LX ah
 obtain⟨h3,val,w',φ',h4,h5,h6,h7⟩:=J3 hr ho h1 hg hn h2
 exact⟨h3,val,w',φ',h4,aj.GN ks h5,h6,h7⟩
theorem Dw {t e:TypeId} {x i:Operand} {x' i':aT} {sz:Nat} (hr:Rel X T a μ) (ho:o.op= .indexAddr t x i) (hd:bJ X t=some (.slice e)) (hn:bO X e=some sz)
  (h1:dc X x=some x') (h2:dc X i=some i') (ah: (aH E (.indexAddr sz x' i')).run C ⟨T,μ.O⟩=some (v,σ')):σ'.T=T∧cT X o a μ σ'.O v:=by
 simp only[aH,bz] at ah
 have hx:=aQ hr h1 μ.O
 have hi:=aQ hr h2 μ.O
 have fin: ∀ (p:Addr) (len cap:Nat) (k:IntKind) (n:Int),a.eval x= .slice (some p) len cap→a.eval i= .int k n→0≤n→n<len→
   (execOp a.eval o).run X.P μ.w= .ok (.value (.pointer (some (p.add (n.toNat*sz))))) μ.w:=fun p len cap k n hp hq V0 V1=>by
  simp only[execOp,ho]
  refine du ?_
  simp[Instr.indexAt,Sem.run_bind,hp,hq,asIntOf,run_underlying hd,V0,V1,eT hn]
 split at ah
 ·rename_i r g off len k n e1 e2
  simp only[Act.run] at ah
  split at ah
  ·rename_i hc
   obtain⟨rfl,rfl⟩:=aY ah
   rw[e1] at hx;rw[e2] at hi
   simp only[aj] at hx hi
   obtain⟨p,cap,hp,Uv,oO,bT⟩:=hx
   obtain⟨q0,q1,q2⟩:=bT hc.2.2.2
   have cM:cap≠0:=ae0
   have B1:=q2.resolve_left cM
   rw[B1] at hp
   refine⟨rfl,aN hr.a8 (fin _ len cap k n hp hi hc.1 hc.2.1) ?_⟩
   simp only[aj]
   refine⟨_,rfl,oO,fun _=> ⟨q0,?_⟩⟩
   rw[gA,hc.2.2.1]
   simp only[Addr.mk.injEq,true_and,and_true]
   rw[agv];omega
  ·exact absurd ah aq
 ·rename_i sz' xs k n e1 e2
  split at ah
  ·rename_i hc
   split at ah
   ·rename_i el rB
    obtain⟨rfl,rfl⟩:=aY ah
    rw[e1] at hx;rw[e2] at hi
    simp only[aj] at hx hi
    obtain⟨mr,Fv,p,cap,vs,hp,Uv,lE,jZ⟩:=hx
    have bk:n.toNat<xs.length:=(af0.1 rB).1
    rcases jZ with jZ| ⟨b,q,Wr,gR,To,dg⟩
    ·subst jZ;simp at bk
    ·rw[Wr] at hp
     obtain⟨xv,re,bl⟩:=lE.get rB
     refine⟨rfl,aN hr.a8 (fin _ xs.length cap k n hp hi hc.1 ae0) ?_⟩
     simp only[aj]
     refine⟨pW mr rB,?_,b,q+n.toNat*sz,sz,xv,by rw[gA];simp,gR,To,bl,?_⟩
     ·simp only[af5] at Fv
      exact Fv el (List.mem_of_getElem? rB)
     ·have:=(dg.drop n.toNat).take 1
      rw[hc.2] at this
      have Fb: (vs.drop n.toNat).take 1=[xv]:=by
        have GP:n.toNat<vs.length:=(af0.1 re).1
        rw[agq GP,agO,ahn]
        rw[af3 GP] at re
        injection re with re;rw[re]
      rwa [Fb] at this
   ·exact absurd ah aq
  ·exact absurd ah aq
 ·rename_i sz' xs k n e1 e2
  split at ah
  ·rename_i hc
   split at ah
   ·rename_i el rB
    obtain⟨rfl,rfl⟩:=aY ah
    rw[e1] at hx;rw[e2] at hi
    simp only[aj] at hx hi
    obtain⟨mr,Fv,p,cap,vs,hp,Uv,lE,jZ⟩:=hx
    have bk:n.toNat<xs.length:=(af0.1 rB).1
    rcases jZ with jZ| ⟨Wr,gR,To,dg⟩
    ·subst jZ;simp at bk
    ·rw[Wr] at hp
     obtain⟨xv,re,bl⟩:=lE.get rB
     refine⟨rfl,aN hr.a8 (fin _ xs.length cap k n hp hi hc.1 ae0) ?_⟩
     simp only[aj]
     refine⟨pW mr rB,?_,xv,by rw[gA];simp,gR,To,bl,?_⟩
     ·simp only[af5] at Fv
      exact Fv el (List.mem_of_getElem? rB)
     ·have:=(dg.drop n.toNat).take 1
      rw[hc.2.1] at this
      have Fb: (vs.drop n.toNat).take 1=[xv]:=by
        have GP:n.toNat<vs.length:=(af0.1 re).1
        rw[agq GP,agO,ahn]
        rw[af3 GP] at re
        injection re with re;rw[re]
      rwa [Fb] at this
   ·exact absurd ah aq
  ·exact absurd ah aq
 ·exact absurd ah aq
theorem F8 {t e:TypeId} {x i:Operand} {x' i':aT} {n sz:Nat} (hr:Rel X T a μ) (ho:o.op= .indexAddr t x i) (hd:bJ X t=some (.array n e)) (hn:bO X e=some sz)
  (h1:dc X x=some x') (h2:dc X i=some i') (ah: (aH E (.o9 n sz x' i')).run C ⟨T,μ.O⟩=some (v,σ')):σ'.T=T∧cT X o a μ σ'.O v:=by
 simp only[aH,bz] at ah
 have hx:=aQ hr h1 μ.O
 have hi:=aQ hr h2 μ.O
 have fin: ∀ (p:Addr) (k:IntKind) (j:Int),a.eval x= .pointer (some p)→a.eval i= .int k j→0≤j→j<n→
   (execOp a.eval o).run X.P μ.w= .ok (.value (.pointer (some (p.add (j.toNat*sz))))) μ.w:=fun p k j hp hq V0 V1=>by
  simp only[execOp,ho]
  refine du ?_
  simp[Instr.indexAt,Sem.run_bind,hp,hq,asIntOf,run_underlying hd,V0,V1,eT hn,Instr.sureAddr]
 split at ah
 ·rename_i r g idx off k j e1 e2
  split at ah
  ·rename_i hc
   obtain⟨rfl,rfl⟩:=aY ah
   rw[e1] at hx;rw[e2] at hi
   simp only[aj] at hx hi
   obtain⟨p,hp,oO,bT⟩:=hx
   refine⟨rfl,aN hr.a8 (fin p k j hp hi hc.1 hc.2) ?_⟩
   simp only[aj]
   refine⟨_,rfl,oO,fun hg=> ⟨(bT hg).1,?_⟩⟩
   rw[(bT hg).2,gA];simp[ahy]
  ·exact absurd ah aq
 ·rename_i el off k j e1 e2
  split at ah
  ·rename_i hc
   obtain⟨rfl,rfl⟩:=aY ah
   rw[e1] at hx;rw[e2] at hi
   simp only[aj] at hx hi
   obtain⟨hp0,GW,b,q,sz',xv,hp,ud⟩:=hx
   refine⟨rfl,aN hr.a8 (fin _ k j hp hi hc.1 hc.2) ?_⟩
   simp only[aj]
   exact⟨hp0,GW,b,q,sz',xv,by rw[gA];simp[ahy],ud⟩
  ·exact absurd ah aq
 ·exact absurd ah aq
theorem F9 {t:TypeId} {x i:Operand} {x' i':aT} (hr:Rel X T a μ) (ho:o.op= .index t x i) (hd:bJ X t=some .string)
  (h1:dc X x=some x') (h2:dc X i=some i') (ah: (aH E (.pb x' i')).run C ⟨T,μ.O⟩=some (v,σ')):σ'.T=T∧cT X o a μ σ'.O v:=by
 simp only[aH,bz] at ah
 have hx:=aQ hr h1 μ.O
 have hi:=aQ hr h2 μ.O
 split at ah
 ·rename_i s k n e1 e2
  split at ah
  ·rename_i hc
   split at ah
   ·rename_i b hb
    obtain⟨rfl,rfl⟩:=aY ah
    rw[e1] at hx;rw[e2] at hi
    simp only[aj] at hx hi
    obtain⟨bs,To,rfl⟩:=hx
    refine⟨rfl,aN (val:= .int .u8 b.toNat) hr.a8 ?_ (by simp[aj])⟩
    simp only[execOp,ho]
    refine du ?_
    have kI:bs[n.toNat]? =some b:=by
     have bk:=(af0.1 hb).1
     have hv:=(af0.1 hb).2
     have bF:n.toNat<bs.size:=by rw[agh] at bk;exact bk
     rw[getElem?_pos bs n.toNat bF]
     congr 1
    simp[Instr.index,Sem.run_bind,To,hi,asIntOf,run_underlying hd,hc,kI]
   ·exact absurd ah aq
  ·exact absurd ah aq
 ·exact absurd ah aq
end
end Go.AM
namespace Go.AM
open Go Go.RowKit
def Tp (X:Ctx) (μ:Mu) (x:Option V) (v:Option Value):Prop:=(x=none∧v=none)∨ ∃x' v',x=some x'∧v=some v'∧aj X μ x' v'
theorem vB {X:Ctx} {μ:Mu} {T:Nat→V} {a:Go.Act} {x:Option Operand} {y:Option aT} (hr:Rel X T a μ) (h:AI X x=some y) (O:Nat→Obj):
  Tp X μ (y.map (bu ⟨T,O⟩)) (x.map a.eval):=by
 rcases PV hr h O with⟨rfl,rfl⟩ | ⟨x',y',rfl,rfl,bl⟩
 ·exact .inl ⟨rfl,rfl⟩
 ·exact .inr ⟨_,_,rfl,rfl,bl⟩
section
variable {X:Ctx} {E:Env} {C:bn} {o:Oper} {a:Go.Act} {T:Nat→V} {μ:Mu} {v:V} {σ':St}
theorem run_sliceBound {d l y:Nat} {x:V} {xv:Value} {code:BoundsCode} {w:World} (h:aj X μ x xv) (hb:cK d (some x)=some l) (hle:l≤y):
  (Instr.sliceBound xv y code).run X.P w= .ok l w:=by
 cases x<;>simp[cK] at hb
 obtain⟨h0,rfl⟩:=hb
 simp only[aj] at h
 subst h
 rename_i k n
 have:n≤(y:Int):=ae0
 simp[Instr.sliceBound,asIntOf,Sem.run_bind,h0,this]
theorem jB {isSlice:Bool} {len cap l h:Nat} {lo hi:Option V} {XJ XK:Option Value} {w:World} (h1:Tp X μ lo XJ) (h2:Tp X μ hi XK)
  (hl:cK 0 lo=some l) (hh:cK len hi=some h) (XL:l≤h) (cM:h≤cap):
  (Instr.sliceBounds isSlice len cap XJ XK none).run X.P w= .ok (l,h,cap) w:=by
 rcases h1 with⟨rfl,rfl⟩ | ⟨lx,lv,rfl,rfl,hlr⟩ <;>rcases h2 with⟨rfl,rfl⟩ | ⟨hx,hv,rfl,rfl,hhr⟩
 ·simp[cK] at hl hh;subst hl;subst hh
  simp[Instr.sliceBounds,Sem.run_bind]
 ·simp[cK] at hl;subst hl
  simp[Instr.sliceBounds,Sem.run_bind,run_sliceBound hhr hh cM]
 ·have hh':=hh
  simp[cK] at hh';subst hh'
  simp[Instr.sliceBounds,Sem.run_bind,run_sliceBound hlr hl XL]
 ·simp[Instr.sliceBounds,Sem.run_bind,run_sliceBound hlr hl XL,run_sliceBound hhr hh cM]
theorem jC {isSlice:Bool} {len cap l h m:Nat} {lo:Option V} {hi mx:V} {XJ:Option Value} {XK mxv:Value} {w:World} (h1:Tp X μ lo XJ) (h2:aj X μ hi XK) (h3:aj X μ mx mxv)
  (hl:cK 0 lo=some l) (hh:cK len (some hi)=some h) (hm:cK 0 (some mx)=some m) (XL:l≤h) (hhm:h≤m) (cM:m≤cap):
  (Instr.sliceBounds isSlice len cap XJ (some XK) (some mxv)).run X.P w= .ok (l,h,m) w:=by
 rcases h1 with⟨rfl,rfl⟩ | ⟨lx,lv,rfl,rfl,hlr⟩
 ·simp[cK] at hl;subst hl
  simp[Instr.sliceBounds,Sem.run_bind,run_sliceBound h3 hm cM,run_sliceBound h2 hh hhm]
 ·simp[Instr.sliceBounds,Sem.run_bind,run_sliceBound h3 hm cM,run_sliceBound h2 hh hhm,run_sliceBound hlr hl XL]
theorem PZ {t e:TypeId} {x:Operand} {lo hi mx:Option Operand} {x':aT} {lo' LF mx':Option aT} {sz:Nat} (hr:Rel X T a μ) (ho:o.op= .slice t x lo hi mx) (hd:bJ X t=some (.slice e))
  (hn:bO X e=some sz) (h1:dc X x=some x') (h2:AI X lo=some lo') (h3:AI X hi=some LF) (h4:AI X mx=some mx')
  (ah: (aH E (.slice sz x' lo' LF mx')).run C ⟨T,μ.O⟩=some (v,σ')):σ'.T=T∧cT X o a μ σ'.O v:=by
 simp only[aH,bz,Tk] at ah
 have hx:=aQ hr h1 μ.O
 have rl:=vB hr h2 μ.O
 have rh:=vB hr h3 μ.O
 have rm:=vB hr h4 μ.O
 generalize lo'.map (bu ⟨T,μ.O⟩)=XJ at ah rl
 generalize LF.map (bu ⟨T,μ.O⟩)=XK at ah rh
 generalize mx'.map (bu ⟨T,μ.O⟩)=mxv at ah rm
 have oX:X.P.underlying t=some (.slice e):=hd
 have fin: ∀ (p:Option Addr) (len cap l h m:Nat),a.eval x= .slice p len cap→(Instr.sliceBounds true len cap (lo.map a.eval) (hi.map a.eval) (mx.map a.eval)).run X.P μ.w= .ok (l,h,m) μ.w→
   (execOp a.eval o).run X.P μ.w= .ok (.value (.slice (if m=l then p else p.map (·.add (l*sz))) (h - l) (m - l))) μ.w:=fun p len cap l h m hp hb=>by
  simp only[execOp,ho]
  refine du ?_
  simp only[Instr.sliceAt,Sem.run_bind,run_underlying oX,Result.andThen_ok,Instr.slice,hp,hb,eT hn,Sem.run_pure]
 split at ah
 ·rename_i r g off len ey
  rw[ey] at hx
  simp only[aj] at hx
  obtain⟨p,cap,hp,Uv,oO,bT⟩:=hx
  simp only[Act.run] at ah
  split at ah
  ·rename_i es bo
   split at ah
   ·rename_i Ga
    obtain⟨q0,q1,q2⟩:=bT Ga.1
    have aeV:es.length≤(μ.φ r).cap:=(hr.a8.row r es bo q0).2.1
    split at ah
    ·
     rename_i _ l h hl hh
     split at ah
     ·   rename_i hle
         obtain⟨rfl,rfl⟩:=aY ah
         have CW:mx.map a.eval=none:=by
          rcases rm with⟨h5,h6⟩ | ⟨_,_,h5,_⟩
          ·exact h6
          ·cases h5
         have hb:=jB (isSlice:=true) (len:=len) (cap:=cap) (w:=μ.w) rl rh hl hh hle.1 ae0
         refine⟨rfl,aN hr.a8 (fin p len cap l h cap hp (by rw[CW];exact hb)) ?_⟩
         simp only[aj]
         refine⟨_,_,rfl,ae0,oO,fun _=> ⟨q0,ae0,?_⟩⟩
         by_cases ig:cap=l
         ·left;omega
         ·right
          rw[if_neg ig]
          have:cap≠0:=ae0
          rw[q2.resolve_left this,agc,gA,Ga.2]
          congr 2
          rw[agv];omega
     ·exact absurd ah aq
    ·
     rename_i _ l h' m hl hh
     split at ah
     ·   rename_i _ _ h m' Fy
         split at ah
         ·rename_i hle
          obtain⟨rfl,rfl⟩:=aY ah
          rcases rm with⟨h5,_⟩ | ⟨mxx,aa0,h5,h6,Gb⟩
          ·cases h5
          ·injection h5 with h5;subst h5
           rcases rh with⟨h7,_⟩ | ⟨hix,aa1,h7,h8,Gc⟩
           ·cases h7
           ·injection h7 with h7;subst h7
            have hb:=jC (isSlice:=true) (len:=len) (cap:=cap) (w:=μ.w) rl Gc Gb hl hh Fy hle.1 hle.2.1 ae0
            refine⟨rfl,aN hr.a8 (fin p len cap l h' m' hp (by rw[h6,h8];exact hb)) ?_⟩
            split
            ·rename_i CO
             simp only[aj]
             have e1:h' - l=0:=ae0
             have e2:m' - l=0:=ae0
             exact⟨_,by rw[e1,e2]⟩
            ·simp[aj]
         ·exact absurd ah aq
     ·exact absurd ah aq
    ·exact absurd ah aq
   ·exact absurd ah aq
  ·exact absurd ah aq
 ·obtain⟨yG,rfl⟩:=fD ah
  refine⟨rfl,?_⟩
  generalize bu ⟨T,μ.O⟩ x'=y at yG hx
  cases y<;>simp only[yc,reduceCtorEq] at yG
  ·
   simp only[aj] at hx
   obtain⟨p,hp⟩:=hx
   split at yG
   ·rename_i l h m hl hh hm
    split at yG<;>simp at yG
    rename_i hle
    subst yG
    have e1:l=0:=ae0
    have e2:h=0:=ae0
    have e3:m=0:=ae0
    subst e1;subst e2;subst e3
    have hb: ∃m',(Instr.sliceBounds true 0 0 (lo.map a.eval) (hi.map a.eval) (mx.map a.eval)).run X.P μ.w= .ok (0,0,m') μ.w∧m'=0:=by
     rcases rm with⟨rfl,h6⟩ | ⟨mxx,aa0,rfl,h6,Gb⟩
     ·rw[h6];exact⟨_,jB (isSlice:=true) (len:=0) (cap:=0) (w:=μ.w) rl rh hl hh (af6 _) (af6 _),rfl⟩
     ·   rcases rh with⟨rfl,h8⟩ | ⟨hix,aa1,rfl,h8,Gc⟩
         ·simp at hle
         ·rw[h6,h8];exact⟨_,jC (isSlice:=true) (len:=0) (cap:=0) (w:=μ.w) rl Gc Gb hl hh hm (af6 _) (af6 _) (af6 _),rfl⟩
    obtain⟨m',hb,rfl⟩:=hb
    refine aN hr.a8 (fin p 0 0 0 0 0 hp hb) ?_
    simp[aj]
   ·simp at yG
  ·
   rename_i sz' xs
   simp only[aj] at hx
   obtain⟨mr,Fv,p,cap,vs,hp,Uv,lE,jZ⟩:=hx
   split at yG
   ·rename_i aa2
    subst aa2
    split at yG
    ·rename_i l h hl hh
     split at yG<;>simp at yG
     rename_i hle
     subst yG
     obtain⟨_,CW⟩: (none:Option V)=none∧mx.map a.eval=none:=by
         rcases rm with⟨h5,h6⟩ | ⟨_,_,h5,_⟩
         ·exact⟨rfl,h6⟩
         ·cases h5
     have hb:=jB (isSlice:=true) (len:=xs.length) (cap:=cap) (w:=μ.w) rl rh hl hh hle.1 ae0
     refine aN hr.a8 (fin p xs.length cap l h cap hp (by rw[CW];exact hb)) ?_
     have oa: (aF xs l (h - l)).length=h - l:=by simp[aF];omega
     simp only[aj]
     refine⟨uu _ (uw _ mr),kV _ (nF _ Fv),_,_,(vs.drop l).take (h - l),by rw[oa],by rw[oa];omega,ag.take _ (ag.drop _ lE),?_⟩
     by_cases XL:l=h
     ·left;simp[aF,XL]
     ·   right
         rcases jZ with jZ| ⟨b,q,Wr,gR,To,dg⟩
         ·subst jZ;simp at hle;omega
         ·have: ¬cap=l:=ae0
          rw[if_neg this,Wr,agc,gA]
          exact⟨b,q+l*sz',rfl,gR,To,(dg.drop l).take _⟩
    ·rename_i l h m hl hh
     split at yG
     ·   rename_i hi0 m' Fy
         split at yG<;>simp at yG
         rename_i hle
         subst yG
         rcases rm with⟨h5,_⟩ | ⟨mxx,aa0,h5,h6,Gb⟩
         ·cases h5
         ·injection h5 with h5;subst h5
          rcases rh with⟨h7,_⟩ | ⟨hix,aa1,h7,h8,Gc⟩
          ·cases h7
          ·injection h7 with h7;subst h7
           have hb:=jC (isSlice:=true) (len:=xs.length) (cap:=cap) (w:=μ.w) rl Gc Gb hl hh Fy hle.1 hle.2.1 ae0
           refine aN hr.a8 (fin p xs.length cap l h m' hp (by rw[h6,h8];exact hb)) ?_
           split
           ·simp only[aj]
            have e1:h - l=0:=ae0
            have e2:m' - l=0:=ae0
            exact⟨_,by rw[e1,e2]⟩
           ·simp[aj]
     ·simp at yG
    ·simp at yG
   ·simp at yG
end
end Go.AM
namespace Go.AM
open Go Go.RowKit
def cN {α:Type} (L:List α) (p:Nat) (m:List α):List α:=L.take p++m++L.drop (p+m.length)
theorem fI {α:Type} {L m:List α} {p:Nat} (h:p+m.length≤L.length): (cN L p m).length=L.length:=by
 simp[cN];omega
theorem fq {α:Type} {L m:List α} {p:Nat} (h:p+m.length≤L.length) (q:Nat):
  (cN L p m)[q]? =if q<p then L[q]? else if q<p+m.length then m[q - p]? else L[q]? :=by
 unfold cN
 rw[ag4,ahP]
 have hl: (L.take p).length=p:=by simp;omega
 rw[hl]
 split
 ·rename_i hq
  rw[agy];simp[hq]
 ·rename_i hq
  rw[ahP]
  split
  ·rename_i hm
   rw[if_pos ae0]
  ·rename_i hm
   rw[if_neg ae0,ahF]
   congr 1;omega
def dI (c:List Value) (base sz:Nat) (vs:List Value):Prop:=
 ∀i v,vs[i]? =some v→v.cells.size=sz∧ ∀j x,v.cells[j]? =some x→c[base+i*sz+j]? =some x
def flat (us:List Value):List Value:=us.flatMap fun v=>v.cells.toList
theorem iH {us:List Value} {sz:Nat} (h: ∀v ∈ us,v.cells.size=sz): (flat us).length=us.length*sz:=by
 induction us with
 | nil=>simp[flat]
 | cons u us ih=>
   have h1:=h u afU
   have h2:=ih fun v hv=>h v (by simp[hv])
   simp only[flat,List.flatMap_cons,List.length_append,agb] at h2 ⊢
   rw[h2,agh,h1,agv];omega
theorem ux {us:List Value} {sz:Nat} (h: ∀v ∈ us,v.cells.size=sz) {i j:Nat} {v x:Value} (hv:us[i]? =some v) (hx:v.cells[j]? =some x):
   (flat us)[i*sz+j]? =some x:=by
 induction us generalizing i with
 | nil=>simp at hv
 | cons u us ih=>
   have h1:=h u afU
   simp only[flat,List.flatMap_cons]
   cases i with
   | zero=>
     simp at hv;subst hv
     have hj:j<u.cells.size:=(af1.1 hx).1
     rw[agM (by rw[agh];omega)]
     simpa using hx
   | succ i=>
     simp at hv
     have:=ih (fun v hv=>h v (by simp[hv])) hv
     rw[agU (by rw[agh,h1,agv];omega)]
     rw[agh,h1]
     have e: (i+1)*sz+j - sz=i*sz+j:=by rw[agv];omega
     rw[e];exact this
theorem xW {sz i j k:Nat} (hj:j<sz) (EC:i<k):i*sz+j<k*sz:=by
 have: (i+1)*sz≤k*sz:=agC _ ae0
 rw[agv] at this;omega
theorem Dx {sz i j k:Nat} (EC:k≤i):k*sz≤i*sz+j:=by
 have:k*sz≤i*sz:=agC _ EC
 omega
theorem dI.write {c:List Value} {base sz k:Nat} {vs us:List Value} (h:dI c base sz vs) (hk:k≤vs.length) (P0: ∀v ∈ us,v.cells.size=sz)
  (lM:base+k*sz+us.length*sz≤c.length):
  dI (cN c (base+k*sz) (flat us)) base sz (vs.take k++us++vs.drop (k+us.length)):=by
 have CX:=iH P0
 intro i v hv
 have bk: (vs.take k).length=k:=by simp;omega
 rw[ag4,ahP,bk] at hv
 split at hv
 ·rename_i hi
  rw[agy] at hv
  simp only[hi,if_true] at hv
  obtain⟨h1,h2⟩:=h i v hv
  refine⟨h1,fun j x hx=> ?_⟩
  have hj:j<sz:=h1 ▸ (af1.1 hx).1
  rw[fq (by rw[CX];omega),if_pos (by have:=xW hj hi;omega)]
  exact h2 j x hx
 ·rename_i hi
  rw[ahP] at hv
  split at hv
  ·rename_i FX
   have hvm:=List.mem_of_getElem? hv
   refine⟨P0 v hvm,fun j x hx=> ?_⟩
   have hj:j<sz:=P0 v hvm ▸ (af1.1 hx).1
   have oO:=Dx (sz:=sz) (j:=j) (show k≤i by omega)
   have kb:=xW (k:=k+us.length) hj (show i<k+us.length by omega)
   rw[agv] at kb
   rw[fq (by rw[CX];omega),if_neg ae0,if_pos (by rw[CX];omega)]
   have e:base+i*sz+j - (base+k*sz)=(i - k)*sz+j:=by
    rw[Nat.sub_mul]
    have:=agC sz (show k≤i by omega)
    omega
   rw[e]
   exact ux P0 hv hx
  ·rename_i FX
   rw[ahF] at hv
   have e:k+us.length+(i - k - us.length)=i:=ae0
   rw[e] at hv
   obtain⟨h1,h2⟩:=h i v hv
   refine⟨h1,fun j x hx=> ?_⟩
   have oO:=Dx (sz:=sz) (j:=j) (show k+us.length≤i by omega)
   rw[agv] at oO
   rw[fq (by rw[CX];omega),if_neg ae0,if_neg (by rw[CX];omega)]
   exact h2 j x hx
theorem dI.take {c:List Value} {base sz:Nat} {vs:List Value} (h:dI c base sz vs) (n:Nat):dI c base sz (vs.take n):=by
 intro i v hv
 rw[agy] at hv
 split at hv
 ·exact h i v hv
 ·simp at hv
theorem dI.drop {c:List Value} {base sz:Nat} {vs:List Value} (h:dI c base sz vs) (n:Nat):dI c (base+n*sz) sz (vs.drop n):=by
 intro i v hv
 rw[ahF] at hv
 obtain⟨h1,h2⟩:=h (n+i) v hv
 refine⟨h1,fun j x hx=> ?_⟩
 rw[←h2 j x hx,agv]
 congr 1;omega
theorem dI.put {c:List Value} {base sz idx off:Nat} {vs m:List Value} {x x':Value} (h:dI c base sz vs) (hx:vs[idx]? =some x)
  (lM:base+(idx+1)*sz≤c.length) (hm:off+m.length≤sz) (wh:x'.cells.toList=cN x.cells.toList off m):
  dI (cN c (base+idx*sz+off) m) base sz (vs.set idx x'):=by
 have bF:=(h idx x hx).1
 rw[agv] at lM
 have iM:base+idx*sz+off+m.length≤c.length:=ae0
 have Q7:off+m.length≤x.cells.toList.length:=by have:x.cells.toList.length=x.cells.size:=agh;omega
 intro i v hv
 rw[agY] at hv
 split at hv
 ·rename_i e;subst e
  have bk:idx<vs.length:=(af0.1 hx).1
  simp only[bk,if_true,afY] at hv
  subst hv
  have Tq:x'.cells.size=sz:=by rw[←agh,wh,fI Q7,agh];exact bF
  refine⟨Tq,fun j y hy=> ?_⟩
  have hj:j<sz:=Tq ▸ (af1.1 hy).1
  have Hu: (cN x.cells.toList off m)[j]? =some y:=by rw[←wh];simpa using hy
  rw[fq Q7] at Hu
  rw[fq iM]
  have e2:base+idx*sz+j - (base+idx*sz+off)=j - off:=ae0
  split at Hu
  ·rw[if_pos ae0]
   exact(h idx x hx).2 j y (by simpa using Hu)
  ·split at Hu
   ·rw[if_neg ae0,if_pos ae0,e2];exact Hu
   ·rw[if_neg ae0,if_neg ae0]
    exact(h idx x hx).2 j y (by simpa using Hu)
 ·rename_i cF
  obtain⟨h1,h2⟩:=h i v hv
  refine⟨h1,fun j y hy=> ?_⟩
  have hj:j<sz:=h1 ▸ (af1.1 hy).1
  rw[fq iM]
  by_cases bk:i<idx
  ·have:=xW hj bk
   rw[if_pos ae0];exact h2 j y hy
  ·have:=Dx (sz:=sz) (j:=j) (show idx+1≤i by omega)
   rw[agv] at this
   rw[if_neg ae0,if_neg ae0];exact h2 j y hy
theorem jN {w:World} {b base sz:Nat} {vs:List Value} {c:Array Value} {T:TypeId} {fr:Nat×Nat} (hb:w.heap[b]? =some (.cells c T fr))
  (h:di w b base sz vs):dI c.toList base sz vs:=by
 intro i v hv
 obtain⟨h1,h2⟩:=h.PT hb i v hv
 exact⟨h1,fun j x hx=>by simpa using h2 j x hx⟩
theorem vC {P:Program} {w:World} {b q sz n:Nat} {vs:List Value} (h:di w b q sz vs) (hn:n≤vs.length):
  (loadCells ⟨b,q,none⟩ (n*sz)).run P w= .ok (flat (vs.take n)).toArray w:=by
 have hs: ∀v ∈ vs.take n,v.cells.size=sz:=fun v hv=>by
  obtain⟨i,hi⟩:=ahp (agp hv)
  exact(h i v hi).1
 have hl: (flat (vs.take n)).length=n*sz:=by rw[iH hs,agz,Nat.min_eq_left hn]
 rw[←hl]
 refine run_loadCells_list w ⟨b,q,none⟩ _ fun p x hx=> ?_
 rw[gA]
 have hp:p<n*sz:=by rw[←hl];exact(af0.1 hx).1
 have bF:0 <sz:=by
  rcases agr sz with e| e
  ·subst e;simp at hp
  ·exact e
 have hi:p / sz<n:=Nat.div_lt_of_lt_mul (by rw[ahj];exact hp)
 have B1:p / sz*sz+p % sz=p:=by rw[ahj];exact Nat.div_add_mod p sz
 have aeW:p / sz<vs.length:=ae0
 have hv:vs[p / sz]? =some vs[p / sz]:=af3 aeW
 have hvt: (vs.take n)[p / sz]? =some vs[p / sz]:=by rw[agy];simp[hi,hv]
 obtain⟨h1,h2⟩:=h _ _ hv
 have hm:p % sz< (vs[p / sz]).cells.size:=by rw[h1];exact Nat.mod_lt _ bF
 have hc: (vs[p / sz]).cells[p % sz]? =some (vs[p / sz]).cells[p % sz]:=agl hm
 have g1:=ux hs hvt hc
 rw[B1,hx] at g1
 injection g1 with g1
 have g2:=h2 _ _ hc
 rw[ahy,B1,←g1] at g2
 exact g2
end Go.AM
namespace Go.AM
open Go Go.RowKit
theorem cm {v:V} {sz:Nat} (h:aU v sz=true):v.da=true∧v.cells.length=sz:=by
 simp[aU] at h;exact⟨h.2,h.1⟩
theorem ij {X:Ctx} {t:TypeId} {z:V} (h:eY X t=some z) (w:World): ∃zv,(zeroValue t).run X.P w= .ok zv w∧zt zv=some z:=by
 simp only[eY,info,Option.bind_eq_some_iff] at h
 obtain⟨i,h1,zv,h2,h3⟩:=h
 exact⟨zv,by simp[zeroValue,Sem.run_bind,run_typeInfo w h1,h2],h3⟩
theorem ag.cells_one {X:Ctx} {μ:Mu} {ys:List V} {us:List Value} {sz:Nat} (h:ag X μ ys us) (hb:ys.all (aU · sz)=true):
  (∀u ∈ us,u.cells.size=sz)∧ ∀c ∈ flat us,c.oneCell'=true:=by
 have hh: ∀u ∈ us,∃y,y ∈ ys∧aj X μ y u:=fun u hu=>by
  obtain⟨i,hi⟩:=ahp hu
  have bk:i<ys.length:=by rw[h.length];exact(af0.1 hi).1
  obtain⟨u',h1,h2⟩:=h.get (af3 bk)
  rw[hi] at h1;injection h1 with h1;subst h1
  exact⟨_,agP bk,h2⟩
 simp only[af5] at hb
 refine⟨fun u hu=> ?_,fun c hc=> ?_⟩
 ·obtain⟨y,hy,hr⟩:=hh u hu
  obtain⟨h1,h2⟩:=cm (hb y hy)
  rw[hr.fp h1,h2]
 ·simp only[flat,List.mem_flatMap] at hc
  obtain⟨u,hu,hcu⟩:=hc
  obtain⟨y,hy,hr⟩:=hh u hu
  obtain⟨h1,h2⟩:=cm (hb y hy)
  obtain⟨j,hj⟩:=ahp hcu
  have nM:=hr.cells h1
  have bk:j<y.cells.length:=by rw[nM.length];exact(af0.1 hj).1
  obtain⟨u',g1,g2⟩:=nM.get (af3 bk)
  rw[hj] at g1;injection g1 with g1;subst g1
  have Uw:=hr.kL h1
  simp only[af5] at Uw
  exact(g2.oA (Uw _ (agP bk))).1
theorem jO {P:Program} {w:World} {g q:Nat} {cur:Array Value} {T:TypeId} (hg:w.heap[g]? =some (.cells cur T (0,0))) (m:List Value) (hl:q+m.length≤cur.size)
  (h1: ∀v ∈ m,v.oneCell'=true): (storeCells ⟨g,q,none⟩ m).run P w= .ok () (w.setRow g (cN cur.toList q m).toArray):=by
 have:=run_storeCells_at (P:=P) g q T m 0 cur w hg (by simpa using hl) h1
 simpa [cN] using this
section
variable {X:Ctx} {E:Env} {C:bn} {o:Oper} {a:Go.Act} {T:Nat→V} {μ:Mu} {v:V} {σ':St}
theorem P1 (hr:Rel X T a μ) {r sz:Nat} {arr:Bool} {es:List V} {vs:List Value} {c:Array Value} {t:TypeId} {val:Value} (bF:0 <sz) (cap:Nat)
  (cM:es.length≤cap) (jM:es.all (aU · sz)=true) (bl:ag X μ es vs) (hc:cap*sz≤c.size) (dg:dI c.toList 0 sz vs)
  (ah: (execOp a.eval o).run X.P μ.w= .ok (.value val) (μ.w.alloc (.cells c t (0,0))))
  (hv:let μ':Mu:=⟨μ.w.alloc (.cells c t (0,0)),cU μ.φ r ⟨μ.w.heap.size,0,cap⟩,cU μ.O r {gen:=(μ.O r).gen+1,sz:=sz,arr:=arr,fz:=false,es:=some es}⟩;aj X μ' v val):
  cT X o a μ (cU μ.O r {gen:=(μ.O r).gen+1,sz:=sz,arr:=arr,fz:=false,es:=some es}) v:=by
 obtain⟨h1,h2⟩:=Dp (X:=X) hr.a8 r sz cap arr (es:=es) (vs:=vs) (c:=c) t bF cM jM bl hc (fun i u hu=>by
  obtain⟨k1,k2⟩:=dg i u hu
  exact⟨k1,fun j x hx=>by simpa using k2 j x hx⟩)
 exact⟨val,_,_,.inl ah,hv,h1,h2⟩
theorem Iq {x:Value}:dI x.cells.toList 0 x.cells.size [x]:=by
 intro i v hv
 cases i with
 | zero=>simp at hv;subst hv;exact⟨rfl,fun j y hy=>by simpa using hy⟩
 | succ i=>simp at hv
theorem P2 {t:TypeId} {x':aT} {r sz:Nat} {xv:Value} (hr:Rel X T a μ) (hx:aj X μ (bu ⟨T,μ.O⟩ x') xv)
  (aa3: (execOp a.eval o).run X.P μ.w= .ok (.value (.pointer (some ⟨μ.w.heap.size,0,none⟩))) (μ.w.alloc (.cells xv.cells t (0,0))))
  (ah: (aH E (.new r sz x')).run C ⟨T,μ.O⟩=some (v,σ')):σ'.T=T∧cT X o a μ σ'.O v:=by
 simp only[aH,bz] at ah
 split at ah
 ·rename_i hb
  simp only[af2,decide_eq_true_eq] at hb
  simp only[Act.run,afY,af4] at ah
  obtain⟨rfl,rfl⟩:=ah
  obtain⟨hl,ig⟩:=cm hb.1
  have bF:xv.cells.size=sz:=by rw[hx.fp hl,ig]
  refine⟨rfl,P1 hr (cap:=1) (es:=[bu ⟨T,μ.O⟩ x']) (vs:=[xv]) (c:=xv.cells) hb.2 afU (by simp[hb.1]) (by simp[ag,hx]) ae0 (bF ▸ Iq) aa3 ?_⟩
  simp only[aj,aw]
  exact⟨_,rfl,af6 _,fun _=> ⟨hb.2,afU⟩⟩
 ·exact absurd ah aq
theorem P3 {t:TypeId} {r sz:Nat} {z:V} (ks:List Nat) (hr:Rel X T a μ) (ho:o.op= .alloc t) (hz:eY X t=some z)
  (ah: (aH E (.new r sz (.const (GN ks z)))).run C ⟨T,μ.O⟩=some (v,σ')):σ'.T=T∧cT X o a μ σ'.O v:=by
 obtain⟨zv,h1,h2⟩:=ij hz μ.w
 refine P2 (t:=t) (xv:=zv) hr (aj.GN ks (eG h2).1) ?_ ah
 simp only[execOp,ho]
 refine du ?_
 simp[Instr.alloc,Sem.run_bind,h1,newVar,newRow]
theorem Wt {t:TypeId} {r sz:Nat} {x:Operand} {x':aT} (ks:List Nat) (hr:Rel X T a μ) (ho:o.op= .box t x) (h1:dc X x=some x')
  (ah: (aH E (.new r sz (Uq ks x'))).run C ⟨T,μ.O⟩=some (v,σ')):σ'.T=T∧cT X o a μ σ'.O v:=by
 refine P2 (t:=t) (xv:=a.eval x) hr (aj.Uq ks (aQ hr h1 μ.O)) ?_ ah
 simp only[execOp,ho]
 refine du ?_
 simp[Instr.box,Sem.run_bind,newVar,newRow]
theorem Gd {zv:Value} {sz n:Nat} (hz:zv.cells.size=sz):
  ((Array.range (n*sz)).map (fun i=>zv.cells[i % zv.cells.size]!)).size=n*sz∧
    dI ((Array.range (n*sz)).map (fun i=>zv.cells[i % zv.cells.size]!)).toList 0 sz (List.replicate n zv):=by
 refine⟨afU,fun i v hv=> ?_⟩
 rw[List.getElem?_replicate] at hv
 split at hv<;>simp at hv
 rename_i hi
 subst hv
 refine⟨hz,fun j x hx=> ?_⟩
 have hj:j<sz:=hz ▸ (af1.1 hx).1
 have bk:=xW hj hi
 have hm: (i*sz+j) % sz=j:=by rw[ahj,Nat.mul_add_mod];exact Nat.mod_eq_of_lt hj
 have hr: (Array.range (n*sz))[i*sz+j]? =some (i*sz+j):=by simp[bk]
 simp only[agK,ahS,age]
 rw[ahG,hr]
 simp only[agc,hz,hm]
 rw[getElem!_def,hx]
theorem ag.replicate {z:V} {zv:Value} (h:aj X μ z zv): ∀n,ag X μ (List.replicate n z) (List.replicate n zv)
 | 0=>by simp[ag]
 | n+1=>by simp only[List.replicate_succ,ag];exact⟨h,ag.replicate h n⟩
theorem rI {c:V} {k:V→Act} {val:Value} {O:Nat→Obj} {p:V×St} (ho:ba X ⟨μ.w,μ.φ,O⟩) (hv:aj X ⟨μ.w,μ.φ,O⟩ c val) (ah: (iP c k).run C ⟨T,O⟩=some p):
   ∃c' O',(k c').run C ⟨T,O'⟩=some p∧aj X ⟨μ.w,μ.φ,O'⟩ c' val∧Le ⟨μ.w,μ.φ,O⟩ ⟨μ.w,μ.φ,O'⟩∧ba X ⟨μ.w,μ.φ,O'⟩∧(c.aR=true→c'.aR=true):=by
 have same: (iP c k).run C ⟨T,O⟩=(k c).run C ⟨T,O⟩→_:=fun e=> (⟨c,O,e ▸ ah,hv,Le.refl _,ho,id⟩: ∃c' O',(k c').run C ⟨T,O'⟩=some p∧aj X ⟨μ.w,μ.φ,O'⟩ c' val∧Le ⟨μ.w,μ.φ,O⟩ ⟨μ.w,μ.φ,O'⟩∧ba X ⟨μ.w,μ.φ,O'⟩∧(c.aR=true→c'.aR=true))
 cases c with
 | mp r g=>
   simp only[iP,Act.run] at ah
   split at ah
   ·rename_i es bo
    split at ah
    ·rename_i hc
     obtain⟨np,tF,Wu,Tr⟩:=hc
     simp only[Act.run] at ah
     obtain⟨le,uR⟩:=oB (μ:=⟨μ.w,μ.φ,O⟩) ho r
     refine⟨_,_,ah,?_,le,uR,fun _=>rfl⟩
     simp only[aj] at hv
     obtain⟨a,rfl,h1,h2⟩:=hv
     obtain⟨k0,rfl⟩:=h2 np
     have uh:=uR.ents r es (by simp[aw,bo]) (by simp[aw,tF])
     rcases uh with⟨cM,ents,clock,hm,bl,cr⟩ | ⟨_,s,pos,_,rfl⟩ | ⟨lX,rfl⟩
     rotate_left
     ·simp[V.isTuple] at Tr
     ·simp[V.isTuple] at Tr
     simp only[aj]
     refine⟨Wu,.inr ⟨_,ents,clock,rfl,?_,(af1.1 hm).1,⟨hm,cr⟩,bl⟩⟩
     rintro(⟨r',h1,h2,h3,h4⟩ | Ir)
     ·by_cases e:r'=r
      ·subst e;simp[aw] at h2
      ·exact uR.inj r' r e h1 (by simp[aw,bo]) h3 cM h4
     ·exact uR.sS r (by simp[aw,bo]) cM Ir
    ·exact absurd ah aq
   ·exact absurd ah aq
 | sl r g off len=>
   simp only[iP,Act.run] at ah
   split at ah
   ·rename_i es bo
    split at ah
    ·rename_i hc
     obtain⟨np,tF,Wu,Tr⟩:=hc
     simp only[Act.run] at ah
     obtain⟨le,uR⟩:=oB (μ:=⟨μ.w,μ.φ,O⟩) ho r
     refine⟨_,_,ah,?_,le,uR,fun _=>rfl⟩
     have oa: (aF es off len).length=len:=by simp[aF];omega
     have xS:=aj.mono le hv
     simp only[aj,aw] at xS
     obtain⟨a0,cap,rfl,hle,_,bT⟩:=xS
     obtain⟨k0,k1,k2⟩:=bT np
     obtain⟨q1,q2,q3,q4⟩:=uR.row r es (by simp[aw,bo]) (by simpa [aw] using k0)
     simp only[aw] at q1 q2 q3 q4
     simp only[aj]
     refine⟨Tr,?_,a0,cap,?_⟩
     ·simp only[af5] at q3 ⊢
      exact fun x hx=> (cm (q3 x (agF (agp hx)))).1
     ·by_cases cM:cap=0
      ·have:len=0:=ae0
       subst this
       refine⟨[],by rw[oa],by rw[oa];omega,?_,.inl ?_⟩
       ·simp[aF,ag]
       ·simp[aF]
      ·have il: (μ.φ r).cap≠0:=ae0
       rcases q4 with q4| ⟨cc,TT,vs,p1,p2,p3,p4⟩
       ·exact absurd q4 il
       ·refine⟨(vs.drop off).take len,by rw[oa],by rw[oa];omega,ag.take _ (ag.drop _ p3),.inr ⟨_,_,k2.resolve_left cM,?_,(af1.1 p1).1,(p4.drop off).take len⟩⟩
        rintro(⟨r',h1,h2,h3,h4⟩ | Ir)
        ·by_cases e:r'=r
         ·subst e;simp[aw] at h2
         ·have:=uR.inj r' r e h1 (by simp[aw,bo]) h3 il
          exact this h4
        ·exact uR.sS r (by simp[aw,bo]) il Ir
    ·exact absurd ah aq
   ·exact absurd ah aq
 | own _ _=>exact absurd ah aq
 | msl _ _ _ _=>exact absurd ah aq
 | mptr _ _ _ _=>exact absurd ah aq
 | any=>exact absurd ah aq
 | it _ _=>exact absurd ah aq
 | _=>exact same rfl
theorem pX: ∀ {cs:List V} {k:List V→Act} {vals:List Value} {O:Nat→Obj} {p:V×St},ba X ⟨μ.w,μ.φ,O⟩→ag X ⟨μ.w,μ.φ,O⟩ cs vals→(lf cs k).run C ⟨T,O⟩=some p→
   ∃cP O',(k cP).run C ⟨T,O'⟩=some p∧ag X ⟨μ.w,μ.φ,O'⟩ cP vals∧Le ⟨μ.w,μ.φ,O⟩ ⟨μ.w,μ.φ,O'⟩∧ba X ⟨μ.w,μ.φ,O'⟩∧(cs.all V.aR=true→cP.all V.aR=true)
 | [],k,[],O,p,ho,_,ah=> ⟨[],O,ah,by simp[ag],Le.refl _,ho,id⟩
 | [],_,_::_,_,_,_,h,_=>by simp[ag] at h
 | _::_,_,[],_,_,_,h,_=>by simp[ag] at h
 | c::cs,k,v::vals,O,p,ho,h,ah=>by
   simp only[ag] at h
   obtain⟨c',O1,h1,h2,h3,h4,h5⟩:=rI ho h.1 ah
   obtain⟨cP,O2,k1,k2,k3,k4,k5⟩:=pX h4 (ag.mono h3 h.2) h1
   refine⟨c'::cP,O2,k1,?_,h3.trans k3,k4,?_⟩
   ·simp only[ag];exact⟨aj.mono k3 h2,k2⟩
   ·intro hh
    simp only[agj,af2] at hh ⊢
    exact⟨h5 hh.1,k5 hh.2⟩
theorem jD {c:V} {k:V→Act} {val:Value} {O:Nat→Obj} {p:V×St} (ho:ba X ⟨μ.w,μ.φ,O⟩) (hv:aj X ⟨μ.w,μ.φ,O⟩ c val) (ah: (A0 c k).run C ⟨T,O⟩=some p):
  ∃c' O',(k c').run C ⟨T,O'⟩=some p∧aj X ⟨μ.w,μ.φ,O'⟩ c' val∧Le ⟨μ.w,μ.φ,O⟩ ⟨μ.w,μ.φ,O'⟩∧ba X ⟨μ.w,μ.φ,O'⟩:=by
 unfold A0 at ah
 split at ah
 ·exact⟨c,O,ah,hv,Le.refl _,ho⟩
 ·split at ah
  ·simp only[aj] at hv
   obtain⟨h0,vs,rfl,lE⟩:=hv
   obtain⟨cP,O',h1,h2,h3,h4,h5⟩:=pX ho lE ah
   exact⟨_,O',h1,by simp only[aj];exact⟨h5 h0,vs,rfl,h2⟩,h3,h4⟩
  ·obtain⟨c',O',h1,h2,h3,h4,_⟩:=rI ho hv ah
   exact⟨c',O',h1,h2,h3,h4⟩
theorem rJ: ∀ {cs:List V} {k:List V→Act} {vals:List Value} {O:Nat→Obj} {p:V×St},ba X ⟨μ.w,μ.φ,O⟩→ag X ⟨μ.w,μ.φ,O⟩ cs vals→(mM.go cs k).run C ⟨T,O⟩=some p→
   ∃cP O',(k cP).run C ⟨T,O'⟩=some p∧ag X ⟨μ.w,μ.φ,O'⟩ cP vals∧Le ⟨μ.w,μ.φ,O⟩ ⟨μ.w,μ.φ,O'⟩∧ba X ⟨μ.w,μ.φ,O'⟩
 | [],k,[],O,p,ho,_,ah=> ⟨[],O,ah,by simp[ag],Le.refl _,ho⟩
 | [],_,_::_,_,_,_,h,_=>by simp[ag] at h
 | _::_,_,[],_,_,_,h,_=>by simp[ag] at h
 | c::cs,k,v::vals,O,p,ho,h,ah=>by
   simp only[ag] at h
   obtain⟨c',O1,h1,h2,h3,h4⟩:=jD ho h.1 ah
   obtain⟨cP,O2,k1,k2,k3,k4⟩:=rJ h4 (ag.mono h3 h.2) h1
   refine⟨c'::cP,O2,k1,?_,h3.trans k3,k4⟩
   simp only[ag];exact⟨aj.mono k3 h2,k2⟩
theorem zD {cs:List V} {k:List V→Act} {vals:List Value} {O:Nat→Obj} {p:V×St} (ho:ba X ⟨μ.w,μ.φ,O⟩) (hv:ag X ⟨μ.w,μ.φ,O⟩ cs vals) (ah: (mM cs k).run C ⟨T,O⟩=some p):
  ∃cP O',(k cP).run C ⟨T,O'⟩=some p∧ag X ⟨μ.w,μ.φ,O'⟩ cP vals∧Le ⟨μ.w,μ.φ,O⟩ ⟨μ.w,μ.φ,O'⟩∧ba X ⟨μ.w,μ.φ,O'⟩:=by
 unfold mM at ah
 split at ah
 ·exact⟨cs,O,ah,hv,Le.refl _,ho⟩
 ·exact rJ ho hv ah
theorem Dy {b:Bool} {c:V} {k:V→Act} {val:Value} {O:Nat→Obj} {p:V×St} (ho:ba X ⟨μ.w,μ.φ,O⟩) (hv:aj X ⟨μ.w,μ.φ,O⟩ c val) (ah: (rY b c k).run C ⟨T,O⟩=some p):
  ∃c' O',(k c').run C ⟨T,O'⟩=some p∧aj X ⟨μ.w,μ.φ,O'⟩ c' val∧Le ⟨μ.w,μ.φ,O⟩ ⟨μ.w,μ.φ,O'⟩∧ba X ⟨μ.w,μ.φ,O'⟩:=by
 unfold rY at ah
 split at ah
 ·rename_i r g off
  simp only[Act.run] at ah
  split at ah
  ·rename_i e bo
   split at ah
   ·rename_i hc
    obtain⟨np,tF,Wu⟩:=hc
    simp only[Act.run] at ah
    obtain⟨le,uR⟩:=oB (μ:=⟨μ.w,μ.φ,O⟩) ho r
    refine⟨_,_,ah,?_,le,uR⟩
    have xS:=aj.mono le hv
    simp only[aj,aw] at xS
    obtain⟨a0,rfl,_,bT⟩:=xS
    obtain⟨k0,rfl⟩:=bT np
    obtain⟨q1,q2,q3,q4⟩:=uR.row r [e] (by simp[aw,bo]) (by simpa [aw] using k0)
    simp only[aw] at q1 q2 q3 q4
    simp only[agb,agi] at q2
    have hb:aU e (O r).sz=true:=by simpa using q3
    have cM: (μ.φ r).cap≠0:=ae0
    rcases q4 with q4| ⟨cc,TT,vs,p1,p2,p3,p4⟩
    ·omega
    match vs,p3,p4 with
    | [x],p3,p4=>
      simp only[ag,and_true] at p3
      simp only[aj]
      refine⟨Wu,(cm hb).1,_,_,_,x,?_,?_,(af1.1 p1).1,p3,p4⟩
      ·simp
      rintro(⟨r',h1,h2,h3,h4⟩ | Ir)
      · by_cases e:r'=r
        ·subst e;simp[aw] at h2
        ·exact uR.inj r' r e h1 (by simp[aw,bo]) h3 cM h4
      ·exact uR.sS r (by simp[aw,bo]) cM Ir
    | [],p3,_=>simp[ag] at p3
    | _::_::_,p3,_=>simp[ag] at p3
   ·exact absurd ah aq
  ·exact absurd ah aq
 ·exact⟨c,O,ah,hv,Le.refl _,ho⟩
theorem rK {a:Go.Act} (ht: ∀t,aj X μ (T t) (a.tmps.getD t undef)): ∀ {xs:List Operand} {ys:List aT} {bs:List Bool} {k:List V→Act} {O:Nat→Obj} {p:V×St},nD X xs=some ys→bs.length=ys.length→
   ba X ⟨μ.w,μ.φ,O⟩→Le μ ⟨μ.w,μ.φ,O⟩→(ku (bs.zip ys) k).run C ⟨T,O⟩=some p→
   ∃cs O',(k cs).run C ⟨T,O'⟩=some p∧ag X ⟨μ.w,μ.φ,O'⟩ cs (xs.map a.eval)∧Le ⟨μ.w,μ.φ,O⟩ ⟨μ.w,μ.φ,O'⟩∧ba X ⟨μ.w,μ.φ,O'⟩
 | [],ys,bs,k,O,p,h,hl,ho,le,ah=>by
   simp[nD] at h;subst h
   simp only[List.zip_nil_right,ku] at ah
   exact⟨[],O,ah,by simp[ag],Le.refl _,ho⟩
 | x::xs,ys,bs,k,O,p,h,hl,ho,le,ah=>by
   simp only[nD] at h
   split at h
   ·rename_i y ys' h1 h2
    injection h with h;subst h
    match bs,hl with
    | b::bs,hl=>
      simp only[List.zip_cons_cons,ku,bz] at ah
      have hx:=aQ (μ:=⟨μ.w,μ.φ,O⟩) ⟨fun t=>aj.mono le (ht t),ho⟩ h1 O
      obtain⟨c',O1,k1,k2,k3,k4⟩:=Dy ho hx ah
      obtain⟨cs,O2,g1,g2,g3,g4⟩:=rK ht h2 (by simpa using hl) k4 (le.trans k3) k1
      refine⟨c'::cs,O2,g1,?_,k3.trans g3,g4⟩
      simp only[List.map_cons,ag]
      exact⟨aj.mono g3 k2,g2⟩
   ·simp at h
theorem Dz {f:FuncId} {first caps:Array Operand} {n:Nat} {cs:List aT} {b:Operand→Bool} (hr:Rel X T a μ) (ho:o.op= .makeFunc (.func f) first caps) (KD:first.isEmpty=true)
  (hn:X.fo f=some n) (ht:nD X caps.toList=some cs) (ah: (aH E (.tk n ((caps.toList.map b).zip cs))).run C ⟨T,μ.O⟩=some (v,σ')):σ'.T=T∧cT X o a μ σ'.O v:=by
 simp only[aH] at ah
 have hl: (caps.toList.map b).length=cs.length:=by
  have:=(nE hr μ.O ht).length
  simpa using this.symm
 obtain⟨vs,O',h1,h2,h3,h4⟩:=rK hr.tmps ht hl hr.a8 (Le.refl _) ah
 obtain⟨rfl,rfl⟩:=aY h1
 obtain rfl:first= #[]:=by simpa using KD
 refine⟨rfl,.func (.func f) #[] (caps.map a.eval),μ.w,μ.φ,.inl ?_,?_,h3,h4⟩
 ·simp[execOp,ho,Instr.makeFunc,Sem.run_bind]
 ·simp only[aj]
  exact⟨f,_,rfl,hn,by simpa using h2⟩
end
end Go.AM
namespace Go.AM
open Go Go.RowKit
theorem rL {α:Type} (L:List α) (p:Nat) (x:α) (h:p<L.length):L.set p x=cN L p [x]:=by
 apply agQ
 intro q
 rw[fq (by simp;omega),agY]
 by_cases hq:q<p
 ·simp[hq];omega
 ·by_cases MJ:p=q
  ·subst MJ;simp[h]
  ·have: ¬q<p+1:=ae0
   simp[hq,MJ,this]
theorem cn {α:Type} (xs:Array α):xs.toList.length=xs.size:=agh
section
variable {X:Ctx} {E:Env} {C:bn} {o:Oper} {a:Go.Act} {T:Nat→V} {μ:Mu} {v:V} {σ':St}
theorem Ge {agg:Bool} {off sz:Nat} {e u e':V} {x val:Value} (he:aj X μ e x) (hl:e.da=true) (hu:aj X μ u val) (h:kr agg off sz e u=some e'):
  ∃x',aj X μ e' x'∧e'.da=true∧e'.cells.length=e.cells.length∧val.cells.size=sz∧off+sz≤x.cells.size∧x'.cells.toList=cN x.cells.toList off val.cells.toList∧
   ∀c ∈ val.cells.toList,c.oneCell'=true:=by
 unfold kr at h
 split at h
 ·split at h
  ·rename_i cs vs
   split at h<;>simp at h
   rename_i hc
   subst h
   simp only[aj] at he hu
   obtain⟨h0,xs,rfl,hx⟩:=he
   obtain⟨k0,ys,rfl,hy⟩:=hu
   have l1:=hx.length
   have l2:=hy.length
   rw[cn xs] at l1
   rw[cn ys] at l2
   refine⟨.agg (cN xs.toList off ys.toList).toArray,?_,rfl,?_,?_,?_,?_,?_⟩
   ·simp only[aj]
    refine⟨?_,_,rfl,?_⟩
    ·have t1:=kV (p:=V.aR) off h0
     have t2:=nF (p:=V.aR) (off+sz) h0
     simp only[ag6,t1,k0,t2,agE]
    ·have:=((ag.take off hx).append hy).append (ag.drop (off+sz) hx)
     simpa [cN,←l2,hc.1] using this
   ·simp[V.cells];omega
   ·simp only[Value.cells];omega
   ·simp only[Value.cells];omega
   ·simp[Value.cells]
   ·intro c V7
    simp only[Value.cells] at V7
    obtain⟨j,hj⟩:=ahp V7
    have bk:j<vs.length:=by rw[hy.length];exact(af0.1 hj).1
    obtain⟨c',g1,g2⟩:=hy.get (af3 bk)
    rw[hj] at g1;injection g1 with g1;subst g1
    simp only[af5] at k0
    exact(g2.oA (k0 _ (agP bk))).1
  ·simp at h
 ·split at h
  ·rename_i dX
   obtain⟨DA,nM⟩:=hu.oA dX.1
   have J4: ∀c ∈ val.cells.toList,c.oneCell'=true:=by rw[nM];simpa using DA
   split at h
   ·rename_i cs
    split at h<;>simp at h
    rename_i Im
    subst h
    simp only[aj] at he
    obtain⟨h0,xs,rfl,hx⟩:=he
    have l1:=hx.length
    rw[cn xs] at l1
    refine⟨.agg (xs.toList.set off val).toArray,?_,rfl,?_,?_,?_,?_,J4⟩
    ·simp only[aj]
     refine⟨?_,_,rfl,by simpa using ag.set hx off hu⟩
     simp only[af5] at h0 ⊢
     intro c V7
     rcases agf V7 with hm| rfl
     ·exact h0 c hm
     ·exact dX.1
    ·simp[V.cells]
    ·rw[nM,dX.2];rfl
    ·simp only[Value.cells];omega
    ·rw[nM]
     simp only[Value.cells]
     rw[rL _ _ _ (by rw[agh];omega)]
   ·split at h<;>simp at h
    rename_i cF il
    subst h
    obtain⟨_,hcx⟩:=he.oA il.1
    refine⟨val,hu,by simp[V.da,dX.1],?_,?_,?_,?_,J4⟩
    ·rw[V.iq dX.1,V.iq il.1];rfl
    ·rw[nM,dX.2];rfl
    ·rw[hcx,dX.2,il.2];simp
    ·rw[nM,hcx,il.2];simp[cN]
  ·simp at h
theorem DB {t:TypeId} {w:World} {g q sz:Nat} {cur:Array Value} {T0:TypeId} {val:Value} (hn:bO X t=some sz) (hg:w.heap[g]? =some (.cells cur T0 (0,0)))
  (hs:val.cells.size=sz) (hl:q+sz≤cur.size) (h1: ∀c ∈ val.cells.toList,c.oneCell'=true):
  (storeVar t ⟨g,q,none⟩ val).run X.P w= .ok () (w.setRow g (cN cur.toList q val.cells.toList).toArray):=by
 have:=jO (P:=X.P) hg val.cells.toList (by rw[agh,hs];exact hl) h1
 simp[storeVar,Sem.run_bind,eT hn,hs,this]
theorem wN {t:TypeId} {agg:Bool} {sz r g idx off:Nat} {u:V} {val:Value} {O:Nat→Obj} (ho:ba X ⟨μ.w,μ.φ,O⟩) (hu:aj X ⟨μ.w,μ.φ,O⟩ u val) (hn:bO X t=some sz) (h0:0 < (O r).sz)
  (ah: (aH.ln agg sz r g idx off u).run C ⟨T,O⟩=some (v,σ')):
  σ'.T=T∧v= .tuple []∧ ∃w' φ',(storeVar t ⟨(μ.φ r).bV,(μ.φ r).base+idx*(O r).sz+off,none⟩ val).run X.P μ.w= .ok () w'∧Le ⟨μ.w,μ.φ,O⟩ ⟨w',φ',σ'.O⟩∧ba X ⟨w',φ',σ'.O⟩:=by
 simp only[aH.ln,Act.run] at ah
 split at ah
 ·rename_i es bo
  split at ah
  ·rename_i hc
   split at ah
   ·rename_i e he
    split at ah
    ·rename_i e' hp
     simp only[Act.run,afY,af4] at ah
     obtain⟨rfl,rfl⟩:=ah
     obtain⟨k1,k2,k3,k4⟩:=ho.row r es bo h0
     simp only at k1 k2 k3 k4
     have bk:idx<es.length:=(af0.1 he).1
     have il: (μ.φ r).cap≠0:=ae0
     rcases k4 with k4| ⟨c,T0,vs,hb,lM,lE,dg⟩
     ·exact absurd k4 il
     ·obtain⟨x,hx,bl⟩:=lE.get he
      have jM:aU e (O r).sz=true:=by
       simp only[af5] at k3
       exact k3 e (List.mem_of_getElem? he)
      obtain⟨kq,ig⟩:=cm jM
      obtain⟨x',p1,p2,p3,p4,p5,p6,p7⟩:=Ge bl kq hu hp
      have I8:x.cells.size=(O r).sz:=by rw[bl.fp kq,ig]
      have C5:dI c.toList (μ.φ r).base (O r).sz vs:=jN hb dg
      have hmul: (idx+1)*(O r).sz≤(μ.φ r).cap*(O r).sz:=agC _ ae0
      have Wv: (μ.φ r).base+(idx+1)*(O r).sz≤c.toList.length:=by rw[agh];omega
      have fj:=C5.put (x':=x') hx Wv (m:=val.cells.toList) (by rw[agh,p4];omega) p6
      have eJ:=DB (X:=X) (t:=t) (q:=(μ.φ r).base+idx*(O r).sz+off) (val:=val) hn hb p4 (by rw[agv] at hmul;omega) p7
      have hw:=kU (μ:=⟨μ.w,μ.φ,O⟩) ho r bo hc.2 hb il (c':=(cN c.toList ((μ.φ r).base+idx*(O r).sz+off) val.cells.toList).toArray)
       (by
         have: (cN c.toList ((μ.φ r).base+idx*(O r).sz+off) val.cells.toList).length=c.toList.length:=fI (by
          rw[agh,agh,p4];rw[agv] at hmul;omega)
         simpa using this)
       (O r).gen (μ.φ r).base (μ.φ r).cap (es':=es.set idx e') (vs':=vs.set idx x') (.inl ⟨rfl,rfl,rfl⟩) il (by simpa using k2)
       (by
         simp only[af5] at k3 ⊢
         intro y hy
         rcases agf hy with hm| rfl
         ·exact k3 y hm
         ·simp[aU,p2,p3,ig])
       (ag.set lE idx p1) lM (fun i y hy=>by
         obtain⟨q1,q2⟩:=fj i y hy
         exact⟨q1,fun j z hz=>by simpa using q2 j z hz⟩)
      refine⟨rfl,rfl,_,_,eJ,hw.1,hw.2⟩
    ·exact absurd ah aq
   ·exact absurd ah aq
  ·exact absurd ah aq
 ·exact absurd ah aq
theorem P4 {t:TypeId} {x y:Operand} {x' y':aT} {agg:Bool} {sz:Nat} (hr:Rel X T a μ) (ho:o.op= .store t x y) (h1:dc X x=some x') (h2:dc X y=some y')
  (hn:bO X t=some sz) (ah: (aH E (.store agg sz x' y')).run C ⟨T,μ.O⟩=some (v,σ')):σ'.T=T∧cT X o a μ σ'.O v:=by
 simp only[aH,bz] at ah
 have hx:=aQ hr h1 μ.O
 have hy:=aQ hr h2 μ.O
 split at ah
 ·rename_i r g idx off e
  rw[e] at hx
  simp only[aj] at hx
  obtain⟨p,hp,oO,bT⟩:=hx
  have fin: ∀w',(storeVar t p (a.eval y)).run X.P μ.w= .ok () w'→(execOp a.eval o).run X.P μ.w= .ok .skip w':=fun w' hw=>by
   simp only[execOp,ho]
   refine zB ?_
   simp[Instr.storeAt,Instr.sureAddr,Sem.run_bind,hp,hw]
  have main: ∀ {O:Nat→Obj} {u:V},Le μ ⟨μ.w,μ.φ,O⟩→ba X ⟨μ.w,μ.φ,O⟩→aj X ⟨μ.w,μ.φ,O⟩ u (a.eval y)→(aH.ln agg sz r g idx off u).run C ⟨T,O⟩=some (v,σ')→
    σ'.T=T∧cT X o a μ σ'.O v:=by
   intro O u le eS hu fj
   have hgO: (O r).gen=g:=by
    simp only[aH.ln,Act.run] at fj
    split at fj
    ·split at fj
     ·rename_i hc;exact hc.1
     ·exact absurd fj aq
    ·exact absurd fj aq
   have Ww:=le.gen r
   simp only at Ww
   have Jz: (μ.O r).gen=g:=ae0
   obtain⟨_,DC⟩:=le.row r (by simp only;omega)
   obtain⟨q1,q2,w',φ',q3,q4,q5⟩:=wN (t:=t) eS hu hn (by simp only at DC;rw[DC];exact(bT Jz).1) fj
   refine⟨q1,undef,w',φ',.inr ⟨fin w' ?_,rfl⟩,?_,le.trans q4,q5⟩
   ·rw[(bT Jz).2]
    simp only at DC
    rw[←DC];exact q3
   ·rw[q2];simp only[aj];exact⟨#[],rfl,by simp[ag]⟩
  simp only[Act.run] at ah
  split at ah
  ·rw[bz] at ah
   obtain⟨u,O1,k1,k2,k3,k4⟩:=jD (μ:=μ) hr.a8 hy ah
   exact main k3 k4 k2 k1
  ·rw[bz] at ah
   exact main (Le.refl μ) hr.a8 hy ah
 ·exact absurd ah aq
theorem LY {t:TypeId} {x y:Operand} {x' y':aT} {agg:Bool} {sz:Nat} (hr:Rel X T a μ) (ho:o.op= .store t x y) (h1:dc X x=some x') (h2:dc X y=some y')
  (hn:bO X t=some sz) (ah: (aH E (.yw agg sz x' y')).run C ⟨T,μ.O⟩=some (v,σ')):σ'.T=T∧cT X o a μ σ'.O v:=by
 simp only[aH,bz] at ah
 have hx:=aQ hr h1 μ.O
 have hy:=aQ hr h2 μ.O
 split at ah
 ·rename_i r g idx off e
  rw[e] at hx
  simp only[aj] at hx
  obtain⟨p,hp,oO,bT⟩:=hx
  have fin: ∀w',(storeVar t p (a.eval y)).run X.P μ.w= .ok () w'→(execOp a.eval o).run X.P μ.w= .ok .skip w':=fun w' hw=>by
   simp only[execOp,ho]
   refine zB ?_
   simp[Instr.storeAt,Instr.sureAddr,Sem.run_bind,hp,hw]
  have main: ∀ {O:Nat→Obj} {u:V},Le μ ⟨μ.w,μ.φ,O⟩→ba X ⟨μ.w,μ.φ,O⟩→aj X ⟨μ.w,μ.φ,O⟩ u (a.eval y)→(aH.ln agg sz r g idx off u).run C ⟨T,O⟩=some (v,σ')→
    σ'.T=T∧cT X o a μ σ'.O v:=by
   intro O u le eS hu fj
   have hgO: (O r).gen=g:=by
    simp only[aH.ln,Act.run] at fj
    split at fj
    ·split at fj
     ·rename_i hc;exact hc.1
     ·exact absurd fj aq
    ·exact absurd fj aq
   have Ww:=le.gen r
   simp only at Ww
   have Jz: (μ.O r).gen=g:=ae0
   obtain⟨_,DC⟩:=le.row r (by simp only;omega)
   obtain⟨q1,q2,w',φ',q3,q4,q5⟩:=wN (t:=t) eS hu hn (by simp only at DC;rw[DC];exact(bT Jz).1) fj
   refine⟨q1,undef,w',φ',.inr ⟨fin w' ?_,rfl⟩,?_,le.trans q4,q5⟩
   ·rw[(bT Jz).2]
    simp only at DC
    rw[←DC];exact q3
   ·rw[q2];simp only[aj];exact⟨#[],rfl,by simp[ag]⟩
  rw[bz] at ah
  exact main (Le.refl μ) hr.a8 hy ah
 ·exact absurd ah aq
theorem B2 {off:Nat}: ∀ (m:List Value) (k:Nat) (cs:Array Value),off+k+m.length≤cs.size→
   ((m.zipIdx k).foldl (fun cs (p:Value×Nat)=>cs.setIfInBounds (off+p.2) p.1) cs).toList=cN cs.toList (off+k) m
 | [],k,cs,_=>by simp[cN]
 | x::m,k,cs,h=>by
   simp only[List.zipIdx_cons,List.foldl_cons]
   simp at h
   rw[B2 m (k+1) _ (by simp;omega)]
   rw[ahO]
   apply agQ
   intro q
   rw[fq (by simp;omega),fq (by simp;omega),agY]
   by_cases h1:q<off+k
   ·have:q<off+(k+1):=ae0
    have h2: ¬off+k=q:=ae0
    simp[h1,this,h2]
   ·by_cases h2:q=off+k
    ·subst h2
     have h3:off+k<off+(k+1):=ae0
     have h4:off+k<cs.size:=ae0
     simp[h3,h4]
    ·by_cases h3:q<off+k+(m.length+1)
     ·have h4: ¬q<off+(k+1):=ae0
      have h5:q<off+(k+1)+m.length:=ae0
      have h6:q - (off+k)=(q - (off+(k+1)))+1:=ae0
      simp[h1,h4,h3,h5,h6]
     ·have h4: ¬q<off+(k+1):=ae0
      have h5: ¬q<off+(k+1)+m.length:=ae0
      have h6: ¬off+k=q:=ae0
      simp[h1,h4,h3,h5,h6]
theorem B3 {off:Nat} {x:Value} {cs:Array Value} (h:off+x.cells.size≤cs.size):
  (x.cells.zipIdx.foldl (fun cs (p:Value×Nat)=>cs.setIfInBounds (off+p.2) p.1) cs).toList=cN cs.toList off x.cells.toList:=by
 rw[←Array.foldl_toList,Array.toList_zipIdx]
 have:=B2 (off:=off) x.cells.toList 0 cs (by rw[agh];omega)
 simpa using this
theorem Gf {place:Nat→Option (Nat×Nat)}: ∀ {ps:List (Nat×Nat×V)} {qs:List (Nat×Value)} {cs cP:List V} {xs:Array Value},
   (ps.length=qs.length)→(∀ (i:Nat) p q,ps[i]? =some p→qs[i]? =some q→place q.1=some (p.1,p.2.1)∧aj X μ p.2.2 q.2)→ag X μ cs xs.toList→cs.all V.aR=true→
   jq cs ps=some cP→ ∃PE,Instr.fill place xs qs=some PE∧ag X μ cP PE.toList∧cP.all V.aR=true
 | [],[],cs,cP,xs,_,_,hv,hc,h=>by
   simp[jq] at h;subst h
   exact⟨xs,rfl,hv,hc⟩
 | [],_::_,_,_,_,h,_,_,_,_=>by simp at h
 | _::_,[],_,_,_,h,_,_,_,_=>by simp at h
 | (off,sz,u)::ps,(i,q)::qs,cs,cP,xs,hl,hp,hv,hc,h=>by
   simp only[jq] at h
   split at h
   · rename_i uy
     obtain⟨h1,h2,h3⟩:=uy
     obtain⟨P5,bl⟩:=hp 0 _ _ rfl rfl
     simp only at P5 bl
     have hqs:q.cells.size=sz:=by rw[bl.fp h3,h1]
     have hlen:=hv.length
     rw[cn xs] at hlen
     have iM:off+q.cells.size≤xs.size:=ae0
     have mq:=B3 (x:=q) (cs:=xs) iM
     have JM:ag X μ (cs.take off++u.cells++cs.drop (off+sz)) (q.cells.zipIdx.foldl (fun cs (p:Value×Nat)=>cs.setIfInBounds (off+p.2) p.1) xs).toList:=by
      rw[mq]
      have:=((ag.take off hv).append (bl.cells h3)).append (ag.drop (off+sz) hv)
      simpa [cN,hqs] using this
     have tF: (cs.take off++u.cells++cs.drop (off+sz)).all V.aR=true:=by
      have t1:=kV (p:=V.aR) off hc
      have t2:=nF (p:=V.aR) (off+sz) hc
      simp only[ag6,t1,bl.kL h3,t2,agE]
     obtain⟨PE,g1,g2,g3⟩:=Gf (place:=place) (ps:=ps) (qs:=qs) (by simpa using hl) (fun j p q' hj P6=>hp (j+1) p q' (by simpa using hj) (by simpa using P6)) JM tF h
     refine⟨PE,?_,g2,g3⟩
     have Is: ¬ (q.cells.size≠sz∨xs.size<off+q.cells.size):=ae0
     simp only[Instr.fill,P5]
     rw[if_neg (by simpa using Is)]
     exact g1
   ·simp at h
end
end Go.AM
namespace Go.AM
open Go Go.RowKit
theorem rM {α β:Type} {P:Program} {w:World} {f:α→Sem β} {g:α→β}: ∀ (l:List α),(∀x ∈ l,(f x).run P w= .ok (g x) w)→(l.mapM f).run P w= .ok (l.map g) w
 | [],_=>afU
 | x::l,h=>by
   have h1:=h x afU
   have h2:=rM (f:=f) (g:=g) l fun y hy=>h y (by simp[hy])
   simp[List.mapM_cons,Sem.run_bind,h1,h2]
theorem zF {α β:Type} {P:Program} {w:World} {f:α→Sem β} {g:α→β} (l:Array α) (h: ∀x ∈ l.toList,(f x).run P w= .ok (g x) w): (l.mapM f).run P w= .ok (l.map g) w:=by
 have:=rM l.toList h
 rw[Array.mapM_eq_mapM_toList]
 simp only[map_eq_pure_bind,Sem.run_bind,this,Result.andThen_ok,Sem.run_pure]
 congr 1
 apply Array.ext';simp
section
variable {X:Ctx} {E:Env} {C:bn} {o:Oper} {a:Go.Act} {T:Nat→V} {μ:Mu} {v:V} {σ':St}
theorem wO: ∀ (ps:List (Nat×Nat×aT)) (k:List (Nat×Nat×V)→Act) (σ:St),(mh ps k).run C σ=(k (ps.map fun p=> (p.1,p.2.1,bu σ p.2.2))).run C σ
 | [],_,_=>rfl
 | (_,_,x)::ps,k,σ=>by simp only[mh,bz,wO ps,List.map_cons]
theorem wP (hr:Rel X T a μ) (O:Nat→Obj) {place:Nat→Option (Nat×Nat)}: ∀ {ps:List (Nat×Operand)} {aD:List (Nat×Nat×aT)},kM X place ps=some aD→
   aD.length=ps.length∧ ∀ (i:Nat) p q,aD[i]? =some p→ps[i]? =some q→place q.1=some (p.1,p.2.1)∧aj X μ (bu ⟨T,O⟩ p.2.2) (a.eval q.2)
 | [],aD,h=>by simp[kM] at h;subst h;simp
 | (i,x)::ps,aD,h=>by
   simp only[kM] at h
   split at h
   · rename_i off sz y Wx h1 h2 h3
     injection h with h;subst h
     obtain⟨k1,k2⟩:=wP hr O h3
     refine⟨by simp[k1],fun j p q hp hq=> ?_⟩
     cases j with
     | zero=>simp at hp hq;subst hp;subst hq;exact⟨h1,aQ hr h2 O⟩
     | succ j=>exact k2 j p q (by simpa using hp) (by simpa using hq)
   ·simp at h
theorem zG (ks:List Nat) (hr:Rel X T a μ) {t:TypeId} {z:List V} (hz:eY X t=some (.agg z)) {place:Nat→Option (Nat×Nat)} {parts:Array (Nat×Operand)} {aD:List (Nat×Nat×aT)}
  (hp:kM X place parts.toList=some aD) (ah: (aH E (.build (Cy ks z) aD)).run C ⟨T,μ.O⟩=some (v,σ')):
  σ'=⟨T,μ.O⟩∧ ∃zv cells,(zeroValue t).run X.P μ.w= .ok zv μ.w∧Instr.fill place zv.cells (parts.map fun (i,x)=> (i,a.eval x)).toList=some cells∧aj X μ v (.agg cells):=by
 simp only[aH,wO] at ah
 obtain⟨zv,xp,Am⟩:=ij hz μ.w
 obtain⟨zH,_⟩:=eG (X:=X) (μ:=μ) Am
 simp only[aj] at zH
 obtain⟨h0,xs,rfl,I8⟩:=zH
 obtain⟨l1,l2⟩:=wP hr μ.O hp
 split at ah
 ·rename_i cs nM
  obtain⟨rfl,rfl⟩:=aY ah
  have key:=Gf (X:=X) (μ:=μ) (place:=place) (ps:=aD.map fun p=> (p.1,p.2.1,bu ⟨T,μ.O⟩ p.2.2)) (qs:=(parts.map fun (i,x)=> (i,a.eval x)).toList) (xs:=xs)
   (by simp[l1]) (fun j p q hp hq=>by
     simp only[age,afZ] at hp
     obtain⟨p',Dg,rfl⟩:=hp
     rw[ahS,age,afZ] at hq
     obtain⟨q',Wy,rfl⟩:=hq
     exact l2 j p' q' Dg Wy) (I8.Cy ks) (sH ks h0) nM
  obtain⟨PE,g1,g2,g3⟩:=key
  exact⟨rfl,_,PE,xp,g1,by simp only[aj];exact⟨g3,PE,rfl,g2⟩⟩
 ·exact absurd ah aq
theorem LZ (ks:List Nat) {t:TypeId} {parts:Array (Nat×Operand)} {z:List V} {fs:Array Field} {aD:List (Nat×Nat×aT)} (hr:Rel X T a μ) (ho:o.op= .build t parts) (hz:eY X t=some (.agg z))
  (hd:bJ X t=some (.struct fs)) (kA:fs.toList.all (fun f=> (bO X f.type).isSome)=true)
  (hp:kM X (fun i=>match fs[i]? with| some f=> (bO X f.type).map fun s=> (f.offset,s) | none=>none) parts.toList=some aD)
  (ah: (aH E (.build (Cy ks z) aD)).run C ⟨T,μ.O⟩=some (v,σ')):σ'.T=T∧cT X o a μ σ'.O v:=by
 obtain⟨rfl,zv,cells,h1,h2,h3⟩:=zG ks hr hz hp ah
 refine⟨rfl,aN hr.a8 ?_ h3⟩
 simp only[execOp,ho]
 refine du ?_
 have oX:X.P.underlying t=some (.struct fs):=hd
 have hm:=zF (P:=X.P) (w:=μ.w) (f:=fun f:Field=>do pure (f.offset,←sizeOf f.type)) (g:=fun f:Field=> (f.offset,(bO X f.type).getD 0)) fs (fun f hf=>by
  simp only[af5] at kA
  obtain⟨s,hs⟩:=af8.1 (kA f hf)
  simp[Sem.run_bind,eT hs,hs])
 have DY: (fun (i:Nat)=> (fs.map fun (f:Field)=> (f.offset,(bO X f.type).getD 0))[i]?)=fun (i:Nat)=>match fs[i]? with| some f=> (bO X f.type).map fun s=> (f.offset,s) | none=>none:=by
  funext i
  rw[Array.getElem?_map]
  cases hf:fs[i]? with
  | none=>rfl
  | some f=>
    simp only[af5] at kA
    obtain⟨s,hs⟩:=af8.1 (kA f (by simpa using Array.mem_of_getElem? hf))
    simp[hs]
 simp only[Instr.build,Sem.run_bind,h1,Result.andThen_ok,run_underlying oX,hm,DY,h2,Sem.run_pure]
theorem L1 (ks:List Nat) {t e:TypeId} {n s:Nat} {parts:Array (Nat×Operand)} {z:List V} {aD:List (Nat×Nat×aT)} (hr:Rel X T a μ) (ho:o.op= .build t parts) (hz:eY X t=some (.agg z))
  (hd:bJ X t=some (.array n e)) (hs:bO X e=some s) (hp:kM X (fun i=>some (i*s,s)) parts.toList=some aD)
  (ah: (aH E (.build (Cy ks z) aD)).run C ⟨T,μ.O⟩=some (v,σ')):σ'.T=T∧cT X o a μ σ'.O v:=by
 obtain⟨rfl,zv,cells,h1,h2,h3⟩:=zG ks hr hz hp ah
 refine⟨rfl,aN hr.a8 ?_ h3⟩
 simp only[execOp,ho]
 refine du ?_
 have oX:X.P.underlying t=some (.array n e):=hd
 simp only[Instr.build,Sem.run_bind,h1,Result.andThen_ok,run_underlying oX,eT hs,h2,Sem.run_pure]
theorem rN (hr:Rel X T a μ): ∀ {ps:List (Nat×Operand)} {aD:List (Nat×aT)} {k:List (Nat×V)→Act} {O:Nat→Obj} {p:V×St},qP X ps=some aD→Le μ ⟨μ.w,μ.φ,O⟩→ba X ⟨μ.w,μ.φ,O⟩→
   (jK aD k).run C ⟨T,O⟩=some p→
   ∃vs O',(k vs).run C ⟨T,O'⟩=some p∧vs.length=ps.length∧Le ⟨μ.w,μ.φ,O⟩ ⟨μ.w,μ.φ,O'⟩∧ba X ⟨μ.w,μ.φ,O'⟩∧
     ∀ (i:Nat) q q',vs[i]? =some q→ps[i]? =some q'→q.1=q'.1∧aj X ⟨μ.w,μ.φ,O'⟩ q.2 (a.eval q'.2)
 | [],aD,k,O,p,h,le,ho,ah=>by
   simp[qP] at h;subst h
   exact⟨[],O,ah,rfl,Le.refl _,ho,afU⟩
 | (i,x)::ps,aD,k,O,p,h,le,ho,ah=>by
   simp only[qP] at h
   split at h
   · rename_i y Wx h1 h2
     injection h with h;subst h
     simp only[jK,bz] at ah
     have hx:aj X ⟨μ.w,μ.φ,O⟩ (bu ⟨T,O⟩ y) (a.eval x):=by
      have:=aj.mono le (aQ hr h1 O)
      exact this
     obtain⟨u,O1,k1,k2,k3,k4⟩:=jD (μ:=μ) ho hx ah
     obtain⟨vs,O2,g1,g2,g3,g4,g5⟩:=rN hr h2 (le.trans k3) k4 k1
     refine⟨(i,u)::vs,O2,g1,by simp[g2],k3.trans g3,g4,fun j q q' hq Wy=> ?_⟩
     cases j with
     | zero=>simp at hq Wy;subst hq;subst Wy;exact⟨rfl,aj.mono g3 k2⟩
     | succ j=>exact g5 j q q' (by simpa using hq) (by simpa using Wy)
   ·simp at h
theorem vD {α:Type} (L:List α) (i:Nat) (x:α) (h:i<L.length):L.set i x=L.take i++[x]++L.drop (i+1):=by
 rw[rL L i x h];rfl
theorem rO {sz:Nat}: ∀ {vs:List (Nat×V)} {qs:List (Nat×Value)} {es es':List V} {us:List Value} {c:Array Value},vs.length=qs.length→
   (∀ (i:Nat) p q,vs[i]? =some p→qs[i]? =some q→p.1=q.1∧aj X μ p.2 q.2)→ag X μ es us→dI c.toList 0 sz us→c.size=us.length*sz→es.all (aU · sz)=true→
   dQ sz es vs=some es'→ ∃c' Rh,Instr.fill (fun i=>some (i*sz,sz)) c qs=some c'∧ag X μ es' Rh∧dI c'.toList 0 sz Rh∧c'.size=Rh.length*sz∧
     es'.all (aU · sz)=true∧es'.length=es.length
 | [],[],es,es',us,c,_,_,hv,hs,hc,hb,h=>by
   simp[dQ] at h;subst h
   exact⟨c,us,rfl,hv,hs,hc,hb,rfl⟩
 | [],_::_,_,_,_,_,h,_,_,_,_,_,_=>by simp at h
 | _::_,[],_,_,_,_,h,_,_,_,_,_,_=>by simp at h
 | (i,u)::vs,(i',q)::qs,es,es',us,c,hl,hp,hv,hs,hc,hb,h=>by
   simp only[dQ] at h
   split at h
   · rename_i uy
     obtain⟨hi,jM⟩:=uy
     obtain⟨e1,bl⟩:=hp 0 _ _ rfl rfl
     simp only at e1 bl
     subst e1
     obtain⟨kq,ig⟩:=cm jM
     have hqs:q.cells.size=sz:=by rw[bl.fp kq,ig]
     have hiu:i<us.length:=by rw[←hv.length];exact hi
     have hmul: (i+1)*sz≤us.length*sz:=agC _ ae0
     rw[agv] at hmul
     have iM:i*sz+q.cells.size≤c.size:=ae0
     have mq:=B3 (x:=q) (cs:=c) iM
     have aa4:flat [q]=q.cells.toList:=by simp[flat]
     have hw:=hs.write (k:=i) (us:=[q]) ae0 (by simpa using hqs) (by rw[cn];simp;omega)
     rw[aa4,agK] at hw
     have CP:us.take i++[q]++us.drop (i+[q].length)=us.set i q:=(vD us i q hiu).symm
     rw[CP,←mq] at hw
     have bF: (q.cells.zipIdx.foldl (fun cs (p:Value×Nat)=>cs.setIfInBounds (i*sz+p.2) p.1) c).size=(us.set i q).length*sz:=by
      rw[←cn,mq,fI (by rw[cn,cn];exact iM),cn];simpa using hc
     have aeX: (es.set i u).all (aU · sz)=true:=by
      simp only[af5] at hb ⊢
      intro y hy
      rcases agf hy with hm| rfl
      ·exact hb y hm
      ·exact jM
     obtain⟨c',Rh,g1,g2,g3,g4,g5,g6⟩:=rO (vs:=vs) (qs:=qs) (by simpa using hl) (fun j p q' hj P6=>hp (j+1) p q' (by simpa using hj) (by simpa using P6)) (ag.set hv i bl) hw bF aeX h
     refine⟨c',Rh,?_,g2,g3,g4,g5,by simpa using g6⟩
     have Is: ¬ (q.cells.size≠sz∨c.size<i*sz+q.cells.size):=ae0
     simp only[Instr.fill]
     rw[if_neg (by simpa using Is)]
     exact g1
   ·simp at h
theorem sJ {t e:TypeId} {n sz r:Nat} {parts:Array (Nat×Operand)} {z:V} (hr:Rel X T a μ) (ho:o.op= .buildSlice t n parts) (hd:bJ X t=some (.slice e))
  (hn:bO X e=some sz) (hz:eY X e=some z) (tL: ∃vs O',(match dQ sz (List.replicate n z) vs with
    | some es=>if aU z sz &&decide (0 <sz∧n*sz≤16777216) then AM.Act.bP r fun o=>AM.Act.bM r {gen:=o.gen+1,sz,arr:=true,fz:=false,es:=some es} (.done (.sl r (o.gen+1) 0 n)) else AM.Act.fail
    | none=>AM.Act.fail).run C ⟨T,O'⟩=some (v,σ')∧vs.length=parts.toList.length∧Le μ ⟨μ.w,μ.φ,O'⟩∧ba X ⟨μ.w,μ.φ,O'⟩∧
    ∀ (i:Nat) q q',vs[i]? =some q→parts.toList[i]? =some q'→q.1=q'.1∧aj X ⟨μ.w,μ.φ,O'⟩ q.2 (a.eval q'.2)):σ'.T=T∧cT X o a μ σ'.O v:=by
 obtain⟨vs,O1,k1,k2,k3,k4,k5⟩:=tL
 split at k1
 ·rename_i es bo
  split at k1
  · rename_i hc
    simp only[af2,decide_eq_true_eq] at hc
    obtain⟨P7,bF,Gg⟩:=hc
    simp only[Act.run,afY,af4] at k1
    obtain⟨rfl,rfl⟩:=k1
    refine⟨rfl,?_⟩
    obtain⟨zv,xp,Am⟩:=ij hz μ.w
    obtain⟨zH,It⟩:=eG (X:=X) (μ:=⟨μ.w,μ.φ,O1⟩) Am
    have P8:zv.cells.size=sz:=by rw[zH.fp It,(cm P7).2]
    obtain⟨q1,q2⟩:=Gd (n:=n) P8
    have hbr: (List.replicate n z).all (aU · sz)=true:=by
     simp only[af5,List.mem_replicate]
     rintro y ⟨_,rfl⟩;exact P7
    obtain⟨c',Rh,g1,g2,g3,g4,g5,g6⟩:=rO (X:=X) (μ:=⟨μ.w,μ.φ,O1⟩) (sz:=sz) (vs:=vs) (qs:=(parts.map fun (i,x)=> (i,a.eval x)).toList) (by simp[k2]) (fun j p q hj hq=>by
     rw[ahS,age,afZ] at hq
     obtain⟨q',Wy,rfl⟩:=hq
     exact k5 j p q' hj Wy) (ag.replicate zH n) q2 (by rw[q1];simp) hbr bo
    have hlen:es.length=n:=by simpa using g6
    have ug:Rh.length=n:=by rw[←g2.length];exact hlen
    obtain⟨Iu,Ux⟩:=Dp (X:=X) (μ:=⟨μ.w,μ.φ,O1⟩) k4 r sz n true (es:=es) (vs:=Rh) (c:=c') e bF ae0 g5 g2 (by rw[g4,ug];exact af6 _) (fun i u hu=>by
     obtain⟨m1,m2⟩:=g3 i u hu
     exact⟨m1,fun j x hx=>by simpa using m2 j x hx⟩)
    refine⟨.slice (some ⟨μ.w.heap.size,0,none⟩) n n,_,_,.inl ?_,?_,k3.trans Iu,Ux⟩
    ·simp only[execOp,ho]
     refine du ?_
     have oX:X.P.underlying t=some (.slice e):=hd
     have aa5: ¬n*sz >2 ^ 24:=by
      have: (2:Nat) ^ 24=16777216:=afV
      omega
     simp only[Instr.buildSlice,Sem.run_bind,run_underlying oX,Result.andThen_ok,eT hn]
     rw[if_neg aa5]
     have kN: ∀zero:Array Value,(n*sz=0∨zero=zv.cells)→(Array.range (n*sz)).map (fun i=>zero[i % zero.size]!)=(Array.range (n*sz)).map (fun i=>zv.cells[i % zv.cells.size]!):=by
      rintro zero (h0| rfl)
      ·have hr0:Array.range 0= #[]:=rfl
       rw[h0,hr0];simp
      ·rfl
     by_cases Jq:n*sz=0
     ·rw[if_pos Jq]
      simp only[Sem.run_bind,Sem.run_pure,Result.andThen_ok]
      rw[kN #[] (.inl Jq),g1]
      simp only[newRow,Sem.run_bind,run_newObj,Result.andThen_ok,Sem.run_pure]
      rfl
     ·rw[if_neg Jq]
      simp only[Sem.run_bind,xp,Result.andThen_ok,Sem.run_pure]
      rw[kN zv.cells (.inr rfl),g1]
      simp only[newRow,Sem.run_bind,run_newObj,Result.andThen_ok,Sem.run_pure]
      rfl
    ·simp only[aj,aw]
     exact⟨_,_,rfl,af6 _,af6 _,fun _=> ⟨bF,afU,afU⟩⟩
  ·exact absurd k1 aq
 ·exact absurd k1 aq
theorem AL {t e:TypeId} {n sz r:Nat} {parts:Array (Nat×Operand)} {z:V} {aD:List (Nat×aT)} (hr:Rel X T a μ) (ho:o.op= .buildSlice t n parts) (hd:bJ X t=some (.slice e))
  (hn:bO X e=some sz) (hz:eY X e=some z) (hp:qP X parts.toList=some aD) (ah: (aH E (.buildSlice r sz z n aD)).run C ⟨T,μ.O⟩=some (v,σ')):σ'.T=T∧cT X o a μ σ'.O v:=by
 simp only[aH] at ah
 exact sJ hr ho hd hn hz (rN hr hp (Le.refl μ) hr.a8 ah)
end
end Go.AM
