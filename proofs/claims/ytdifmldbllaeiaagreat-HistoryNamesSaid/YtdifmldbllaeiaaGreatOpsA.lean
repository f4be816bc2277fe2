/- Texts of the proof. -/
import Derived.Test.YtdifmldbllaeiaaGreatDefs
import Derived.Calls
import Derived.Orders
import Derived.Below
import Derived.Laws.Cells
import Derived.Laws.Rows
import Derived.Laws.Tables
import Derived.Laws.CopyRow
import Derived.ChangeKeysEq
import Derived.Laws.StructEq
import Derived.IntWalk
set_option linter.unusedSimpArgs false
set_option linter.unusedVariables false
namespace Go.AM
structure Hints where
 c6:List (Option Nat):=[]
 bG:List Nat:=[]
 name:List (Nat×Nat):=[]
 lits:List (Nat×List Nat):=[]
 qg:List (Nat×Nat×Nat):=[]
 lh:List (Nat×Nat×Nat):=[]
 dyn:List (Nat×Nat):=[]
 cn:List Nat:=[]
 deep:List Nat:=[]
 NN:List Nat:=[]
 tag:Option (Nat×Nat):=none
 keys:List (Nat×List Nat×List Nat):=[]
 n:Nat:=0
structure TrEnv where
 P:Program
 gA:FuncId->Option Nat
 r5:TypeId->Option Nat
variable (X:TrEnv)
def tw:Value->Option V
 | .bool b=>some (.bool b)
 | .int k n=>some (.int k n)
 | .float .f64 b=>some (.float b)
 | .string s=>some (.str s.data.toList)
 | .pointer none=>some .nilp
 | .slice none 0 0=>some .nils
 | .map none=>some (.mlit [])
 | .nilFunc=>some .nilfn
 | .nilIface=>some .nili
 | _=>none
def nC:List Value->Option (List V)
 | []=>some []
 | v::vs=>match tw v,nC vs with
   | some c,some cs=>some (c::cs)
   | _,_=>none
def Cd:Value->Option V
 | .agg cs=> (nC cs.toList).map .agg
 | v=>tw v
def info (t:TypeId):Option TypeInfo:=X.P.info? t
def bU (t:TypeId):Option Nat:=(info X t).map (·.size)
def bP (t:TypeId):Option TypeDesc:=X.P.underlying t
def iz (t:TypeId):Option Bool:=(bP X t).map fun| .struct _=>true| .array .. =>true| _=>false
def fW (t:TypeId):Option V:=(info X t).bind fun i=>i.zero.bind Cd
def dy:Operand->Option ba
 | .tmp t=>some (.tmp t)
 | .const v=> (Cd v).map .const
 | .func f=> (X.gA f).map fun n=> .const (.fn n [])
 | .global _=>none
def pO:List Operand->Option (List ba)
 | []=>some []
 | o::os=>match dy X o,pO os with
   | some a,some aL=>some (a::aL)
   | _,_=>none
def Dl:Option Operand->Option (Option ba)
 | none=>some none
 | some o=> (dy X o).map some
mutual
def iA:Nat->TypeId->Option (List Nat)
 | 0,_=>none
 | d+1,t=>match bP X t with
   | some .bool=>if bU X t=some 1 then some [0] else none
   | some (.int _)=>if bU X t=some 1 then some [1] else none
   | some .string=>if bU X t=some 1 then some [2] else none
   | some (.struct fs)=>if X.P.stoodInHeld t=false then(match qx d fs.toList 0 with
      | some ks=>if bU X t=some ks.length then some ks else none
      | none=>none) else none
   | some (.array n e)=>if iz X e=some false/\bU X t=some n then(match iA d e with
      | some [k]=>some (List.replicate n k)
      | _=>none) else none
   | _=>none
def qx:Nat->List Field->Nat->Option (List Nat)
 | 0,_,_=>none
 | _+1,[],_=>some []
 | d+1,f::fs,off=>if f.name≠ "_" /\f.offset=off then match iA d f.type with
    | some ks=>match qx d fs (off+ks.length) with
      | some a=>some (ks++a)
      | none=>none
    | none=>none
   else none
end
def my (place:Nat->Option (Nat×Nat)):List (Nat×Operand)->Option (List (Nat×Nat×ba))
 | []=>some []
 | (i,o)::ps=>match place i,dy X o,my place ps with
   | some (off,sz),some a,some aL=>some ((off,sz,a)::aL)
   | _,_,_=>none
def tx:List (Nat×Operand)->Option (List (Nat×ba))
 | []=>some []
 | (i,o)::ps=>match dy X o,tx ps with
   | some a,some aL=>some ((i,a)::aL)
   | _,_=>none
def oz (t:Nat):Nat:=16*(t+1)
def nameOf (h:Hints) (dst:Nat):Nat:=((h.name.find? (·.1==dst)).map (·.2)).getD (oz dst)
def Yk (ks:List Nat):ba->ba
 | .const v=> .const (JJ ks v)
 | x=>x
def aek (h:Hints) (dst:Nat):Option Nat:=(h.dyn.find? (·.1==dst)).map (·.2)
def vn (h:Hints) (dst:Nat):List Nat:=((h.lits.find? (·.1==dst)).map (·.2)).getD []
def ael (h:Hints) (dst:Nat):Option (Nat×Nat):=(h.qg.find? (·.1==dst)).map (·.2)
def isNil:Operand->Bool
 | .const (.slice none 0 0)=>true
 | _=>false
def aem (h:Hints) (dst:Nat) (x:Operand):Option Nat:=match x with
 | .tmp t=> (h.lh.find? (fun p=>p.1==dst &&p.2.1==t)).map (·.2.2)
 | _=>none
def Ce (h:Hints) (dst:Nat) (x:Operand):Option vH:=
 match isNil x,ael h dst with
 | true,some (r,sz)=>some (.vQ r sz)
 | _,_=>match aem h dst x with
   | some r=> (dy X x).map fun y=> .ren r y
   | none=> (dy X x).map fun y=> .move (Yk (vn h dst) y)
def xa (bytes:Nat):Nat:=(140737488355328 - 200*(bytes+1)) / (bytes+1)
def Xn (h:Hints) (dst r sz lim:Nat) (s x:ba):vH:=
 match aek h dst with
 | some a=> .vW a (16000000+oz dst) sz lim s x
 | none=> .append r sz lim s x
def Cf (h:Hints) (dst:Nat) (c:Call):Option vH:=
 match c.callee with
 | .value f=>match dy X f,pO X c.args.toList with
   | some f,some aL=>some (.call (oz dst+(if h.cn.contains dst then 1 else 0)+(if h.deep.contains dst then 4 else 0)) (h.bG.contains dst) f aL)
   | _,_=>none
 | .invoke .. =>none
 | .builtin b=>match b,c.args.toList,c.argTypes.toList with
   | .len,[x],[t]=>match dy X x,bP X t with
     | some x,some (.slice _)=>some (.len x)
     | some x,some .string=>some (.A5 x)
     | some _,some (.array n _)=>some (.move (.const (.int .i64 n)))
     | _,_=>none
   | .min,xs,_=> (pO X xs).map .min
   | .max,xs,_=> (pO X xs).map .max
   | .append,[s,x],[t,a]=>match dy X s,dy X x,bP X t,bP X a with
     | some s,some x,some (.slice e),some d=>match bU X e,info X e,fW X e,d with
       | some sz,some i,some z,.slice _| some sz,some i,some z,.string=>if bj z sz then some (Xn h dst (nameOf h dst) sz (xa i.bytes) s x) else none
       | _,_,_,_=>none
     | _,_,_,_=>none
   | .clear,[x],[t]=>match dy X x,bP X t with
     | some x,some (.slice e)=>match bU X e,fW X e with
       | some sz,some z=>some (.clear sz z x)
       | _,_=>none
     | _,_=>none
   | _,_,_=>none
def TN:BinOp->Bool
 | .eql=>true
 | .neq=>true
 | _=>false
def zr:BinOp->Bool
 | .neq=>true
 | _=>false
def Nj (op:BinOp) (t:TypeId) (x y:ba):Option vH:=
 if TN op then match bP X t with
  | some (.int _) | some .string=>some (.bin op x y)
  | some (.pointer e)=> (match bU X e with
    | some (_+1)=>some (.YO (zr op) x y)
    | _=>none)
  | some (.struct _)=>if X.P.eqGuardType X.P.depth t=false then(iA X 100 t).map fun ks=> .eqA (zr op) ks x y else none
  | some (.array _ _)=>if X.P.eqGuardType X.P.depth t=false then(iA X 100 t).map fun ks=> .eqA (zr op) ks x y else none
  | _=>none
 else some (.bin op x y)
def xb (a:TypeId):Option (Option IntKind):=match bP X a with
 | some (.int k)=>some (some k)
 | some .string=>some none
 | _=>none
def cU (a:TypeId):Option (List Nat):=match bP X a with
 | some (.struct _)=>iA X 100 a
 | _=>none
def isZero:V->Bool
 | .int .i64 n=>n==0
 | _=>false
def Yl (h:Hints):Operand->Bool
 | .tmp t=>h.cn.contains t
 | _=>false
def Dm (h:Hints) (dst:Nat):Op->Option vH
 | .move x| .assign x=>if h.deep.contains dst then(dy X x).map .deep else if h.NN.contains dst then(dy X x).map .QE else Ce X h dst x
 | .pick c a b=>match dy X c,dy X a,dy X b with
   | some c,some a,some b=>some (.pick c a b)
   | _,_,_=>none
 | .alloc t=>match bU X t,fW X t with
   | some sz,some z=>some (.new (oz dst) sz (.const (JJ (vn h dst) z)))
   | _,_=>none
 | .box t x=>match bU X t,dy X x with
   | some sz,some x=>some (.new (oz dst) sz (Yk (vn h dst) x))
   | _,_=>none
 | .build t ps=>match fW X t,bP X t with
   | some (.agg z),some (.struct fs)=>if !fs.toList.all (fun f=> (bU X f.type).isSome) then none else(my X (fun i=>match fs[i]? with| some f=> (bU X f.type).map fun s=> (f.offset,s) | none=>none) ps.toList).map (.build (Fj (vn h dst) z))
   | some (.agg z),some (.array _ e)=>match bU X e with
     | some s=> (my X (fun i=>some (i*s,s)) ps.toList).map (.build (Fj (vn h dst) z))
     | none=>none
   | _,_=>none
 | .buildSlice t n ps=>match bP X t with
   | some (.slice e)=>match bU X e,fW X e,tx X ps.toList with
     | some sz,some z,some aL=>some (.buildSlice (oz dst) sz z n aL)
     | _,_,_=>none
   | _=>none
 | .load t x=>match iz X t,bU X t,dy X x with
   | some a,some sz,some x=>some (if (vn h dst).isEmpty then .load a sz x else .DK (vn h dst) a sz x)
   | _,_,_=>none
 | .store t x v=>match iz X t,bU X t,dy X x,dy X v with
   | some a,some sz,some l,some v=>some (if Yl h x then .A7 a sz l v else .store a sz l v)
   | _,_,_,_=>none
 | .nilCheck x=> (dy X x).map .nilCheck
 | .binOp op t x y _=>match dy X x,dy X y with
   | some x,some y=>Nj X op t x y
   | _,_=>none
 | .unOp op _ x=> (dy X x).map (.un op)
 | .convert s d x=>match bP X s,bP X d,dy X x with
   | some (.int _),some (.int k),some x=>some (.vS k x)
   | some (.int _),some (.float .f64),some x=>some (.A0 x)
   | some (.float .f64),some (.int k),some x=>some (.A3 k x)
   | _,_,_=>none
 | .makeInterface _ _=>some .bad
 | .makeFunc (.func f) first caps=>if first.isEmpty then match X.gA f,pO X caps.toList with
     | some n,some cs=>some (if h.deep.contains dst then .vY n ((caps.toList.map (Yl h)).zip cs) else .A4 n cs)
     | _,_=>none
   else if caps.isEmpty then match X.gA f,(if h.cn.contains dst then some (first.toList.map fun _=> .const .any) else pO X first.toList) with
     | some n,some cs=>some (.vX n cs)
     | _,_=>none
   else none
 | .slice t x lo hi mx=>match bP X t,dy X x,Dl X lo,Dl X hi,Dl X mx with
   | some (.slice e),some x,some lo,some hi,some mx=> (bU X e).map fun sz=> .slice sz x lo hi mx
   | _,_,_,_,_=>none
 | .fieldAddr s x i=>match bP X s,dy X x with
   | some (.struct fs),some x=>match fs[i]? with
     | some f=>match bU X f.type with
       | some (_+1)=>some (.fieldAddr f.offset x)
       | _=>none
     | none=>none
   | _,_=>none
 | .indexAddr t x i=>match bP X t,dy X x,dy X i with
   | some (.slice e),some x,some i=> (bU X e).map fun sz=> .indexAddr sz x i
   | some (.array n e),some x,some i=> (bU X e).map fun sz=> .rf n sz x i
   | _,_,_=>none
 | .index t x i=>match bP X t,dy X x,dy X i with
   | some .string,some x,some i=>some (.rj x i)
   | _,_,_=>none
 | .extract x i=> (dy X x).map fun x=> .extract x i
 | .makeMap _ none=>some (.mkMap (oz dst))
 | .range t x=>match bP X t,dy X x with
   | some (.map _ _),some x=>some (.mapIter (oz dst) x)
   | _,_=>none
 | .lookup t x i ok=>match bP X t,dy X x,dy X i with
   | some (.map g j),some x,some i=>match xb X g,fW X j with
     | some q,some z=>some (.A6 q ok z x i)
     | none,some z=> (cU X g).map fun ks=>if h.cn.contains dst && !ok &&isZero z then .lZ ks x i else .sS ks ok z x i
     | _,_=>none
   | _,_,_=>none
 | .mapUpdate t m k v=>match bP X t,dy X m,dy X k,dy X v with
   | some (.map g _),some m,some k,some v=>match xb X g with
     | some q=>some (.xQ q m k v)
     | none=> (cU X g).map fun ks=> .sR ks m k v
   | _,_,_,_=>none
 | .mapEntry t m k=>match bP X t,dy X m,dy X k with
   | some (.map g j),some m,some k=>match cU X g,fW X j with
     | some ks,some z=>if h.cn.contains dst &&isZero z then some (.mc ks m k) else none
     | _,_=>none
   | _,_,_=>none
 | .entryStore _ m s v=>match dy X m,dy X s,dy X v with
   | some m,some s,some v=>some (.vV m s v)
   | _,_,_=>none
 | .insert t m k v=>match bP X t,dy X m,dy X k,dy X v with
   | some (.map g _),some m,some k,some v=>match xb X g with
     | some q=>some (.xQ q m k v)
     | none=> (cU X g).map fun ks=> .sR ks m k v
   | _,_,_,_=>none
 | .call c=>Cf X h dst c
 | _=>none
def oY (h:Hints) (ops:Array Oper) (o:Oper):Option bN:=
 let g:Option (Option (Nat×Bool)):=match o.guard with
  | none=>some none
  | some (j,a)=>match (ops[j]?).bind (·.dst) with
    | some d=>some (some (d,a))
    | none=>none
 match g,o.dst.all (· <h.n) with
 | some g,true=>some {dst:=o.dst,op:=(Dm X h (o.dst.getD 0) o.op).getD .bad,guard:=g,pre:=(o.after.toList.filter (Region.binds .any)).map (·.on)}
 | _,_=>none
def jn (h:Hints) (ops:Array Oper):List Oper->Option (List bN)
 | []=>some []
 | o::os=>match oY X h ops o,jn h ops os with
   | some a,some aL=>some (a::aL)
   | _,_=>none
def Gt (h:Hints) (a:Code):Option (Nat×Nat×Nat×Nat×List Nat×List Nat):=
 match a with
 | .seq (.region ..) (.block id (.loop (.seq (.region _ ops false) (.seq (.cond ..) (.block _ (.seq (.region _ ja false) _))))))=>match ops[0]?,ja[0]? with
   | some o,some o5=>match o.op,o.dst,o.guard,o5.op,o5.dst,o5.guard with
     | .next (.tmp it) false,some nx,none,.entry (.tmp b),some ne,none=> (match h.keys.find? (·.1==nx) with
       | some k=>if nx<h.n/\ne<h.n/\b=it then some (it,nx,ne,id,k.2.1,k.2.2) else none
       | none=>none)
     | _,_,_,_,_,_=>none
   | _,_=>none
 | _=>none
def IY:Code->Bool
 | .seq (.region ..) _=>true
 | _=>false
def IZ (h:Hints) (a b:Code) (ta tb:a8):a8:=
 match Gt h a,IY b,ta,tb with
 | some (it,nx,ne,id,kT,kO),true,.seq c (.block _ (.loop (.seq (.region aL) (.seq d (.block b1 (.seq (.region e) f)))))),.seq g Cg=> .seq c (.seq (.keys it nx ne id kT kO (.seq (.region (aL.drop 1)) d) (.block b1 (.seq (.region (e.drop 1)) f)) g) Cg)
 | _,_,_,_=> .seq ta tb
def cM (h:Hints):Code->Option a8
 | .skip=>some .skip
 | .region _ ops false=> (jn X h ops ops.toList).map fun l=> .region (l.map fun o=> {o with pre:=[]})
 | .region _ ops true=> (jn X h ops ops.toList).map .drawn
 | .seq a b=>match cM h a,cM h b with
   | some d,some tb=>some (IZ h a b d tb)
   | _,_=>none
 | .cond c a b=>match dy X c,cM h a,cM h b with
   | some c,some a,some b=>some (.cond c a b)
   | _,_,_=>none
 | .block id b=> (cM h b).map (.block id)
 | .loop b=> (cM h b).map .loop
 | .exit id=>some (.exit id)
 | .ret=>some .ret
 | .scope b=> (cM h b).map .scope
 | .rangeFunc f ps a b=>match dy X f,cM h a,cM h b with
   | some f,some a,some b=>if ps.toList.all (fun p=>Nat.blt p h.n)=true then some (.pY f ps.toList a b) else none
   | _,_,_=>none
 | .label _=>some .skip
 | _=>some .bad
def xd:ResultVar->Option vF
 | .tmp t=>some (.tmp t)
 | .cell a t=>match iz X t,bU X t with
   | some g,some sz=>some (.cell a g sz)
   | _,_=>none
def kD:List ResultVar->Option (List vF)
 | []=>some []
 | r::rs=>match xd X r,kD rs with
   | some a,some aL=>some (a::aL)
   | _,_=>none
def Fm (h:Hints) (f:Func):Option aT:=
 match f.body with
 | none=>none
 | some b=>match cM X {h with n:=f.ntmps} b,kD X f.results.toList with
   | some c,some rs=>some {nparams:=f.params.size+f.nfree,ntmps:=f.ntmps,c6:=h.c6,results:=rs,body:=c,tag:=h.tag}
   | _,_=>none
end Go.AM
namespace Go.AM
open Go Go.RowKit
structure Ctx extends TrEnv where
 Ym:Nat->Prop
 tok:Nat×Nat
instance:CoeOut Ctx TrEnv:=⟨Ctx.toTrEnv⟩
structure Row where
 cj:Nat
 base:Nat
 cap:Nat
structure Mu where
 w:World
 φ:Nat->Row
 O:Nat->Obj
def Mu.own (μ:Mu) (b:Nat):Prop:= ∃r,(μ.O r).es.isSome=true/\(μ.O r).fz=false/\(μ.φ r).cap≠0/\(μ.φ r).cj=b
def Own (X:Ctx) (μ:Mu) (b:Nat):Prop:=μ.own b\/X.Ym b
def dL (w:World) (b off sz:Nat) (vs:List Value):Prop:=
 ∀i v,vs[i]? =some v->v.cells.size=sz/\ ∀j c,v.cells[j]? =some c->w.cell? ⟨b,off+i*sz+j,none⟩=some c
def iB (ents:Array MapEntry) (clock:Nat):Prop:=clock=ents.size/\ents.toList.map (·.born)=List.range ents.size
theorem iB.nodup {ents:Array MapEntry} {clock:Nat} (h:iB ents clock): (ents.toList.map (·.born)).Nodup:=by rw[h.2];exact List.nodup_range
theorem iB.lt {ents:Array MapEntry} {clock:Nat} (h:iB ents clock): ∀e ∈ ents.toList,e.born<clock:=fun e he=>by have:e.born ∈ ents.toList.map (·.born):=ajL.2 ⟨e,he,rfl⟩;rw[h.2,List.mem_range] at this;rw[h.1];exact this
theorem iB.at {ents:Array MapEntry} {clock:Nat} (h:iB ents clock) {j:Nat} {e:MapEntry} (he:ents[j]? =some e):e.born=j:=by have h2:=congrArg (fun l=>l[j]?) h.2;have a:=(ajs.1 he).1;simp only[ajF,alv,he,ajE] at h2;rw[alE a] at h2;exact Option.some.inj h2
section
variable (X:Ctx) (μ:Mu)
mutual
def aj:V->Value->Prop
 | .bool b,v=>v= .bool b
 | .int k n,v=>v= .int k n
 | .float b,v=>v= .float .f64 b
 | .str s,v=> ∃d:ByteArray,v= .string d/\d.data.toList=s
 | .agg cs,v=>cs.all V.aZ=true/\ ∃vs,v= .agg vs/\ag cs vs.toList
 | .tuple cs,v=> ∃vs,v= .tuple vs/\ag cs vs.toList
 | .nilp,v=>v= .pointer none
 | .nilfn,v=>v= .nilFunc
 | .nili,v=>v= .nilIface
 | .fn f caps,v=> ∃F c,v= .func (.func F) #[] c/\X.gA F=some f/\ag caps c.toList
 | .bfn f caps,v=> ∃F c,v= .func (.func F) c #[]/\X.gA F=some f/\ag caps c.toList
 | .iface t x,v=> ∃T y,v= .iface T y/\X.r5 T=some t/\aj x y
 | .nils,v=> ∃a,v= .slice a 0 0
 | .lit sz xs,v=>V.al xs=true/\xs.all V.dw=true/\ ∃a cap vs,v= .slice a xs.length cap/\xs.length<=cap/\ag xs vs/\
    (xs=[]\/ ∃b o,a=some ⟨b,o,none⟩/\ ¬Own X μ b/\b<μ.w.heap.size/\dL μ.w b o sz vs)
 | .own ..,_=>False
 | .sl r g off len,v=> ∃a cap,v= .slice a len cap/\len<=cap/\g<=(μ.O r).gen/\
    ((μ.O r).gen=g->0 < (μ.O r).sz/\cap+off=(μ.φ r).cap/\(cap=0\/a=some ⟨(μ.φ r).cj,(μ.φ r).base+off*(μ.O r).sz,none⟩))
 | .ptr r g idx off,v=> ∃a,v= .pointer (some a)/\g<=(μ.O r).gen/\
    ((μ.O r).gen=g->0 < (μ.O r).sz/\a=⟨(μ.φ r).cj,(μ.φ r).base+idx*(μ.O r).sz+off,none⟩)
 | .eptr e off,v=>V.az e=true/\V.dw e=true/\ ∃b o sz x,v= .pointer (some ⟨b,o+off,none⟩)/\ ¬Own X μ b/\b<μ.w.heap.size/\aj e x/\dL μ.w b o sz [x]
 | .mp r g,v=> ∃a,v= .map (some a)/\g<=(μ.O r).gen/\((μ.O r).gen=g->(μ.O r).sz=0/\a=(μ.φ r).cj)
 | .mlit es,v=>V.al es=true/\(es=[]/\v= .map none\/ ∃a ents clock,v= .map (some a)/\ ¬Own X μ a/\a<μ.w.heap.size/\(μ.w.heap[a]? =some (.map ents clock)/\iB ents clock)/\
    ag es (ents.toList.map fun e=> .tuple #[e.key,e.val]))
 | .it r g,v=> ∃a,v= .pointer (some ⟨a,0,none⟩)/\g<=(μ.O r).gen/\((μ.O r).gen=g->(μ.O r).sz=0/\a=(μ.φ r).cj)
 | .litk sz xs,v=>V.al xs=true/\xs.all V.dw=true/\ ∃a cap vs,v= .slice a xs.length cap/\xs.length<=cap/\ag xs vs/\
    (xs=[]\/a=some ⟨X.tok.1,X.tok.2,none⟩/\ ¬Own X μ X.tok.1/\X.tok.1 <μ.w.heap.size/\dL μ.w X.tok.1 X.tok.2 sz vs)
 | .epk i sz e off,v=>V.az e=true/\V.dw e=true/\ ∃x,v= .pointer (some ⟨X.tok.1,X.tok.2+i*sz+off,none⟩)/\ ¬Own X μ X.tok.1/\X.tok.1 <μ.w.heap.size/\aj e x/\dL μ.w X.tok.1 (X.tok.2+i*sz) sz [x]
 | .msl ..,_=>False
 | .mptr ..,_=>False
 | .any,_=>True
def ag:List V->List Value->Prop
 | [],[]=>True
 | x::xs,v::vs=>aj x v/\ag xs vs
 | _,_=>False
end
end
theorem ag.length {X:Ctx} {μ:Mu}: ∀ {xs:List V} {vs:List Value},ag X μ xs vs->xs.length=vs.length
 | [],[],_=>rfl
 | [],_::_,h=>by simp[ag] at h
 | _::_,[],h=>by simp[ag] at h
 | _::_,_::_,h=>by simp only[ag] at h;simp[ag.length h.2]
theorem ag.get {X:Ctx} {μ:Mu}: ∀ {xs:List V} {vs:List Value},ag X μ xs vs-> ∀ {i:Nat} {x:V},xs[i]? =some x-> ∃v,vs[i]? =some v/\aj X μ x v
 | [],_,_,i,x,hx=>by simp at hx
 | _::_,[],h,_,_,_=>by simp[ag] at h
 | y::a,v::vs,h,i,x,hx=>by
   simp only[ag] at h;cases i with
   | zero=>simp at hx;subst hx;exact⟨v,ajl,h.1⟩
   | succ i=>simp at hx;simpa using ag.get h.2 hx
theorem ag.Ch {X:Ctx} {μ:Mu}: ∀ {xs:List V} {vs:List Value},xs.length=vs.length->(∀ (i:Nat) (x:V) (v:Value),xs[i]? =some x->vs[i]? =some v->aj X μ x v)->ag X μ xs vs
 | [],[],_,_=>by simp[ag]
 | [],_::_,h,_=>by simp at h
 | _::_,[],h,_=>by simp at h
 | x::xs,v::vs,h,hg=>by simp only[ag];exact⟨hg 0 x v ajl ajl,ag.Ch (by simpa using h) fun i y u hy a=>hg (i+1) y u (by simpa using hy) (by simpa using a)⟩
theorem ag.append {X:Ctx} {μ:Mu}: ∀ {xs ys:List V} {vs us:List Value},ag X μ xs vs->ag X μ ys us->ag X μ (xs++ys) (vs++us)
 | [],_,[],_,_,h=>by simpa using h
 | [],_,_::_,_,h,_=>by simp[ag] at h
 | _::_,_,[],_,h,_=>by simp[ag] at h
 | x::xs,ys,v::vs,us,h,a=>by simp only[ag] at h;simp only[ajK,ag];exact⟨h.1,ag.append h.2 a⟩
theorem ag.take {X:Ctx} {μ:Mu}: ∀ {xs:List V} {vs:List Value} (n:Nat),ag X μ xs vs->ag X μ (xs.take n) (vs.take n)
 | _,_,0,_=>by simp[ag]
 | [],[],n+1,_=>by simp[ag]
 | [],_::_,n+1,h=>by simp[ag] at h
 | _::_,[],n+1,h=>by simp[ag] at h
 | x::xs,v::vs,n+1,h=>by simp only[ag] at h;simp only[akn,ag];exact⟨h.1,ag.take n h.2⟩
theorem ag.drop {X:Ctx} {μ:Mu}: ∀ {xs:List V} {vs:List Value} (n:Nat),ag X μ xs vs->ag X μ (xs.drop n) (vs.drop n)
 | _,_,0,h=>by simpa using h
 | [],[],n+1,_=>by simp[ag]
 | [],_::_,n+1,h=>by simp[ag] at h
 | _::_,[],n+1,h=>by simp[ag] at h
 | x::xs,v::vs,n+1,h=>by simp only[ag] at h;simpa using ag.drop n h.2
theorem ag.set {X:Ctx} {μ:Mu} {xs:List V} {vs:List Value} (h:ag X μ xs vs) (i:Nat) {x:V} {v:Value} (hx:aj X μ x v):ag X μ (xs.set i x) (vs.set i v):=by
 refine ag.Ch (by simpa using h.length) fun j y u hy a=> ?_;rw[akz] at hy a;split at hy
 .rename_i e;subst e;by_cases hl:i<xs.length
  .have b:i<vs.length:=by rw[<-h.length];exact hl
   simp[hl] at hy;simp[b] at a;subst hy a;exact hx
  simp[hl] at hy
 rename_i e;simp[e] at a;obtain⟨u',D0,hr⟩:=h.get hy;rw[a] at D0;injection D0 with D0;subst D0;exact hr
structure Le (μ μ':Mu):Prop where
 size:μ.w.heap.size<=μ'.w.heap.size
 cn: ∀b,b<μ.w.heap.size-> ¬μ.own b->μ'.w.heap[b]? =μ.w.heap[b]? /\ ¬μ'.own b
 gen: ∀r,(μ.O r).gen<=(μ'.O r).gen
 row: ∀r,(μ'.O r).gen=(μ.O r).gen->μ'.φ r=μ.φ r/\(μ'.O r).sz=(μ.O r).sz
 os:μ'.w.os=μ.w.os
 output:μ'.w.output=μ.w.output
 tape:μ'.w.tape=μ.w.tape
 frozen: ∀a:Addr,a.block<μ.w.heap.size->μ'.w.frozen? a=μ.w.frozen? a
theorem Le.refl (μ:Mu):Le μ μ:=
 ⟨ajw _,fun _ _ h=> ⟨rfl,h⟩,fun _=>ajw _,fun _ _=> ⟨rfl,rfl⟩,rfl,rfl,rfl,fun _ _=>rfl⟩
theorem Le.trans {a b c:Mu} (h:Le a b) (k:Le b c):Le a c where
 size:=ajQ h.size k.size
 cn:=fun i hi f=>by obtain⟨h1,h2⟩:=h.cn i hi f;obtain⟨d,g⟩:=k.cn i (ajB hi h.size) h2;exact⟨d.trans h1,g⟩
 gen:=fun r=>ajQ (h.gen r) (k.gen r)
 row:=fun r e=>by have h1:=h.gen r;have d:=k.gen r;obtain⟨a1,j⟩:=h.row r ajk;obtain⟨b1,l⟩:=k.row r ajk;exact⟨b1.trans a1,l.trans j⟩
 os:=k.os.trans h.os
 output:=k.output.trans h.output
 tape:=k.tape.trans h.tape
 frozen:=fun x hx=> (k.frozen x (ajB hx h.size)).trans (h.frozen x hx)
theorem dL.cn {w w':World} {b off sz:Nat} {vs:List Value} (h:dL w b off sz vs) (e:w'.heap[b]? =w.heap[b]?):dL w' b off sz vs:=by intro i v hv;obtain⟨h1,h2⟩:=h i v hv;refine⟨h1,fun j c hc=> ?_⟩;rw[<-h2 j c hc];simp[World.cell?,e]
mutual
theorem aj.mono {X:Ctx} {μ μ':Mu} (le:Le μ μ'): ∀ {x:V} {v:Value},aj X μ x v->aj X μ' x v
 | .bool _,_,h| .int ..,_,h| .float _,_,h| .str _,_,h| .nilp,_,h| .nilfn,_,h| .nili,_,h| .nils,_,h=>by simpa [aj] using h
 | .any,_,_=>by simp[aj]
 | .own ..,_,h| .msl ..,_,h| .mptr ..,_,h=>by simp[aj] at h
 | .agg cs,_,h=>by
   simp only[aj] at h ⊢;obtain⟨h1,vs,rfl,h2⟩:=h;exact⟨h1,vs,rfl,ag.mono le h2⟩
 | .tuple cs,_,h=>by
   simp only[aj] at h ⊢;obtain⟨vs,rfl,h2⟩:=h;exact⟨vs,rfl,ag.mono le h2⟩
 | .bfn f cs,_,h=>by
   simp only[aj] at h ⊢;obtain⟨F,m,rfl,h1,h2⟩:=h;exact⟨F,m,rfl,h1,ag.mono le h2⟩
 | .fn f cs,_,h=>by
   simp only[aj] at h ⊢;obtain⟨F,m,rfl,h1,h2⟩:=h;exact⟨F,m,rfl,h1,ag.mono le h2⟩
 | .iface t x,_,h=>by
   simp only[aj] at h ⊢;obtain⟨T,y,rfl,h1,h2⟩:=h;exact⟨T,y,rfl,h1,aj.mono le h2⟩
 | .lit sz xs,_,h=>by
   simp only[aj] at h ⊢;obtain⟨h0,j,a,cap,vs,rfl,h1,h2,h3⟩:=h;refine⟨h0,j,a,cap,vs,rfl,h1,ag.mono le h2,h3.imp id ?_⟩;rintro⟨b,o,rfl,hb,hs,hr⟩;obtain⟨c,d⟩:=le.cn b hs (fun h=>hb (.inl h));exact⟨b,o,rfl,(fun h=>h.elim d fun h=>hb (.inr h)),ajB hs le.size,hr.cn c⟩
 | .sl r g off len,_,h=>by
   simp only[aj] at h ⊢;obtain⟨a,cap,rfl,h1,h2,h3⟩:=h;have hg:=le.gen r;refine⟨a,cap,rfl,h1,ajk,fun e=> ?_⟩;obtain⟨k,l⟩:=le.row r ajk;rw[k,l];exact h3 ajk
 | .ptr r g idx off,_,h=>by
   simp only[aj] at h ⊢;obtain⟨a,rfl,h2,h3⟩:=h;have hg:=le.gen r;refine⟨a,rfl,ajk,fun e=> ?_⟩;obtain⟨k,l⟩:=le.row r ajk;rw[k,l];exact h3 ajk
 | .eptr e off,_,h=>by
   simp only[aj] at h ⊢;obtain⟨h0,j,b,o,sz,x,rfl,hb,hs,h1,hr⟩:=h;obtain⟨c,d⟩:=le.cn b hs (fun h=>hb (.inl h));exact⟨h0,j,b,o,sz,x,rfl,(fun h=>h.elim d fun h=>hb (.inr h)),ajB hs le.size,aj.mono le h1,hr.cn c⟩
 | .litk sz xs,_,h=>by
   simp only[aj] at h ⊢;obtain⟨h0,j,a,cap,vs,rfl,h1,h2,h3⟩:=h;refine⟨h0,j,a,cap,vs,rfl,h1,ag.mono le h2,h3.imp id ?_⟩;rintro⟨rfl,hb,hs,hr⟩;obtain⟨c,d⟩:=le.cn _ hs (fun h=>hb (.inl h));exact⟨rfl,(fun h=>h.elim d fun h=>hb (.inr h)),ajB hs le.size,hr.cn c⟩
 | .epk i sz e off,_,h=>by
   simp only[aj] at h ⊢;obtain⟨h0,j,x,rfl,hb,hs,h1,hr⟩:=h;obtain⟨c,d⟩:=le.cn _ hs (fun h=>hb (.inl h));exact⟨h0,j,x,rfl,(fun h=>h.elim d fun h=>hb (.inr h)),ajB hs le.size,aj.mono le h1,hr.cn c⟩
 | .mp r g,_,h=>by
   simp only[aj] at h ⊢;obtain⟨a,rfl,h2,h3⟩:=h;have hg:=le.gen r;refine⟨a,rfl,ajk,fun e=> ?_⟩;obtain⟨k,l⟩:=le.row r ajk;rw[k,l];exact h3 ajk
 | .it r g,_,h=>by
   simp only[aj] at h ⊢;obtain⟨a,rfl,h2,h3⟩:=h;have hg:=le.gen r;refine⟨a,rfl,ajk,fun e=> ?_⟩;obtain⟨k,l⟩:=le.row r ajk;rw[k,l];exact h3 ajk
 | .mlit es,_,h=>by simp only[aj] at h ⊢;obtain⟨h0,h⟩:=h;refine⟨h0,h.imp id ?_⟩;rintro⟨a,ents,clock,rfl,hb,hs,h1,h2⟩;obtain⟨c,d⟩:=le.cn a hs (fun h=>hb (.inl h));exact⟨a,ents,clock,rfl,(fun h=>h.elim d fun h=>hb (.inr h)),ajB hs le.size,by rw[c];exact h1,ag.mono le h2⟩
theorem ag.mono {X:Ctx} {μ μ':Mu} (le:Le μ μ'): ∀ {xs:List V} {vs:List Value},ag X μ xs vs->ag X μ' xs vs
 | [],[],_=>by simp[ag]
 | [],_::_,h=>by simp[ag] at h
 | _::_,[],h=>by simp[ag] at h
 | x::xs,v::vs,h=>by simp only[ag] at h ⊢;exact⟨aj.mono le h.1,ag.mono le h.2⟩
end
def oA (X:Ctx) (μ:Mu) (r:Nat) (es:List V):Prop:=0 < (μ.O r).sz/\es.length<=(μ.φ r).cap/\es.all (bj · (μ.O r).sz)=true/\
 ((μ.φ r).cap=0\/ ∃c T vs,μ.w.heap[(μ.φ r).cj]? =some (.cells c T (0,0))/\(μ.φ r).base+(μ.φ r).cap*(μ.O r).sz<=c.size/\ag X μ es vs/\
   dL μ.w (μ.φ r).cj (μ.φ r).base (μ.O r).sz vs)
def qy (X:Ctx) (μ:Mu) (b:Go.Obj) (es:List V):Prop:=
 (∃ents clock,b= .map ents clock/\ag X μ es (ents.toList.map fun e=> .tuple #[e.key,e.val])/\iB ents clock)\/(∃ (s:ByteArray) (pos:Nat),b= .stringIter s pos/\es=[.str s.data.toList,.int .i64 (pos:Int)])\/
 ∃c a d,b= .mapIter c a #[] a/\es=[.mlit d]/\(c=none/\d=[]\/ ∃m ents,c=some m/\ ¬Own X μ m/\m<μ.w.heap.size/\μ.w.heap[m]? =some (.map ents a)/\iB ents a/\ag X μ d (ents.toList.map fun e=> .tuple #[e.key,e.val]))
theorem qy.mono {X:Ctx} {μ μ':Mu} (le:Le μ μ') {a:Go.Obj} {es:List V} (h:qy X μ a es):qy X μ' a es:=by
 rcases h with⟨ents,clock,h1,h2,h3⟩ | h| ⟨mo,since,nN,h1,h2,h3⟩
 .exact .inl ⟨ents,clock,h1,ag.mono le h2,h3⟩
 .exact .inr (.inl h)
 refine .inr (.inr ⟨mo,since,nN,h1,h2,h3.imp id ?_⟩);rintro⟨m,ents,k1,k2,k3,k4,k5,k6⟩;obtain⟨b,c⟩:=le.cn m k3 (fun h=>k2 (.inl h));exact⟨m,ents,k1,(fun h=>h.elim c fun h=>k2 (.inr h)),ajB k3 le.size,by rw[b];exact k4,k5,ag.mono le k6⟩
theorem qy.live {X:Ctx} {μ:Mu} {b:Go.Obj} {es:List V} (h:qy X μ b es) (a:Addr) (w:World) (hw:w.heap[a.block]? =some b):w.frozen? a=false:=by rcases h with⟨_,_,rfl,_⟩ | ⟨_,_,rfl,_⟩ | ⟨_,_,_,rfl,_⟩ <;>simp only[World.frozen?,hw]
def xe (X:Ctx) (μ:Mu) (r:Nat) (es:List V):Prop:=(μ.O r).sz=0/\(μ.φ r).cap≠0/\
 ∃a,μ.w.heap[(μ.φ r).cj]? =some a/\qy X μ a es
def ig (X:Ctx) (μ:Mu) (r:Nat):Prop:= ∀es,(μ.O r).es=some es->oA X μ r es\/xe X μ r es
def Inj (μ:Mu):Prop:= ∀r r',r≠r'->(μ.O r).es.isSome=true->(μ.O r').es.isSome=true->(μ.φ r).cap≠0->(μ.φ r').cap≠0->(μ.φ r).cj≠(μ.φ r').cj
structure bq (X:Ctx) (μ:Mu):Prop where
 ok: ∀r,ig X μ r
 inj:Inj μ
 vE: ∀r,(μ.O r).es.isSome=true->(μ.φ r).cap≠0-> ¬X.Ym (μ.φ r).cj
 blt: ∀b,X.Ym b->b<μ.w.heap.size
theorem bq.row {X:Ctx} {μ:Mu} (a:bq X μ) (r:Nat) (es:List V) (bC: (μ.O r).es=some es) (h0:0 < (μ.O r).sz):oA X μ r es:=by
 rcases a.ok r es bC with h| ⟨h,_⟩
 .exact h
 omega
theorem bq.map {X:Ctx} {μ:Mu} (a:bq X μ) (r:Nat) (es:List V) (bC: (μ.O r).es=some es) (h0: (μ.O r).sz=0):xe X μ r es:=by
 rcases a.ok r es bC with⟨h,_⟩ | h
 .omega
 exact h
theorem bq.ents {X:Ctx} {μ:Mu} (b:bq X μ) (r:Nat) (es:List V) (bC: (μ.O r).es=some es) (h0: (μ.O r).sz=0): ((μ.φ r).cap≠0/\ ∃ents clock,μ.w.heap[(μ.φ r).cj]? =some (.map ents clock)/\ag X μ es (ents.toList.map fun e=> .tuple #[e.key,e.val])/\iB ents clock)\/
  ((μ.φ r).cap≠0/\ ∃ (s:ByteArray) (pos:Nat),μ.w.heap[(μ.φ r).cj]? =some (.stringIter s pos)/\es=[.str s.data.toList,.int .i64 (pos:Int)])\/ ∃a,es=[.mlit a]:=by
 obtain⟨_,h2,c,h3,h4⟩:=b.map r es bC h0;rcases h4 with⟨ents,clock,rfl,h⟩ | ⟨s,pos,rfl,h⟩ | ⟨_,_,a,_,h,_⟩
 .exact .inl ⟨h2,ents,clock,h3,h⟩
 .exact .inr (.inl ⟨h2,s,pos,h3,h⟩)
 exact .inr (.inr ⟨a,h⟩)
theorem ig.cj {X:Ctx} {μ:Mu} {r:Nat} {es:List V} (h:oA X μ r es\/xe X μ r es) (hc: (μ.φ r).cap≠0): (μ.φ r).cj<μ.w.heap.size:=by
 rcases h with⟨_,_,_,h⟩ | ⟨_,_,ob,h,_⟩
 .rcases h with h| ⟨_,_,_,h,_⟩
  .exact absurd h hc
  exact(ajs.1 h).1
 exact(ajs.1 h).1
theorem ig.cn {X:Ctx} {μ μ':Mu} {r r':Nat} {es:List V} (le:Le μ μ') (h:oA X μ r es\/xe X μ r es) (bM: (μ'.O r').sz=(μ.O r).sz) (hφ:μ'.φ r'=μ.φ r)
  (hb: (μ.φ r).cap≠0->μ'.w.heap[(μ.φ r).cj]? =μ.w.heap[(μ.φ r).cj]?):oA X μ' r' es\/xe X μ' r' es:=by
 rcases h with⟨h1,h2,h3,h4⟩ | ⟨h1,h2,ob,h3,h4⟩
 .left
  unfold oA;rw[bM,hφ];by_cases hc: (μ.φ r).cap=0
  .exact⟨h1,h2,h3,.inl hc⟩
  rcases h4 with h4| ⟨c,T,vs,a,b,d,e⟩
  .exact absurd h4 hc
  exact⟨h1,h2,h3,.inr ⟨c,T,vs,by rw[hb hc];exact a,b,ag.mono le d,e.cn (hb hc)⟩⟩
 right
 unfold xe;rw[bM,hφ];exact⟨h1,h2,ob,by rw[hb h2];exact h3,h4.mono le⟩
structure aid (w0:World) (aie:Nat->Prop) (μ:Mu):Prop where
 size:w0.heap.size<=μ.w.heap.size
 cn: ∀b,b<w0.heap.size-> ¬aie b->μ.w.heap[b]? =w0.heap[b]? /\ ¬μ.own b
 os:μ.w.os=w0.os
 output:μ.w.output=w0.output
 tape:μ.w.tape=w0.tape
 frozen: ∀a:Addr,a.block<w0.heap.size->μ.w.frozen? a=w0.frozen? a
theorem aj.qz {X:Ctx} {μ:Mu} {x:V} {v:Value} (h:aj X μ x v) (hc:x.aZ=true):v.oneCell'=true/\v.cells= #[v]:=by
 cases x<;>simp[V.aZ] at hc<;>simp only[aj] at h
 case bool=>subst h;exact⟨rfl,rfl⟩
 case int=>subst h;exact⟨rfl,rfl⟩
 case float=>subst h;exact⟨rfl,rfl⟩
 case str=>obtain⟨_,rfl,_⟩:=h;exact⟨rfl,rfl⟩
 case nilp=>subst h;exact⟨rfl,rfl⟩
 case nilfn=>subst h;exact⟨rfl,rfl⟩
 case nili=>subst h;exact⟨rfl,rfl⟩
 case fn=>obtain⟨_,_,rfl,_⟩:=h;exact⟨rfl,rfl⟩
 case bfn=>obtain⟨_,_,rfl,_⟩:=h;exact⟨rfl,rfl⟩
 case iface=>obtain⟨_,_,rfl,_⟩:=h;exact⟨rfl,rfl⟩
 case nils=>obtain⟨_,rfl⟩:=h;exact⟨rfl,rfl⟩
 case lit=>obtain⟨_,_,_,_,_,rfl,_⟩:=h;exact⟨rfl,rfl⟩
 case sl=>obtain⟨_,_,rfl,_⟩:=h;exact⟨rfl,rfl⟩
 case ptr=>obtain⟨_,rfl,_⟩:=h;exact⟨rfl,rfl⟩
 case eptr=>obtain⟨_,_,_,_,_,_,rfl,_⟩:=h;exact⟨rfl,rfl⟩
 case litk=>obtain⟨_,_,_,_,_,rfl,_⟩:=h;exact⟨rfl,rfl⟩
 case epk=>obtain⟨_,_,_,rfl,_⟩:=h;exact⟨rfl,rfl⟩
 case mp=>obtain⟨_,rfl,_⟩:=h;exact⟨rfl,rfl⟩
 case it=>obtain⟨_,rfl,_⟩:=h;exact⟨rfl,rfl⟩
 case mlit=>obtain⟨_,⟨_,rfl⟩ | ⟨_,_,_,rfl,_⟩⟩:=h<;>exact⟨rfl,rfl⟩
theorem V.jo {x:V} (h:x.aZ=true):x.cells=[x]:=by cases x<;>simp_all[V.aZ,V.cells]
theorem aj.cells {X:Ctx} {μ:Mu} {x:V} {v:Value} (h:aj X μ x v) (hl:x.dw=true):ag X μ x.cells v.cells.toList:=by
 simp only[V.dw,akD] at hl;rcases hl with hl| hl
 .cases x<;>simp[V.isAgg] at hl
  simp only[aj] at h;obtain⟨_,vs,rfl,h2⟩:=h;exact h2
 rw[(h.qz hl).2,V.jo hl];simp[ag,h]
theorem aj.gB {X:Ctx} {μ:Mu} {x:V} {v:Value} (h:aj X μ x v) (hl:x.dw=true):v.cells.size=x.cells.length:=by have:=(h.cells hl).length;simpa using this.symm
theorem aj.mw {X:Ctx} {μ:Mu} {x:V} {v:Value} (h:aj X μ x v) (hl:x.dw=true):x.cells.all V.aZ=true:=by
 simp only[V.dw,akD] at hl;rcases hl with hl| hl
 .cases x<;>simp[V.isAgg] at hl
  simp only[aj] at h;exact h.1
 rw[V.jo hl];simp[hl]
end Go.AM
namespace Go.AM
open Go Go.RowKit
theorem aD {α:Type} (f:Nat->α) (t:Nat) (v:α):dh f t v t=v:=by simp[dh]
theorem bk {α:Type} (f:Nat->α) {t n:Nat} (v:α) (h:n≠t):dh f t v n=f n:=by simp[dh,h]
theorem dL.I0 {w:World} {b off sz:Nat} {vs:List Value} {c:Array Value} {T:TypeId} {a:Nat×Nat} (hb:w.heap[b]? =some (.cells c T a))
  (h: ∀i v,vs[i]? =some v->v.cells.size=sz/\ ∀j x,v.cells[j]? =some x->c[off+i*sz+j]? =some x):dL w b off sz vs:=by
 intro i v hv;obtain⟨h1,h2⟩:=h i v hv;refine⟨h1,fun j x hx=> ?_⟩;simp[World.cell?,hb,h2 j x hx]
theorem dL.TO {w:World} {b off sz:Nat} {vs:List Value} {c:Array Value} {T:TypeId} {a:Nat×Nat} (hb:w.heap[b]? =some (.cells c T a))
  (h:dL w b off sz vs): ∀i v,vs[i]? =some v->v.cells.size=sz/\ ∀j x,v.cells[j]? =some x->c[off+i*sz+j]? =some x:=by
 intro i v hv;obtain⟨h1,h2⟩:=h i v hv;refine⟨h1,fun j x hx=> ?_⟩;have:=h2 j x hx;simpa [World.cell?,hb] using this
theorem I1 {μ:Mu} {r:Nat} {o:Obj} {w':World} (h:o.es.isSome=true->o.fz=false->(μ.O r).es.isSome=true/\(μ.O r).fz=false) {b:Nat}
  (hb: (⟨w',μ.φ,dh μ.O r o⟩:Mu).own b):μ.own b:=by
 obtain⟨r',h1,h2,h3,h4⟩:=hb;by_cases e:r'=r
 .subst e;simp only[aD] at h1 h2;obtain⟨a,c⟩:=h h1 h2;exact⟨r',a,c,h3,h4⟩
 simp only[bk _ _ e] at h1 h2;exact⟨r',h1,h2,h3,h4⟩
theorem bq.vp {X:Ctx} {μ μ':Mu} (a:bq X μ) (le:Le μ μ') (c:μ'.O=μ.O) (hφ:μ'.φ=μ.φ)
  (hb: ∀b,b<μ.w.heap.size->μ'.w.heap[b]? =μ.w.heap[b]?):bq X μ' where
 ok:=fun r es bC=>by rw[c] at bC;exact ig.cn le (a.ok r es bC) (by rw[c]) (by rw[hφ]) fun hc=>hb _ (ig.cj (a.ok r es bC) hc)
 inj:=by unfold Inj;rw[c,hφ];exact a.inj
 vE:=by rw[c,hφ];exact a.vE
 blt:=fun b hb=>ajB (a.blt b hb) le.size
theorem Le.drew {X:Ctx} {μ:Mu} (a:bq X μ):Le μ ⟨μ.w.drew,μ.φ,μ.O⟩/\bq X ⟨μ.w.drew,μ.φ,μ.O⟩:=by
 have le:Le μ ⟨μ.w.drew,μ.φ,μ.O⟩:=
  ⟨ajw _,fun _ _ h=> ⟨rfl,h⟩,fun _=>ajw _,fun _ _=> ⟨rfl,rfl⟩,rfl,rfl,rfl,fun _ _=>rfl⟩
 exact⟨le,a.vp le rfl rfl fun _ _=>rfl⟩
theorem Gu {X:Ctx} {μ:Mu} (f:bq X μ) (r sz cap:Nat) (arr:Bool) {es:List V} {vs:List Value} {c:Array Value} (T:TypeId) (bM:0 <sz)
  (o:es.length<=cap) (p:es.all (bj · sz)=true) (q:ag X μ es vs) (hc:cap*sz<=c.size)
  (s: ∀i v,vs[i]? =some v->v.cells.size=sz/\ ∀j x,v.cells[j]? =some x->c[i*sz+j]? =some x):
  let μ':Mu:=⟨μ.w.alloc (.cells c T (0,0)),dh μ.φ r ⟨μ.w.heap.size,0,cap⟩,dh μ.O r {gen:=(μ.O r).gen+1,sz:=sz,arr:=arr,fz:=false,es:=some es}⟩
  Le μ μ'/\bq X μ':=by
 intro μ';have l: ∀b,b<μ.w.heap.size->μ'.w.heap[b]? =μ.w.heap[b]? :=fun b hb=>heap_alloc_old _ _ _ hb;have u:μ'.w.heap.size=μ.w.heap.size+1:=Array.size_push _;have m:μ'.w.heap[μ.w.heap.size]? =some (.cells c T (0,0)):=heap_alloc_new _ _;have le:Le μ μ':=by
  refine⟨ajk,fun b hb t=> ⟨l b hb,?_⟩,fun r'=> ?_,fun r' e=> ?_,rfl,rfl,rfl,fun a ha=> ?_⟩
  .rintro⟨r',h1,h2,h3,h4⟩;by_cases e:r'=r
   .subst e;simp only[μ',aD] at h4;omega
   simp only[μ',bk _ _ e] at h1 h2 h3 h4;exact t ⟨r',h1,h2,h3,h4⟩
  .by_cases e:r'=r
   .subst e;simp[μ',aD]
   simp[μ',bk _ _ e]
  .by_cases e':r'=r
   .subst e';simp[μ',aD] at e
   simp[μ',bk _ _ e']
  simp only[World.frozen?,l a.block ha]
 refine⟨le,fun r' es' g=> ?_,fun r1 r2 bW h1 h2 h3 h4=> ?_,fun r' h1 h2 hb=> ?_,fun b hb=>ajB (f.blt b hb) le.size⟩
 rotate_left 2
 .by_cases e:r'=r
  .subst e;simp only[μ',aD] at hb;have:=f.blt _ hb;omega
  simp only[μ',bk _ _ e] at h1 h2 hb;exact f.vE r' h1 h2 hb
 .by_cases e:r'=r
  .subst e;simp only[μ',aD] at g ⊢;injection g with g;subst g;refine .inl ?_;unfold oA;simp only[μ',aD];refine⟨bM,o,p,.inr ⟨c,T,vs,m,by simpa using hc,ag.mono le q,dL.I0 m ?_⟩⟩;simpa using s
  have n:μ'.O r'=μ.O r':=by simp[μ',bk _ _ e]
  have hφ:μ'.φ r'=μ.φ r':=by simp[μ',bk _ _ e]
  rw[n] at g;exact ig.cn le (f.ok r' es' g) (by rw[n]) hφ fun hc=>l _ (ig.cj (f.ok r' es' g) hc)
 have d: ∀r',r'≠r->(μ.O r').es.isSome=true->(μ.φ r').cap≠0->(μ.φ r').cj<μ.w.heap.size:=fun r' _ hs E8=>by obtain⟨es',he⟩:=ajz.1 hs;exact ig.cj (f.ok r' es' he) E8
 by_cases k:r1=r
 .subst k;have h:r2≠r1:=fun e=>bW e.symm;simp only[μ',aD,bk _ _ h] at h1 h2 h3 h4 ⊢;have:=d r2 h h2 h4;omega
 by_cases h:r2=r
 .subst h;simp only[μ',aD,bk _ _ k] at h1 h2 h3 h4 ⊢;have:=d r1 k h1 h3;omega
 simp only[μ',bk _ _ k,bk _ _ h] at h1 h2 h3 h4 ⊢;exact f.inj r1 r2 bW h1 h2 h3 h4
theorem Pl {X:Ctx} {μ:Mu} (c:bq X μ) (r sz:Nat) (bM:0 <sz):
  let μ':Mu:=⟨μ.w,dh μ.φ r ⟨0,0,0⟩,dh μ.O r {gen:=(μ.O r).gen+1,sz:=sz,arr:=true,fz:=false,es:=some []}⟩
  Le μ μ'/\bq X μ':=by
 intro μ';have le:Le μ μ':=by
  refine⟨ajw _,fun b hb f=> ⟨rfl,?_⟩,fun r'=> ?_,fun r' e=> ?_,rfl,rfl,rfl,fun _ _=>rfl⟩
  .rintro⟨r',h1,h2,h3,h4⟩;by_cases e:r'=r
   .subst e;simp only[μ',aD] at h3;exact h3 rfl
   simp only[μ',bk _ _ e] at h1 h2 h3 h4;exact f ⟨r',h1,h2,h3,h4⟩
  .by_cases e:r'=r
   .subst e;simp[μ',aD]
   simp[μ',bk _ _ e]
  by_cases e':r'=r
  .subst e';simp[μ',aD] at e
  simp[μ',bk _ _ e']
 refine⟨le,fun r' es' a=> ?_,fun r1 r2 bW h1 h2 h3 h4=> ?_,fun r' h1 h2 hb=> ?_,c.blt⟩
 .by_cases e:r'=r
  .subst e;simp only[μ',aD] at a;injection a with a;subst a;refine .inl ?_;unfold oA;simp only[μ',aD];exact⟨bM,ajw _,rfl,.inl ajl⟩
  have d:μ'.O r'=μ.O r':=by simp[μ',bk _ _ e]
  have hφ:μ'.φ r'=μ.φ r':=by simp[μ',bk _ _ e]
  rw[d] at a;exact ig.cn le (c.ok r' es' a) (by rw[d]) hφ fun _=>rfl
 .have g:r1≠r:=by intro e;subst e;simp only[μ',aD] at h3;exact h3 rfl
  have h:r2≠r:=by intro e;subst e;simp only[μ',aD] at h4;exact h4 rfl
  simp only[μ',bk _ _ g,bk _ _ h] at h1 h2 h3 h4 ⊢;exact c.inj r1 r2 bW h1 h2 h3 h4
 have e:r'≠r:=by intro e;subst e;simp only[μ',aD] at h2;exact h2 rfl
 simp only[μ',bk _ _ e] at h1 h2 hb;exact c.vE r' h1 h2 hb
theorem Xo {X:Ctx} {μ:Mu} (i:bq X μ) {r r1:Nat} (bW:r1≠r):
  let μ':Mu:=⟨μ.w,dh μ.φ r (μ.φ r1),dh (dh μ.O r ⟨(μ.O r).gen+1,(μ.O r1).sz,(μ.O r1).arr,(μ.O r1).fz,(μ.O r1).es⟩) r1 ⟨(μ.O r1).gen+1,(μ.O r1).sz,(μ.O r1).arr,(μ.O r1).fz,none⟩⟩
  Le μ μ'/\bq X μ':=by
 intro μ';have Ci:r≠r1:=akN bW;have c:μ'.O r1=⟨(μ.O r1).gen+1,(μ.O r1).sz,(μ.O r1).arr,(μ.O r1).fz,none⟩:=by simp[μ',aD]
 have a:μ'.O r=⟨(μ.O r).gen+1,(μ.O r1).sz,(μ.O r1).arr,(μ.O r1).fz,(μ.O r1).es⟩:=by simp[μ',bk _ _ Ci,aD]
 have hφr:μ'.φ r=μ.φ r1:=by simp[μ',aD]
 have f: ∀r',r'≠r->r'≠r1->μ'.O r'=μ.O r':=fun r' h1 h2=>by simp[μ',bk _ _ h1,bk _ _ h2]
 have hφ: ∀r',r'≠r->μ'.φ r'=μ.φ r':=fun r' h1=>by simp[μ',bk _ _ h1]
 have p: ∀b,μ'.own b->μ.own b:=by
  rintro b ⟨r',h1,h2,h3,h4⟩;by_cases d:r'=r1
  .subst d;rw[c] at h1;simp at h1
  by_cases e:r'=r
  .subst e;rw[a] at h1 h2;rw[hφr] at h3 h4;exact⟨r1,h1,h2,h3,h4⟩
  rw[f _ e d] at h1 h2;rw[hφ _ e] at h3 h4;exact⟨r',h1,h2,h3,h4⟩
 have le:Le μ μ':=by
  refine⟨ajw _,fun b hb q=> ⟨rfl,fun h=>q (p b h)⟩,fun r'=> ?_,fun r' e=> ?_,rfl,rfl,rfl,fun _ _=>rfl⟩
  .by_cases d:r'=r1
   .subst d;rw[c];simp
   by_cases e:r'=r
   .subst e;rw[a];simp
   rw[f _ e d];exact ajw _
  by_cases d:r'=r1
  .subst d;rw[c] at e;simp at e
  by_cases j:r'=r
  .subst j;rw[a] at e;simp at e
  rw[f _ j d,hφ _ j];exact⟨rfl,rfl⟩
 refine⟨le,fun r' es' l=> ?_,fun r2 n o h1 h2 h3 h4=> ?_,fun r' h1 h2 hb=> ?_,i.blt⟩
 .by_cases d:r'=r1
  .subst d;rw[c] at l;simp at l
  by_cases e:r'=r
  .subst e;rw[a] at l;exact ig.cn (r:=r1) le (i.ok r1 es' l) (by rw[a]) hφr fun _=>rfl
  rw[f _ e d] at l;exact ig.cn le (i.ok r' es' l) (by rw[f _ e d]) (hφ _ e) fun _=>rfl
 .have g:r2≠r1:=by intro e;subst e;rw[c] at h1;simp at h1
  have k:n≠r1:=by intro e;subst e;rw[c] at h2;simp at h2
  by_cases j:r2=r
  .subst j;have m:n≠r2:=akN o;rw[a] at h1;rw[f _ m k] at h2;rw[hφr] at h3 ⊢;rw[hφ _ m] at h4 ⊢;exact i.inj r1 n (akN k) h1 h2 h3 h4
  rw[f _ j g] at h1;rw[hφ _ j] at h3 ⊢;by_cases m:n=r
  .subst m;rw[a] at h2;rw[hφr] at h4 ⊢;exact i.inj r2 r1 g h1 h2 h3 h4
  rw[f _ m k] at h2;rw[hφ _ m] at h4 ⊢;exact i.inj r2 n o h1 h2 h3 h4
 have g:r'≠r1:=by intro e;subst e;rw[c] at h1;simp at h1
 by_cases e:r'=r
 .subst e;rw[a] at h1;rw[hφr] at h2 hb;exact i.vE r1 h1 h2 hb
 rw[f _ e g] at h1;rw[hφ _ e] at h2 hb;exact i.vE r' h1 h2 hb
theorem mG {X:Ctx} {μ:Mu} (d:bq X μ) (r:Nat) {es:List V} {c:Array Value} {T:TypeId} (bC: (μ.O r).es=some es) (iC: (μ.O r).fz=false)
  (hb:μ.w.heap[(μ.φ r).cj]? =some (.cells c T (0,0))) (k: (μ.φ r).cap≠0)
  {c':Array Value} (hc:c'.size=c.size) (f Nk Pm:Nat) {es':List V} {vs':List Value}
  (hg: (f=(μ.O r).gen/\Nk=(μ.φ r).base/\Pm=(μ.φ r).cap)\/(μ.O r).gen<f) (t:Pm≠0)
  (hlen:es'.length<=Pm) (u:es'.all (bj · (μ.O r).sz)=true) (y:ag X μ es' vs') (A:Nk+Pm*(μ.O r).sz<=c.size)
  (z: ∀i v,vs'[i]? =some v->v.cells.size=(μ.O r).sz/\ ∀j x,v.cells[j]? =some x->c'[Nk+i*(μ.O r).sz+j]? =some x):
  let μ':Mu:=⟨μ.w.setRow (μ.φ r).cj c',dh μ.φ r ⟨(μ.φ r).cj,Nk,Pm⟩,dh μ.O r {μ.O r with gen:=f,es:=some es'}⟩
  Le μ μ'/\bq X μ':=by
 intro μ';have l:μ'.w.heap[(μ.φ r).cj]? =some (.cells c' T (0,0)):=setRow_heap _ _ _ _ _ _ hb;have m: ∀b,b≠(μ.φ r).cj->μ'.w.heap[b]? =μ.w.heap[b]? :=fun b bW=>setRow_other _ _ _ _ bW;have B:μ'.w.heap.size=μ.w.heap.size:=by simp[μ',World.setRow]
 have C: (μ.φ r).cj<μ.w.heap.size:=(ajs.1 hb).1;have p:μ.own (μ.φ r).cj:=⟨r,by simp[bC],iC,k,rfl⟩;have le:Le μ μ':=by
  refine⟨ajk,fun b D n=> ⟨m b (fun e=>n (e ▸ p)),?_⟩,fun r'=> ?_,fun r' e=> ?_,rfl,rfl,rfl,fun a ha=> ?_⟩
  .rintro⟨r',h1,h2,h3,h4⟩;by_cases e:r'=r
   .subst e;simp only[μ',aD] at h4;exact n (h4 ▸ p)
   simp only[μ',bk _ _ e] at h1 h2 h3 h4;exact n ⟨r',h1,h2,h3,h4⟩
  .by_cases e:r'=r
   .subst e;simp only[μ',aD];omega
   simp[μ',bk _ _ e]
  .by_cases e':r'=r
   .subst e';simp only[μ',aD] at e ⊢;rcases hg with⟨_,g2,g3⟩ | hg
    .subst g2;subst g3;exact⟨rfl,trivial⟩
    omega
   simp[μ',bk _ _ e']
  by_cases e:a.block=(μ.φ r).cj
  .simp only[World.frozen?,e,l,hb]
  simp only[World.frozen?,m _ e]
 refine⟨le,fun r' C1 g=> ?_,fun r1 r2 bW h1 h2 h3 h4=> ?_,fun r' h1 h2 hb=> ?_,fun b hb=>ajB (d.blt b hb) le.size⟩
 rotate_left 2
 .by_cases e:r'=r
  .subst e;simp only[μ',aD] at hb;exact d.vE r' (by simp[bC]) k hb
  simp only[μ',bk _ _ e] at h1 h2 hb;exact d.vE r' h1 h2 hb
 .by_cases e:r'=r
  .subst e;have bM:0 < (μ.O r').sz:=by
    rcases d.ok r' es bC with⟨h,_⟩ | ⟨_,_,ob,hm,Ha⟩
    .exact h
    rw[hb] at hm;injection hm with hm;subst hm;rcases Ha with⟨_,_,h,_⟩ | ⟨_,_,h,_⟩ | ⟨_,_,_,h,_⟩ <;>cases h
   simp only[μ',aD] at g;injection g with g;subst g;refine .inl ?_;unfold oA;simp only[μ',aD];exact⟨bM,hlen,u,.inr ⟨c',T,vs',l,ajk,ag.mono le y,dL.I0 l z⟩⟩
  have q:μ'.O r'=μ.O r':=by simp[μ',bk _ _ e]
  have hφ:μ'.φ r'=μ.φ r':=by simp[μ',bk _ _ e]
  rw[q] at g;exact ig.cn le (d.ok r' C1 g) (by rw[q]) hφ fun o=>m _ (d.inj r' r e (by simp[g]) (by simp[bC]) o k)
 have hs: ∀x,(μ'.O x).es.isSome=true->(μ.O x).es.isSome=true:=fun x hx=>by
  by_cases e:x=r
  .subst e;simp[bC]
  simpa [μ',bk _ _ e] using hx
 have s: ∀x,(μ'.φ x).cap≠0->(μ.φ x).cap≠0:=fun x hx=>by
  by_cases e:x=r
  .subst e;exact k
  simpa [μ',bk _ _ e] using hx
 have Ap: ∀x,(μ'.φ x).cj=(μ.φ x).cj:=fun x=>by
  by_cases e:x=r
  .subst e;simp[μ',aD]
  simp[μ',bk _ _ e]
 rw[Ap,Ap];exact d.inj r1 r2 bW (hs _ h1) (hs _ h2) (s _ h3) (s _ h4)
theorem qA {X:Ctx} {μ:Mu} (a:bq X μ) (r:Nat):
  let μ':Mu:=⟨μ.w,μ.φ,dh μ.O r {μ.O r with fz:=true}⟩
  Le μ μ'/\bq X μ':=by
 intro μ';have cT: ∀x,(μ'.O x).gen=(μ.O x).gen/\(μ'.O x).sz=(μ.O x).sz/\(μ'.O x).es=(μ.O x).es:=fun x=>by
  by_cases e:x=r
  .subst e;simp[μ',aD]
  simp[μ',bk _ _ e]
 have le:Le μ μ':=
  ⟨ajw _,fun b hb h=> ⟨rfl,fun c=>h (I1 (r:=r) (w':=μ.w) ajl c)⟩,fun x=>by rw[(cT x).1];exact ajw _,fun x _=> ⟨rfl,(cT x).2.1⟩,rfl,rfl,rfl,fun _ _=>rfl⟩
 refine⟨le,fun x es bC=> ?_,fun r1 r2 bW h1 h2 h3 h4=> ?_,fun x h1 h2 hb=>a.vE x (by rw[(cT x).2.2] at h1;exact h1) h2 hb,a.blt⟩
 .rw[(cT x).2.2] at bC;exact ig.cn le (a.ok x es bC) (cT x).2.1 rfl fun _=>rfl
 rw[(cT r1).2.2] at h1;rw[(cT r2).2.2] at h2;exact a.inj r1 r2 bW h1 h2 h3 h4
theorem Pn {X:Ctx} {μ:Mu} (a:bq X μ) (r:Nat) {es':List V} (h0: (μ.O r).es.isSome=true) (bM:0 < (μ.O r).sz) (hl:es'.length<=(μ.φ r).cap) (d:es'.all (bj · (μ.O r).sz)=true)
  (hc: (μ.φ r).cap=0\/ ∃c T vs,μ.w.heap[(μ.φ r).cj]? =some (.cells c T (0,0))/\(μ.φ r).base+(μ.φ r).cap*(μ.O r).sz<=c.size/\ag X μ es' vs/\
    dL μ.w (μ.φ r).cj (μ.φ r).base (μ.O r).sz vs):
  let μ':Mu:=⟨μ.w,μ.φ,dh μ.O r {μ.O r with es:=some es'}⟩
  Le μ μ'/\bq X μ':=by
 intro μ';have cT: ∀x,(μ'.O x).gen=(μ.O x).gen/\(μ'.O x).sz=(μ.O x).sz/\(μ'.O x).es.isSome=(μ.O x).es.isSome/\(μ'.O x).fz=(μ.O x).fz:=fun x=>by
  by_cases e:x=r
  .subst e;simp[μ',aD,h0]
  simp[μ',bk _ _ e]
 have f: ∀b,μ'.own b->μ.own b:=by rintro b ⟨r',h1,h2,h3,h4⟩;rw[(cT r').2.2.1] at h1;rw[(cT r').2.2.2] at h2;exact⟨r',h1,h2,h3,h4⟩
 have le:Le μ μ':=
  ⟨ajw _,fun b hb h=> ⟨rfl,fun g=>h (f b g)⟩,fun x=>by rw[(cT x).1];exact ajw _,fun x _=> ⟨rfl,(cT x).2.1⟩,rfl,rfl,rfl,fun _ _=>rfl⟩
 refine⟨le,fun x es bC=> ?_,fun r1 r2 bW h1 h2 h3 h4=> ?_,fun x h1 h2 hb=>a.vE x (by rw[(cT x).2.2.1] at h1;exact h1) h2 hb,a.blt⟩
 .by_cases e:x=r
  . subst e
    have:es=es':=by simp[μ',aD] at bC;exact bC.symm
    subst this;refine .inl ?_;unfold oA;rw[(cT x).2.1];refine⟨bM,hl,d,hc.imp id ?_⟩;rintro⟨c,T,vs,q1,q2,q3,q4⟩;exact⟨c,T,vs,q1,q2,ag.mono le q3,q4⟩
  have hx:μ'.O x=μ.O x:=by simp[μ',bk _ _ e]
  rw[hx] at bC;exact ig.cn le (a.ok x es bC) (by rw[hx]) rfl fun _=>rfl
 rw[(cT r1).2.2.1] at h1;rw[(cT r2).2.2.1] at h2;exact a.inj r1 r2 bW h1 h2 h3 h4
theorem Cj {X:Ctx} {μ:Mu} (d:bq X μ) (r:Nat) (h:Go.Obj) (es:List V) (Ha:qy X μ h es):
  let μ':Mu:=⟨μ.w.alloc h,dh μ.φ r ⟨μ.w.heap.size,0,1⟩,dh μ.O r {gen:=(μ.O r).gen+1,sz:=0,arr:=false,fz:=false,es:=some es}⟩
  Le μ μ'/\bq X μ':=by
 intro μ';have j: ∀b,b<μ.w.heap.size->μ'.w.heap[b]? =μ.w.heap[b]? :=fun b hb=>heap_alloc_old _ _ _ hb;have n:μ'.w.heap.size=μ.w.heap.size+1:=Array.size_push _;have l:μ'.w.heap[μ.w.heap.size]? =some h:=heap_alloc_new _ _;have le:Le μ μ':=by
  refine⟨ajk,fun b hb m=> ⟨j b hb,?_⟩,fun r'=> ?_,fun r' e=> ?_,rfl,rfl,rfl,fun a ha=> ?_⟩
  .rintro⟨r',h1,h2,h3,h4⟩;by_cases e:r'=r
   .subst e;simp only[μ',aD] at h4;omega
   simp only[μ',bk _ _ e] at h1 h2 h3 h4;exact m ⟨r',h1,h2,h3,h4⟩
  .by_cases e:r'=r
   .subst e;simp[μ',aD]
   simp[μ',bk _ _ e]
  .by_cases e':r'=r
   .subst e';simp[μ',aD] at e
   simp[μ',bk _ _ e']
  simp only[World.frozen?,j a.block ha]
 refine⟨le,fun r' es' f=> ?_,fun r1 r2 bW h1 h2 h3 h4=> ?_,fun r' h1 h2 hb=> ?_,fun b hb=>ajB (d.blt b hb) le.size⟩
 rotate_left 2
 .by_cases e:r'=r
  .subst e;simp only[μ',aD] at hb;have:=d.blt _ hb;omega
  simp only[μ',bk _ _ e] at h1 h2 hb;exact d.vE r' h1 h2 hb
 .by_cases e:r'=r
  .subst e;simp only[μ',aD] at f;injection f with f;subst f;refine .inr ?_;unfold xe;simp only[μ',aD];exact⟨trivial,ajl,h,l,Ha.mono le⟩
  have k:μ'.O r'=μ.O r':=by simp[μ',bk _ _ e]
  have hφ:μ'.φ r'=μ.φ r':=by simp[μ',bk _ _ e]
  rw[k] at f;exact ig.cn le (d.ok r' es' f) (by rw[k]) hφ fun hc=>j _ (ig.cj (d.ok r' es' f) hc)
 have c: ∀r',r'≠r->(μ.O r').es.isSome=true->(μ.φ r').cap≠0->(μ.φ r').cj<μ.w.heap.size:=fun r' _ hs E8=>by obtain⟨es',he⟩:=ajz.1 hs;exact ig.cj (d.ok r' es' he) E8
 by_cases i:r1=r
 .subst i;have g:r2≠r1:=fun e=>bW e.symm;simp only[μ',aD,bk _ _ g] at h1 h2 h3 h4 ⊢;have:=c r2 g h2 h4;omega
 by_cases g:r2=r
 .subst g;simp only[μ',aD,bk _ _ i] at h1 h2 h3 h4 ⊢;have:=c r1 i h1 h3;omega
 simp only[μ',bk _ _ i,bk _ _ g] at h1 h2 h3 h4 ⊢;exact d.inj r1 r2 bW h1 h2 h3 h4
theorem iD {X:Ctx} {μ:Mu} (f:bq X μ) (r:Nat) {es es':List V} {l ob':Go.Obj} (bC: (μ.O r).es=some es) (iC: (μ.O r).fz=false) (bM: (μ.O r).sz=0)
  (hb:μ.w.heap[(μ.φ r).cj]? =some l) (i: (μ.φ r).cap≠0) (Ha:qy X μ l es) (g:qy X μ ob' es'):
  let μ':Mu:=⟨{μ.w with heap:=μ.w.heap.set! (μ.φ r).cj ob'},μ.φ,dh μ.O r {μ.O r with es:=some es'}⟩
  Le μ μ'/\bq X μ':=by
 intro μ';have p: (μ.φ r).cj<μ.w.heap.size:=(ajs.1 hb).1;have m:μ'.w.heap[(μ.φ r).cj]? =some ob':=by simp[μ',akC,p]
 have j: ∀b,b≠(μ.φ r).cj->μ'.w.heap[b]? =μ.w.heap[b]? :=fun b bW=>by simp[μ',akC,akN bW]
 have s:μ'.w.heap.size=μ.w.heap.size:=by simp[μ']
 have q:μ.own (μ.φ r).cj:=⟨r,by simp[bC],iC,i,rfl⟩;have c: ∀x,(μ'.O x).gen=(μ.O x).gen/\(μ'.O x).sz=(μ.O x).sz/\(μ'.O x).fz=(μ.O x).fz/\(μ'.O x).es.isSome=(μ.O x).es.isSome:=fun x=>by
  by_cases e:x=r
  .subst e;simp[μ',aD,bC]
  simp[μ',bk _ _ e]
 have KW: ∀b,μ'.own b->μ.own b:=by rintro b ⟨r',h1,h2,h3,h4⟩;rw[(c r').2.2.2] at h1;rw[(c r').2.2.1] at h2;exact⟨r',h1,h2,h3,h4⟩
 have le:Le μ μ':=by
  refine⟨ajk,fun b t n=> ⟨j b (fun e=>n (e ▸ q)),fun h=>n (KW b h)⟩,fun r'=>by rw[(c r').1];exact ajw _,fun r' _=> ⟨rfl,(c r').2.1⟩,rfl,rfl,rfl,fun a ha=> ?_⟩;by_cases e:a.block=(μ.φ r).cj
  .rw[g.live a μ'.w (by rw[e];exact m),Ha.live a μ.w (by rw[e];exact hb)]
  simp only[World.frozen?,j _ e]
 refine⟨le,fun r' C1 d=> ?_,fun r1 r2 bW h1 h2 h3 h4=> ?_,fun r' h1 h2 hb=> ?_,fun b hb=>ajB (f.blt b hb) le.size⟩
 .by_cases e:r'=r
  .subst e;simp only[μ',aD] at d;injection d with d;subst d;refine .inr ?_;unfold xe;rw[(c r').2.1];exact⟨bM,i,ob',m,g.mono le⟩
  have o:μ'.O r'=μ.O r':=by simp[μ',bk _ _ e]
  rw[o] at d;exact ig.cn le (f.ok r' C1 d) (by rw[o]) rfl fun k=>j _ (f.inj r' r e (by simp[d]) (by simp[bC]) k i)
 .rw[(c r1).2.2.2] at h1;rw[(c r2).2.2.2] at h2;exact f.inj r1 r2 bW h1 h2 h3 h4
 rw[(c r').2.2.2] at h1;exact f.vE r' h1 h2 hb
end Go.AM
namespace Go.AM
open Go Go.RowKit
structure Rel (X:Ctx) (T:Nat->V) (a:Go.Act) (μ:Mu):Prop where
 tmps: ∀t,aj X μ (T t) (a.tmps.getD t undef)
 bp:bq X μ
def dg (X:Ctx) (o:Oper) (a:Go.Act) (μ:Mu) (O':Nat->Obj) (v:V):Prop:=
 ∃val w' φ',((execOp a.eval o).run X.P μ.w= .ok (.value val) w'\/((execOp a.eval o).run X.P μ.w= .ok .skip w'/\val=undef))/\
  aj X ⟨w',φ',O'⟩ v val/\Le μ ⟨w',φ',O'⟩/\bq X ⟨w',φ',O'⟩
theorem aU {X:Ctx} {o:Oper} {a:Go.Act} {μ:Mu} {v:V} {val:Value} (b:bq X μ) (c: (execOp a.eval o).run X.P μ.w= .ok (.value val) μ.w)
  (hv:aj X μ v val):dg X o a μ μ.O v:=
 ⟨val,μ.w,μ.φ,.inl c,hv,Le.refl μ,b⟩
theorem dQ {P:Program} {s:Sem Value} {w w':World} {val:Value} (h:s.run P w= .ok val w'): (do pure (Next.value (<-s)):Sem Next).run P w= .ok (.value val) w':=by simp[Sem.run_bind,h]
theorem Ck {P:Program} {s:Sem Unit} {w w':World} (h:s.run P w= .ok () w'): (do s;pure Next.skip:Sem Next).run P w= .ok .skip w':=by simp[Sem.run_bind,h]
theorem bF (C:bB) (x:ba) (k:V->Act) (σ:St): (ev x k).run C σ=(k (bE σ x)).run C σ:=by cases x<;>rfl
theorem qB (C:bB): ∀ (xs:List ba) (k:List V->Act) (σ:St),(evs xs k).run C σ=(k (xs.map (bE σ))).run C σ
 | [],_,_=>rfl
 | x::xs,k,σ=>by simp only[evs,bF,qB C xs,List.map_cons]
theorem Xp (C:bB) (x:Option ba) (k:Option V->Act) (σ:St): (P0 x k).run C σ=(k (x.map (bE σ))).run C σ:=by
 cases x with
 | none=>rfl
 | some x=>exact bF C x _ σ
theorem gI {C:bB} {r:Option V} {σ σ':St} {v:V} (h: (fi r).run C σ=some (v,σ')):r=some v/\σ'=σ:=by
 cases r with
 | none=>simp[fi,Act.run] at h
 | some u=>simp only[fi,Act.run,ajq,ajv] at h;exact⟨by rw[h.1],h.2.symm⟩
theorem bn {C:bB} {u v:V} {σ σ':St} (h: (Act.done u).run C σ=some (v,σ')):u=v/\σ'=σ:=by simp only[Act.run,ajq,ajv] at h;exact⟨h.1,h.2.symm⟩
theorem aq {C:bB} {p:V×St} {σ:St}: (Act.fail).run C σ≠some p:=by simp[Act.run]
theorem uq {X:Ctx} {μ:Mu} {v:Value} {c:V} (h:tw v=some c):aj X μ c v/\c.aZ=true:=by
 unfold tw at h;split at h<;>first
  | (injection h with h;subst h;simp[aj,V.aZ,V.al])
  | simp at h
theorem r8 {X:Ctx} {μ:Mu}: ∀ {vs:List Value} {cs:List V},nC vs=some cs->ag X μ cs vs/\cs.all V.aZ=true
 | [],cs,h=>by simp[nC] at h;subst h;simp[ag]
 | v::vs,cs,h=>by
   simp only[nC] at h;split at h
   .rename_i c d h1 h2;injection h with h;subst h;obtain⟨a1,a⟩:=uq (X:=X) (μ:=μ) h1;obtain⟨b1,b⟩:=r8 (X:=X) (μ:=μ) h2;simp[ag,a1,a,b1,b]
   simp at h
theorem fk {X:Ctx} {μ:Mu} {v:Value} {c:V} (h:Cd v=some c):aj X μ c v/\c.dw=true:=by
 unfold Cd at h;split at h
 .rename_i cs;simp only[ajr] at h;obtain⟨l,h1,rfl⟩:=h;obtain⟨a1,a⟩:=r8 (X:=X) (μ:=μ) h1;simp[aj,V.dw,V.isAgg,a1,a]
 obtain⟨a1,a⟩:=uq (X:=X) (μ:=μ) h;exact⟨a1,by simp[V.dw,a]⟩
theorem aX {X:Ctx} {μ:Mu} {T:Nat->V} {a:Go.Act} {x:Operand} {y:ba} (hr:Rel X T a μ) (h:dy X x=some y) (O:Nat->Obj):aj X μ (bE ⟨T,O⟩ y) (a.eval x):=by
 cases x with
 | tmp t=>simp[dy] at h;subst h;exact hr.tmps t
 | const v=>
   simp only[dy,ajr] at h;obtain⟨c,h1,rfl⟩:=h;exact(fk h1).1
 | global g=>simp[dy] at h
 | func f=>
   simp only[dy,ajr] at h;obtain⟨n,h1,rfl⟩:=h;simp only[bE,Go.Act.eval,aj];exact⟨f,#[],rfl,h1,by simp[ag]⟩
theorem pP {X:Ctx} {μ:Mu} {T:Nat->V} {a:Go.Act} (hr:Rel X T a μ) (O:Nat->Obj): ∀ {xs:List Operand} {ys:List ba},pO X xs=some ys->
   ag X μ (ys.map (bE ⟨T,O⟩)) (xs.map a.eval)
 | [],ys,h=>by simp[pO] at h;subst h;simp[ag]
 | x::xs,ys,h=>by
   simp only[pO] at h;split at h
   .rename_i b c h1 h2;injection h with h;subst h;simp only[List.map_cons,ag];exact⟨aX hr h1 O,pP hr O h2⟩
   simp at h
theorem Gv {X:Ctx} {μ:Mu} {e u:V} {x:Value} {off sz:Nat} (h:aj X μ e x) (hp:part true off sz e=some u):
  ∃cs,x= .agg cs/\off+sz<=cs.size/\aj X μ u (.agg (cs.extract off (off+sz))):=by
 cases e<;>simp[part] at hp
 rename_i cs;obtain⟨h1,h2⟩:=hp;subst h2;simp only[aj] at h;obtain⟨h0,vs,rfl,hv⟩:=h;have hl:=hv.length;simp at hl;refine⟨vs,rfl,ajk,?_⟩;simp only[aj];refine⟨?_,_,rfl,?_⟩
 .simp only[ajx] at h0 ⊢;intro c hc;exact h0 c (aki (ajN hc))
 have:=ag.take sz (ag.drop off hv);simpa [ak9,akK] using this
theorem Dn {X:Ctx} {μ:Mu} {e u:V} {x:Value} {off sz:Nat} (h:aj X μ e x) (hp:part false off sz e=some u):
  e.dw=true/\ ∃c,x.cells[off]? =some c/\aj X μ u c:=by
 by_cases ha: ∃cs,e= .agg cs
 .obtain⟨cs,rfl⟩:=ha;simp only[part] at hp;simp only[aj] at h;obtain⟨h0,vs,rfl,hv⟩:=h;obtain⟨c,h1,h2⟩:=hv.get hp;exact⟨by simp[V.dw,V.isAgg],c,by simpa [Value.cells] using h1,h2⟩
 have:part false off sz e=if e.aZ/\off=0 then some e else none:=by cases e<;>first| rfl| exact absurd ⟨_,rfl⟩ ha
 rw[this] at hp;split at hp
 .rename_i hc;injection hp with hp;subst hp;refine⟨by simp[V.dw,hc.1],x,?_,h⟩;rw[(h.qz hc.1).2,hc.2];simp
 simp at hp
section
variable {X:Ctx} {h:Hints} {dst:Nat} {E:Env} {C:bB} {o:Oper} {a:Go.Act} {T:Nat->V} {μ:Mu} {v:V} {σ':St}
theorem ag.Fj {X:Ctx} {μ:Mu}: ∀ (ks:List Nat) {cs:List V} {vs:List Value},ag X μ cs vs->ag X μ (AM.Fj ks cs) vs
 | [],cs,vs,h=>by simpa [AM.Fj] using h
 | k::ks,[],vs,h=>by simpa [AM.Fj] using h
 | k::ks,c::cs,[],h=>by simp[ag] at h
 | k::ks,c::cs,v::vs,h=>by
   simp only[ag] at h;simp only[AM.Fj,ag];refine⟨?_,ag.Fj ks h.2⟩;split
   .obtain⟨a,rfl⟩:=by simpa [aj] using h.1
    simp only[aj];exact⟨rfl,rfl,a,0,[],rfl,ajw _,by simp[ag],.inl trivial⟩
   exact h.1
theorem vt: ∀ (ks:List Nat) {cs:List V},cs.all V.aZ=true->(AM.Fj ks cs).all V.aZ=true
 | [],cs,h=>by simpa [AM.Fj] using h
 | k::ks,[],h=>by simp[AM.Fj]
 | k::ks,c::cs,h=>by
   simp only[ajM,ajt] at h;simp only[AM.Fj,ajM,ajt];refine⟨?_,vt ks h.2⟩;split
   .rfl
   exact h.1
theorem aj.JJ {X:Ctx} {μ:Mu} (ks:List Nat) {v:V} {val:Value} (h:aj X μ v val):aj X μ (AM.JJ ks v) val:=by
 unfold AM.JJ;split
 .simp only[aj] at h ⊢;obtain⟨h1,vs,rfl,h2⟩:=h;exact⟨vt ks h1,vs,rfl,h2.Fj ks⟩
 .split
  .obtain⟨a,rfl⟩:=by simpa [aj] using h
   simp only[aj];exact⟨rfl,rfl,a,0,[],rfl,ajw _,by simp[ag],.inl trivial⟩
  exact h
 exact h
theorem aj.Yk {X:Ctx} {μ:Mu} (ks:List Nat) {σ:St} {y:ba} {val:Value} (h:aj X μ (bE σ y) val):aj X μ (bE σ (AM.Yk ks y)) val:=by
 cases y with
 | tmp t=>exact h
 | const v=>exact aj.JJ ks h
theorem aan {x:Operand} {y:ba} (ks:List Nat) (hr:Rel X T a μ) (b:o.op= .move x\/o.op= .assign x) (ht:dy X x=some y) (c: (aQ E (.move (Yk ks y))).run C ⟨T,μ.O⟩=some (v,σ')):
  σ'.T=T/\dg X o a μ σ'.O v:=by
 simp only[aQ,bF] at c;obtain⟨rfl,rfl⟩:=bn c;refine⟨rfl,aU hr.bp ?_ (aj.Yk ks (aX hr ht _))⟩;rcases b with b| b<;>simp[execOp,b]
theorem Yn {h:Hints} {dst:Nat} {x:Operand} {j:vH} (hr:Rel X T a μ) (c:o.op= .move x\/o.op= .assign x) (ht:Ce X h dst x=some j) (b: (aQ E j).run C ⟨T,μ.O⟩=some (v,σ')):
  σ'.T=T/\dg X o a μ σ'.O v:=by
 unfold Ce at ht;split at ht
 .rename_i r sz hn hb;injection ht with ht;subst ht;simp only[aQ] at b;split at b
  .rename_i bM;simp only[Act.run,ajq,ajv] at b;obtain⟨rfl,rfl⟩:=b;have hx:x= .const (.slice none 0 0):=by
    unfold isNil at hn;split at hn
    .rfl
    simp at hn
   subst hx;obtain⟨le,f⟩:=Pl hr.bp r sz bM;refine⟨rfl,.slice none 0 0,μ.w,dh μ.φ r ⟨0,0,0⟩,.inl ?_,?_,le,f⟩
   .rcases c with c| c<;>simp[execOp,c,Go.Act.eval]
   simp only[aj,aD];exact⟨_,0,rfl,ajw _,ajw _,fun _=> ⟨bM,rfl,.inl rfl⟩⟩
  exact absurd b aq
 split at ht
 .rename_i r k;simp only[ajr] at ht;obtain⟨y,h1,rfl⟩:=ht;simp only[aQ,bF] at b;have d:=aX hr h1 μ.O;have i: (execOp a.eval o).run X.P μ.w= .ok (.value (a.eval x)) μ.w:=by rcases c with c| c<;>simp[execOp,c]
  split at b
  .rename_i r1 g off len he;rw[he] at d;split at b
   .obtain⟨rfl,rfl⟩:=bn b;exact⟨rfl,aU hr.bp i d⟩
   rename_i bW;simp only[Act.run] at b;split at b
   .rename_i hg;simp only[Act.run,ajq,ajv] at b;obtain⟨rfl,rfl⟩:=b;obtain⟨le,f⟩:=Xo hr.bp (r:=r) (r1:=r1) bW;refine⟨rfl,a.eval x,μ.w,dh μ.φ r (μ.φ r1),.inl i,?_,le,f⟩;simp only[aj] at d ⊢;obtain⟨ad,cap,l,m,s,n⟩:=d;obtain⟨p,q⟩:=n hg;have Ci:r≠r1:=fun e=>bW e.symm;simp only[bk _ _ Ci,aD];exact⟨ad,cap,l,m,ajw _,fun _=> ⟨p,q⟩⟩
   simp[Act.run] at b
  obtain⟨rfl,rfl⟩:=bn b;exact⟨rfl,aU hr.bp i d⟩
 simp only[ajr] at ht;obtain⟨y,h1,rfl⟩:=ht;exact aan _ hr c h1 b
theorem Xq {c p q:Operand} {c' d f:ba} (hr:Rel X T a μ) (g:o.op= .pick c p q) (h1:dy X c=some c') (h2:dy X p=some d) (h3:dy X q=some f)
  (b: (aQ E (.pick c' d f)).run C ⟨T,μ.O⟩=some (v,σ')):σ'.T=T/\dg X o a μ σ'.O v:=by
 simp only[aQ,bF] at b;have hc:=aX hr h1 μ.O;split at b
 .rename_i e;rw[e] at hc;simp only[aj] at hc;rw[bF] at b;obtain⟨rfl,rfl⟩:=bn b;refine⟨rfl,aU hr.bp ?_ (aX hr h2 _)⟩;simp[execOp,g,hc,asBool,Sem.run_bind]
 .rename_i e;rw[e] at hc;simp only[aj] at hc;rw[bF] at b;obtain⟨rfl,rfl⟩:=bn b;refine⟨rfl,aU hr.bp ?_ (aX hr h3 _)⟩;simp[execOp,g,hc,asBool,Sem.run_bind]
 exact absurd b aq
theorem I2 {x:Operand} {y:ba} (hr:Rel X T a μ) (d:o.op= .nilCheck x) (ht:dy X x=some y) (c: (aQ E (.nilCheck y)).run C ⟨T,μ.O⟩=some (v,σ')):
  σ'.T=T/\dg X o a μ σ'.O v:=by
 simp only[aQ,bF] at c;have hx:=aX hr ht μ.O;split at c
 .rename_i e;obtain⟨rfl,rfl⟩:=bn c;refine⟨rfl,aU hr.bp ?_ (e ▸ hx)⟩;rw[e] at hx;simp only[aj] at hx;obtain⟨p,hp,_⟩:=hx;simp[execOp,d,hp]
 .rename_i e;obtain⟨rfl,rfl⟩:=bn c;refine⟨rfl,aU hr.bp ?_ (e ▸ hx)⟩;rw[e] at hx;simp only[aj] at hx;obtain⟨_,_,b,g,sz,q,hp,_⟩:=hx;simp[execOp,d,hp]
 .rename_i e;obtain⟨rfl,rfl⟩:=bn c;refine⟨rfl,aU hr.bp ?_ (e ▸ hx)⟩;rw[e] at hx;simp only[aj] at hx;obtain⟨_,_,q,hp,_⟩:=hx;simp[execOp,d,hp]
 .rename_i e;obtain⟨rfl,rfl⟩:=bn c;refine⟨rfl,aU hr.bp ?_ (e ▸ hx)⟩;rw[e] at hx;simp only[aj] at hx;obtain⟨F,f,hp,_⟩:=hx;simp[execOp,d,hp]
 .rename_i e;obtain⟨rfl,rfl⟩:=bn c;refine⟨rfl,aU hr.bp ?_ (e ▸ hx)⟩;rw[e] at hx;simp only[aj] at hx;obtain⟨F,f,hp,_⟩:=hx;simp[execOp,d,hp]
 exact absurd c aq
theorem Gw {s:TypeId} {x:Operand} {i:Nat} {y:ba} {fs:Array Field} {f:Field} {n:Nat} (hr:Rel X T a μ) (l:o.op= .fieldAddr s x i) (ht:dy X x=some y)
  (hd:bP X s=some (.struct fs)) (hf:fs[i]? =some f) (hn:bU X f.type=some (n+1)) (d: (aQ E (.fieldAddr f.offset y)).run C ⟨T,μ.O⟩=some (v,σ')):
  σ'.T=T/\dg X o a μ σ'.O v:=by
 simp only[aQ,bF] at d;have hx:=aX hr ht μ.O;have hi: ∃c,X.P.info? f.type=some c/\c.size=n+1:=by simpa [bU,info] using hn
 obtain⟨c,j,IX⟩:=hi;have bM:X.P.cellsOf f.type=n+1:=by simp[Program.cellsOf,j,IX]
 have key: ∀p:Addr,a.eval x= .pointer (some p)->(execOp a.eval o).run X.P μ.w= .ok (.value (.pointer (some (p.add f.offset)))) μ.w:=fun p hp=>by simp only[execOp,l];refine dQ ?_;simp[Instr.fieldAt,Sem.run_bind,run_underlying hd,hf,Instr.sureAddr,hp,fieldPlace,run_sizeOf (w:=μ.w) j,bM]
 have g: ∀ (b q:Nat),(⟨b,q,none⟩:Addr).add f.offset=⟨b,q+f.offset,none⟩:=fun b q=>by unfold Addr.add;split<;>simp_all
 split at d
 .rename_i e;obtain⟨rfl,rfl⟩:=bn d;rw[e] at hx;simp only[aj] at hx;obtain⟨p,hp,h1,h2⟩:=hx;refine⟨rfl,aU hr.bp (key p hp) ?_⟩;simp only[aj];refine⟨_,rfl,h1,fun k=> ⟨(h2 k).1,?_⟩⟩;rw[(h2 k).2,g];simp[aln]
 .rename_i e;obtain⟨rfl,rfl⟩:=bn d;rw[e] at hx;simp only[aj] at hx;obtain⟨h0,h,b,m,sz,q,hp,h1,h2,h3,h4⟩:=hx;refine⟨rfl,aU hr.bp (key _ hp) ?_⟩;simp only[aj];exact⟨h0,h,b,m,sz,q,by rw[g];simp[aln],h1,h2,h3,h4⟩
 .rename_i e;obtain⟨rfl,rfl⟩:=bn d;rw[e] at hx;simp only[aj] at hx;obtain⟨h0,h,q,hp,h1,h2,h3,h4⟩:=hx;refine⟨rfl,aU hr.bp (key _ hp) ?_⟩;simp only[aj];exact⟨h0,h,q,by rw[g];simp[aln],h1,h2,h3,h4⟩
 exact absurd d aq
theorem Lt {x:Operand} {i:Nat} {y:ba} (hr:Rel X T a μ) (d:o.op= .extract x i) (ht:dy X x=some y) (b: (aQ E (.extract y i)).run C ⟨T,μ.O⟩=some (v,σ')):
  σ'.T=T/\dg X o a μ σ'.O v:=by
 simp only[aQ,bF] at b;have hx:=aX hr ht μ.O;split at b
 .rename_i vs e;obtain⟨h1,rfl⟩:=gI b;rw[e] at hx;simp only[aj] at hx;obtain⟨f,g,hv⟩:=hx;obtain⟨c,h2,h3⟩:=hv.get h1;refine⟨rfl,aU hr.bp ?_ h3⟩;simp only[execOp,d];refine dQ ?_;have HI:f[i]? =some c:=by simpa using h2
  simp[Instr.extract,g,HI]
 exact absurd b aq
theorem I3 {f:FuncId} {first caps:Array Operand} {n:Nat} {cs:List ba} (hr:Rel X T a μ) (c:o.op= .makeFunc (.func f) first caps) (Am:first.isEmpty=true)
  (hn:X.gA f=some n) (ht:pO X caps.toList=some cs) (b: (aQ E (.A4 n cs)).run C ⟨T,μ.O⟩=some (v,σ')):σ'.T=T/\dg X o a μ σ'.O v:=by
 simp only[aQ,qB] at b;obtain⟨rfl,rfl⟩:=bn b;have hx:=pP hr μ.O ht;obtain rfl:first= #[]:=by simpa using Am
 refine⟨rfl,aU (val:= .func (.func f) #[] (caps.map a.eval)) hr.bp ?_ ?_⟩
 .simp[execOp,c,Instr.makeFunc,Sem.run_bind]
 .simp only[aj];exact⟨f,_,rfl,hn,by simpa using hx⟩
theorem I4 {X:Ctx} {μ:Mu} {a:Go.Act} (σ:St): ∀ (xs:List Operand),ag X μ ((xs.map fun _=>ba.const .any).map (bE σ)) (xs.map a.eval)
 | []=>by simp[ag]
 | x::xs=>by simp only[List.map_cons,ag];exact⟨by simp[bE,aj],I4 σ xs⟩
theorem Gx {f:FuncId} {first caps:Array Operand} {n:Nat} {cs:List ba} {k:Bool} (hr:Rel X T a μ) (c:o.op= .makeFunc (.func f) first caps) (Am:caps.isEmpty=true)
  (hn:X.gA f=some n) (ht: (if k=true then some (first.toList.map fun _=>ba.const .any) else pO X first.toList)=some cs) (b: (aQ E (.vX n cs)).run C ⟨T,μ.O⟩=some (v,σ')):σ'.T=T/\dg X o a μ σ'.O v:=by
 simp only[aQ,qB] at b;obtain⟨rfl,rfl⟩:=bn b;have hx:ag X μ (cs.map (bE ⟨T,μ.O⟩)) (first.toList.map a.eval):=by
  split at ht
  .injection ht with ht;subst ht;exact I4 _ _
  .exact pP hr μ.O ht
 obtain rfl:caps= #[]:=by simpa using Am
 refine⟨rfl,aU (val:= .func (.func f) (first.map a.eval) #[]) hr.bp ?_ ?_⟩
 .simp[execOp,c,Instr.makeFunc,Sem.run_bind]
 .simp only[aj];exact⟨f,_,rfl,hn,by simpa using hx⟩
end
end Go.AM
namespace Go.AM
open Go Go.RowKit
theorem tC {X:Ctx} {t:TypeId} {g:Bool} (hg:iz X t=some g) (w:World): (isAgg t).run X.P w= .ok g w:=by simp only[iz,bP,ajr] at hg;obtain⟨d,a,hg⟩:=hg;simp only[isAgg,Sem.run_bind,run_underlying a,Result.andThen_ok];subst hg;cases d<;>rfl
theorem fJ {X:Ctx} {t:TypeId} {sz:Nat} (hn:bU X t=some sz) (w:World): (sizeOf t).run X.P w= .ok sz w:=by
 obtain⟨a,b,IX⟩: ∃a,X.P.info? t=some a/\a.size=sz:=by simpa [bU,info] using hn
 have bM:X.P.cellsOf t=sz:=by simp[Program.cellsOf,b,IX]
 rw[run_sizeOf (w:=w) b,bM]
theorem xf {X:Ctx} {t:TypeId} {sz:Nat} (hg:iz X t=some true) (hn:bU X t=some sz) (cs:Array Value) (off:Nat) (w:World):
  (Go.part t cs off).run X.P w= .ok (.agg (cs.extract off (off+sz))) w:=by
 simp[Go.part,Sem.run_bind,tC hg,fJ hn]
theorem gQ {X:Ctx} {t:TypeId} (hg:iz X t=some false) (cs:Array Value) (off:Nat) (c:Value) (hc:cs[off]? =some c) (w:World):
  (Go.part t cs off).run X.P w= .ok c w:=by
 simp[Go.part,Sem.run_bind,tC hg,hc]
theorem vu: ∀ (ks:List Nat) {a:List Nat} {cs e:List V} {b:Bool},df (ks++a) cs e=some b->
   ∃b1 f,df ks (cs.take ks.length) (e.take ks.length)=some b1/\df a (cs.drop ks.length) (e.drop ks.length)=some f/\b=(b1 &&f)
 | [],a,cs,e,b,h=> ⟨true,b,by simp[df],by simpa using h,ajl⟩
 | k::ks,a,[],_,b,h=>by simp[df] at h
 | k::ks,a,_::_,[],b,h=>by simp[df] at h
 | k::ks,a,c::cs,d::e,b,h=>by
   simp only[ajK,df] at h;split at h
   .rename_i x y hx hy;injection h with h;subst h;obtain⟨b1,f,h1,h2,h3⟩:=vu ks hy;refine⟨x &&b1,f,?_,by simpa using h2,by rw[h3,Bool.and_assoc]⟩;simp[df,hx,h1]
   simp at h
theorem r9: ∀ {ks:List Nat} {cs a:List V} {b:Bool},df ks cs a=some b->cs.length=ks.length/\a.length=ks.length
 | [],[],[],_,_=> ⟨rfl,rfl⟩
 | [],[],_::_,_,h=>by simp[df] at h
 | [],_::_,_,_,h=>by simp[df] at h
 | _::_,[],_,_,h=>by simp[df] at h
 | _::_,_::_,[],_,h=>by simp[df] at h
 | k::ks,c::cs,d::a,b,h=>by
   simp only[df] at h;split at h
   .rename_i x y hx hy;obtain⟨h1,h2⟩:=r9 hy;simp[h1,h2]
   simp at h
theorem Xr {X:Ctx} {μ:Mu} {t:TypeId} {m k:Nat} {c e:V} {x y:Value} {b:Bool} {D:TypeDesc} (hd:bP X t=some D)
  (a: (k=0/\D= .bool)\/(k=1/\ ∃q,D= .int q)\/(k=2/\D= .string))
  (hc:aj X μ c x) (he:aj X μ e y) (hb:JK k c e=some b) (w:World): (Op.equalIn (m+1) t x y).run X.P w= .ok b w:=by
 unfold JK at hb;split at hb
 .injection hb with hb;subst hb;simp only[aj] at hc he;subst hc;subst he;rcases a with⟨_,rfl⟩ | ⟨h,_⟩ | ⟨h,_⟩
  .exact run_equalIn_bool' w m t _ _ hd
  .cases h
  cases h
 .split at hb
  .injection hb with hb;subst hb;simp only[aj] at hc he;subst hc;subst he;rename_i d;subst d;rcases a with⟨h,_⟩ | ⟨_,q,rfl⟩ | ⟨h,_⟩
   .cases h
   .exact run_equalIn_int w m t _ _ _ _ hd
   cases h
  simp at hb
 .injection hb with hb;subst hb;simp only[aj] at hc he;obtain⟨p,rfl,hp⟩:=hc;obtain⟨q,rfl,f⟩:=he;rcases a with⟨h,_⟩ | ⟨h,_⟩ | ⟨_,rfl⟩
  .cases h
  .cases h
  rw[run_equalIn_string w m t _ _ hd];congr 1
  rw[ByteArray.toList_eq,ByteArray.toList_eq,hp,f];rw[alg];simp
 simp at hb
theorem zt {X:Ctx} {μ:Mu} (w:World) {e:TypeId} {k m:Nat} (hg:iz X e=some false) (h1:X.P.cellsOf e=1)
   (g: ∀c f x y b,aj X μ c x->aj X μ f y->JK k c f=some b->(Op.equalIn m e x y).run X.P w= .ok b w):
   ∀ (n off:Nat) (cs a:List V) (xs ys:List Value) (b:Bool),ag X μ cs xs->ag X μ a ys->df (List.replicate n k) (cs.drop off) (a.drop off)=some b->
     (Op.eqItems m e (X.P.cellsOf e) xs.toArray ys.toArray (List.range' off n)).run X.P w= .ok b w
 | 0,off,cs,a,xs,ys,b,hx,hy,hb=>by
   cases hc:cs.drop off<;>cases he:a.drop off<;>rw[hc,he] at hb<;>simp[df] at hb
   subst hb;simp[Op.eqItems]
 | n+1,off,cs,a,xs,ys,b,hx,hy,hb=>by
   rw[List.replicate_succ] at hb;cases hc:cs.drop off with
   | nil=>rw[hc] at hb;simp[df] at hb
   | cons c h=>
     cases he:a.drop off with
     | nil=>rw[hc,he] at hb;simp[df] at hb
     | cons f d=>
       rw[hc,he] at hb;simp only[df] at hb;split at hb
       .rename_i p q hp i;injection hb with hb;subst hb;have j:cs[off]? =some c:=by have:=congrArg (fun l=>l[0]?) hc;simpa using this
        have gf:a[off]? =some f:=by have:=congrArg (fun l=>l[0]?) he;simpa using this
        obtain⟨x,gx,rx⟩:=hx.get j;obtain⟨y,o,r⟩:=hy.get gf;have s:cs.drop (off+1)=h:=by have:=congrArg (List.drop 1) hc;simpa [akS] using this
        have X2:a.drop (off+1)=d:=by have:=congrArg (List.drop 1) he;simpa [akS] using this
        have rest:=zt w hg h1 g n (off+1) cs a xs ys q hx hy (by rw[s,X2];exact i);have t:xs.toArray[off*X.P.cellsOf e]? =some x:=by rw[h1];simpa using gx
        have u:ys.toArray[off*X.P.cellsOf e]? =some y:=by rw[h1];simpa using o
        rw[List.range'_succ];simp only[Op.eqItems,Sem.run_bind,gQ hg _ _ _ t,gQ hg _ _ _ u,Result.andThen_ok,g c f x y p rx r hp];cases p
        .simp
        simpa using rest
       simp at hb
theorem TP {  X:Ctx} {μ:Mu} (w:World): ∀d:Nat,
   (∀t ks cs i xs ys b m,iA X d t=some ks->d<=m->ag X μ cs xs->ag X μ i ys->df ks cs i=some b->
     bU X t=some ks.length/\((iz X t=some true/\(Op.equalIn m t (.agg xs.toArray) (.agg ys.toArray)).run X.P w= .ok b w)\/
       (iz X t=some false/\ks.length=1/\ ∃x y,xs=[x]/\ys=[y]/\(Op.equalIn m t x y).run X.P w= .ok b w)))/\
   (∀fs off ks cs i xs ys b m,qx X d fs off=some ks->d<=m->ag X μ cs xs->ag X μ i ys->df ks (cs.drop off) (i.drop off)=some b->
     (Op.eqFields m xs.toArray ys.toArray fs).run X.P w= .ok b w):=by
 intro d;induction d with
 | zero=>exact⟨fun _ _ _ _ _ _ _ _ h=>by simp[iA] at h,fun _ _ _ _ _ _ _ _ _ h=>by simp[qx] at h⟩
 | succ d u=>
   refine⟨fun t ks cs i xs ys b m g hm hx hy hb=> ?_,fun fs off ks cs i xs ys b m g hm hx hy hb=> ?_⟩
   . obtain⟨m,rfl⟩: ∃m',m=m'+1:=⟨m - 1,ajk⟩
     have scalar: ∀ (D:TypeDesc) (k:Nat),bP X t=some D->((k=0/\D= .bool)\/(k=1/\ ∃q,D= .int q)\/(k=2/\D= .string))->bU X t=some 1->ks=[k]->
         bU X t=some ks.length/\((iz X t=some true/\(Op.equalIn (m+1) t (.agg xs.toArray) (.agg ys.toArray)).run X.P w= .ok b w)\/
       (iz X t=some false/\ks.length=1/\ ∃x y,xs=[x]/\ys=[y]/\(Op.equalIn (m+1) t x y).run X.P w= .ok b w)):=by
       intro D k hd A hs e;subst e;obtain⟨C,E⟩:=r9 hb;have lx:=hx.length;have F:=hy.length
       match cs,i,xs,ys,C,E,lx,F with
       | [c],[e],[x],[y],_,_,_,_=>
         simp only[ag,and_true] at hx hy;simp only[df,aj9] at hb;have v:JK k c e=some b:=by cases j:JK k c e<;>rw[j] at hb<;>simp at hb;rw[hb]
         refine⟨by simpa using hs,.inr ⟨?_,rfl,x,y,rfl,rfl,Xr hd A hx hy v w⟩⟩;simp only[iz,hd,ajE];rcases A with⟨_,rfl⟩ | ⟨_,q,rfl⟩ | ⟨_,rfl⟩ <;>rfl
     simp only[iA] at g;split at g
     . split at g<;>simp at g
       rename_i hd hs;exact scalar _ 0 hd ajl hs g.symm
     . split at g<;>simp at g
       rename_i hd hs;exact scalar _ 1 hd ajl hs g.symm
     . split at g<;>simp at g
       rename_i hd hs;exact scalar _ 2 hd ajl hs g.symm
     . rename_i fs hd
       split at g
       . rename_i G
         split at g
         . rename_i U z
           split at g
           .rename_i hs;injection g with g;subst g;refine⟨hs,.inl ⟨by simp[iz,hd],?_⟩⟩;have Hy:X.P.fieldsOf t=fs:=by have H:X.P.underlying t=some (.struct fs):=hd;simp[Program.fieldsOf,H]
            rw[run_equalIn_struct w m t _ _ (by rw[Hy];exact hd) G,Hy];exact u.2 _ 0 _ cs i xs ys b m z ajk hx hy (by simpa using hb)
           simp at g
         simp at g
       simp at g
     . rename_i n e hd
       split at g
       . rename_i r
         obtain⟨r,bM⟩:=r;split at g
         . rename_i k o
           injection g with g;subst g;refine⟨by rw[ak3];exact bM,.inl ⟨by simp[iz,hd],?_⟩⟩;have I:bU X e=some 1:=by
            cases d with
            | zero=>simp[iA] at o
            | succ d=>
              simp only[iA] at o;split at o<;> (try (split at o<;>simp at o<;>assumption)) <;> (try (rename_i Qe;simp[iz,Qe] at r)) <;>simp at o
           obtain⟨p,B,IX⟩: ∃p,X.P.info? e=some p/\p.size=1:=by simpa [bU,info] using I
           have J:X.P.cellsOf e=1:=by simp[Program.cellsOf,B,IX]
           rw[run_equalIn_array w m _ _ hd B,akP];refine zt w r J (fun c f x y b' rx K v=> ?_) n 0 cs i xs ys b hx hy (by simpa using hb);obtain⟨_,j⟩:=u.1 e [k] [c] [f] [x] [y] b' m o ajk (by simp only[ag,and_true];exact rx) (by simp only[ag,and_true];exact K) (by simp[df,v]);rcases j with⟨j,_⟩ | ⟨_,_,x',y',ud,G1,j⟩
           .rw[r] at j;cases j
           obtain rfl:x=x':=by simpa using ud
           obtain rfl:y=y':=by simpa using G1
           exact j
         simp at g
       simp at g
     simp at g
   obtain⟨m,rfl⟩: ∃m',m=m'+1:=⟨m - 1,ajk⟩;cases fs with
   | nil=>
     simp only[qx,ajq] at g;subst g;cases hc:cs.drop off<;>cases he:i.drop off<;>rw[hc,he] at hb<;>simp[df] at hb
     subst hb;simp[Op.eqFields]
   | cons f fs=>
     simp only[qx] at g;split at g
     . rename_i hn
       split at g
       . rename_i s Al
         split at g
         .rename_i L JR;injection g with g;subst g;obtain⟨b1,M,N,O,Q⟩:=vu s hb;obtain⟨hs,ha⟩:=u.1 f.type s _ _ _ _ b1 (m+1) Al ajk (ag.take s.length (ag.drop off hx)) (ag.take s.length (ag.drop off hy)) N;have R:=u.2 fs (off+s.length) L cs i xs ys M (m+1) JR ajk hx hy (by simpa [akS] using O);have Lu:=hn.2;have head: (do let a <-Go.part f.type xs.toArray f.offset;let c <-Go.part f.type ys.toArray f.offset;Op.equalIn (m+1) f.type a c:Sem Bool).run X.P w= .ok b1 w:=by
            rcases ha with⟨hg,j⟩ | ⟨hg,h1,x,y,Qj,hy1,j⟩
            . simp only[Sem.run_bind,xf hg hs,Result.andThen_ok,Lu]
              rw[<-j];congr 3 <;> (apply Array.ext';simp[ak9,akK])
            have gx:xs.toArray[f.offset]? =some x:=by have:=congrArg (fun l=>l[0]?) Qj;simpa [ajW,h1,Lu] using this
            have S:ys.toArray[f.offset]? =some y:=by have:=congrArg (fun l=>l[0]?) hy1;simpa [ajW,h1,Lu] using this
            simp only[Sem.run_bind,gQ hg _ _ _ gx,gQ hg _ _ _ S,Result.andThen_ok];exact j
          simp only[Op.eqFields,Sem.run_ite,if_pos hn.1];simp only[Sem.run_bind] at head ⊢;generalize (Go.part f.type xs.toArray f.offset).run X.P w=r1 at head ⊢;cases r1 with
          | halt _ _=>simp[Result.andThen] at head
          | ok a1 T=>
            simp only[Result.andThen_ok] at head ⊢;generalize (Go.part f.type ys.toArray f.offset).run X.P T=r2 at head ⊢;cases r2 with
            | halt _ _=>simp[Result.andThen] at head
            | ok V W=>
              simp only[Result.andThen_ok] at head ⊢;rw[head];simp only[Result.andThen_ok,Sem.run_ite];subst Q;cases b1
              .simp
              simpa using R
         simp at g
       simp at g
     simp at g
end Go.AM
namespace Go.AM
open Go Go.RowKit
theorem TQ {X:Ctx} {μ:Mu} {T:Nat->V} {a:Go.Act} {x:Option Operand} {y:Option ba} (hr:Rel X T a μ) (h:Dl X x=some y) (O:Nat->Obj):
   (x=none/\y=none)\/ ∃x' b,x=some x'/\y=some b/\aj X μ (bE ⟨T,O⟩ b) (a.eval x'):=by
 cases x with
 | none=>simp[Dl] at h;exact .inl ⟨rfl,h.symm⟩
 | some x=>
   simp only[Dl,ajr] at h;obtain⟨c,h1,rfl⟩:=h;exact .inr ⟨x,c,rfl,rfl,aX hr h1 O⟩
section
variable {X:Ctx} {E:Env} {C:bB} {o:Oper} {a:Go.Act} {T:Nat->V} {μ:Mu} {v:V} {σ':St}
theorem TR {op:BinOp} {t:TypeId} {x y:V} {xv d:Value} {u:V} (hx:aj X μ x xv) (hy:aj X μ y d) (h:uM op x y=some u) (p q:Operand):
  ∃val,(do eqGuard op t p q xv d;Go.binOp op t xv d:Sem Value).run X.P μ.w= .ok val μ.w/\aj X μ u val:=by
 unfold uM at h;split at h
 .rename_i k n e b;simp only[aj] at hx hy;subst hx;subst hy;have hg: (eqGuard op t p q (.int k n) (.int e b)).run X.P μ.w= .ok () μ.w:=by cases op<;>simp[eqGuard]
  simp only[Sem.run_bind,hg,Result.andThen_ok];cases op with
  | shl=>
    simp only at h;split at h<;>simp at h
    subst h;rename_i hb;exact⟨.int k (k.wrap (n*2 ^ min b.toNat k.bits)),by simp[Go.binOp,Op.shift,hb],by simp[aj]⟩
  | shr=>
    simp only at h;split at h<;>simp at h
    subst h;rename_i hb;exact⟨.int k (n.fdiv (2 ^ min b.toNat k.bits)),by simp[Go.binOp,Op.shift,hb],by simp[aj]⟩
  | quo=>
    simp only at h;split at h
    .rename_i c;subst c;split at h<;>simp at h
     subst h;rename_i hb;exact⟨.int k (k.wrap (n.tdiv b)),by simp[Go.binOp,Op.intDiv,hb],by simp[aj]⟩
    simp at h
  | rem=>
    simp only at h;split at h
    .rename_i c;subst c;split at h<;>simp at h
     subst h;rename_i hb;exact⟨.int k (n.tmod b),by simp[Go.binOp,Op.intDiv,hb],by simp[aj]⟩
    simp at h
  | _=>
    simp only at h;split at h
    .rename_i c;subst c;simp only[nV,J5,ajq] at h;subst h;exact⟨_,by simp[Go.binOp,Op.intArith,Op.intBits,Op.intCmp];rfl,by simp[aj]⟩
    simp at h
 .rename_i s g;simp only[aj] at hx hy;obtain⟨a,rfl,rfl⟩:=hx;obtain⟨cs,rfl,rfl⟩:=hy;have hg: (eqGuard op t p q (.string a) (.string cs)).run X.P μ.w= .ok () μ.w:=by cases op<;>simp[eqGuard]
  simp only[Sem.run_bind,hg,Result.andThen_ok];have he: (a.toList==cs.toList)=decide (a.data.toList=cs.data.toList):=by rw[ByteArray.toList_eq,ByteArray.toList_eq,alg];simp
  cases op with
  | add=>
    simp only at h;split at h<;>simp at h
    subst h;rename_i hl;have f: ¬ ((a.size+cs.size:Nat):Int) >IntKind.i64.max:=by
     have hm:IntKind.i64.max=9223372036854775807:=ajm;have h1:a.data.toList.length=a.size:=by rw[ajI];rfl
     have h2:cs.data.toList.length=cs.size:=by rw[ajI];rfl
     rw[hm];rw[h1,h2] at hl;omega
    refine⟨.string (a++cs),by simp only[Go.binOp,Op.stringOp];rw[if_neg f];rfl,?_⟩;simp[aj,ByteArray.data_append]
  | _=>
    simp only[ajq,reduceCtorEq] at h
    try (subst h;refine⟨_,by simp only[Go.binOp,Op.stringOp];rfl,?_⟩;simp only[aj,he] <;>simp only[ByteArray.toList_eq])
 simp at h
theorem Lv {op:BinOp} {t t2:TypeId} {x y:Operand} {x' b:ba} (hr:Rel X T a μ) (d:o.op= .binOp op t x y t2) (h1:dy X x=some x') (h2:dy X y=some b)
  (c: (aQ E (.bin op x' b)).run C ⟨T,μ.O⟩=some (v,σ')):σ'.T=T/\dg X o a μ σ'.O v:=by
 simp only[aQ,bF] at c;obtain⟨hb,rfl⟩:=gI c;obtain⟨val,hv,e⟩:=TR (t:=t) (aX hr h1 μ.O) (aX hr h2 μ.O) hb x y;refine⟨rfl,aU hr.bp ?_ e⟩;simp only[execOp,d];exact dQ hv
theorem TS {op:BinOp} {t t2:TypeId} {x y:Operand} {x' j:ba} {ks:List Nat} (hr:Rel X T a μ) (k:o.op= .binOp op t x y t2) (l:op= .eql\/op= .neq)
  (hg:X.P.eqGuardType X.P.depth t=false) (m:iA X 100 t=some ks) (e:iz X t=some true)
  (h1:dy X x=some x') (h2:dy X y=some j) {neg:Bool} (hn:neg=zr op)
  (c: (aQ E (.eqA neg ks x' j)).run C ⟨T,μ.O⟩=some (v,σ')):σ'.T=T/\dg X o a μ σ'.O v:=by
 simp only[aQ,bF] at c;have hx:=aX hr h1 μ.O;have hy:=aX hr h2 μ.O;split at c
 .rename_i p q n r;split at c
  .rename_i b hb;obtain⟨rfl,rfl⟩:=bn c;rw[n] at hx;rw[r] at hy;simp only[aj] at hx hy;obtain⟨_,xs,Mf,f⟩:=hx;obtain⟨_,g,h,i⟩:=hy;refine⟨rfl,aU (val:= .bool (b !=neg)) hr.bp ?_ (by simp[aj])⟩;simp only[execOp,k];refine dQ ?_;obtain⟨_,hh⟩:=(TP (X:=X) (μ:=μ) μ.w 100).1 t ks p q _ _ b 10000 m ajk f i hb;rcases hh with⟨_,hh⟩ | ⟨hh,_⟩
   .have d: (Op.equal t (.agg xs) (.agg g)).run X.P μ.w= .ok b μ.w:=by simpa [Op.equal,Op.maxDepth] using hh
    have KS: (eqGuard op t x y (.agg xs) (.agg g)).run X.P μ.w= .ok () μ.w:=run_eqGuard_agg μ.w op t x y xs g hg;rw[Mf,h];rcases l with rfl| rfl
    .subst hn;simp only[Sem.run_bind,KS,Result.andThen_ok,Go.binOp,d,zr];simp
    subst hn;simp only[Sem.run_bind,KS,Result.andThen_ok,Go.binOp,d,zr];simp
   rw[e] at hh;cases hh
  exact absurd c aq
 exact absurd c aq
theorem nE {P:Program} {w:World} (d:Nat) {t e:TypeId} (q:Option Addr) (hi:P.underlying t=some (.pointer e)):
  (Op.equalIn (d+1) t (.pointer none) (.pointer q)).run P w= .ok q.isNone w:=by
 simp[Op.equalIn,run_underlying hi]
theorem sg {P:Program} {w:World} (d:Nat) {t e:TypeId} (p:Addr) (hi:P.underlying t=some (.pointer e)):
  (Op.equalIn (d+1) t (.pointer (some p)) (.pointer none)).run P w= .ok false w:=by
 simp[Op.equalIn,run_underlying hi]
theorem Cm {P:Program} {w:World} (d:Nat) {t e:TypeId} {c:TypeInfo} {n:Nat} {b o a:Nat} (hi:P.underlying t=some (.pointer e)) (g:P.info? e=some c) (f:P.cellsOf e=n+1):
  (Op.equalIn (d+1) t (.pointer (some ⟨b,o,none⟩)) (.pointer (some ⟨b,a,none⟩))).run P w= .ok (o==a) w:=by
 have h: ((⟨b,o,none⟩:Addr)==⟨b,a,none⟩)=(o==a):=by rw[alg];simp only[beq_iff_eq,Addr.mk.injEq,true_and,and_true]
 simp[Op.equalIn,run_underlying hi,Sem.run_bind,run_sizeOf (w:=w) g,f,sameAddr,h]
theorem aap {op:BinOp} {t e t2:TypeId} {n:Nat} {x y:Operand} {x' r:ba} (hr:Rel X T a μ) (A:o.op= .binOp op t x y t2) (B:op= .eql\/op= .neq) (hd:bP X t=some (.pointer e)) (bM:bU X e=some (n+1))
  (h1:dy X x=some x') (h2:dy X y=some r) {neg:Bool} (hn:neg=zr op)
  (s: (aQ E (.YO neg x' r)).run C ⟨T,μ.O⟩=some (v,σ')):σ'.T=T/\dg X o a μ σ'.O v:=by
 simp only[aQ,bF] at s;have hx:=aX hr h1 μ.O;have hy:=aX hr h2 μ.O;obtain⟨hb,rfl⟩:=gI s;rw[ajr] at hb;obtain⟨b,hb,rfl⟩:=hb;have g:X.P.underlying t=some (.pointer e):=hd;obtain⟨f,u,IX⟩: ∃f,X.P.info? e=some f/\f.size=n+1:=by simpa [bU,info] using bM
 have j:X.P.cellsOf e=n+1:=by simp[Program.cellsOf,u,IX]
 have key: ∃p q,a.eval x= .pointer p/\a.eval y= .pointer q/\(Op.equal t (.pointer p) (.pointer q)).run X.P μ.w= .ok b μ.w:=by
  unfold Mm at hb;split at hb
  .rename_i c d;rw[c] at hx;rw[d] at hy;simp only[aj] at hx hy;simp only[ajq] at hb;subst hb;exact⟨_,_,hx,hy,nE 9999 none g⟩
  .rename_i c d;rw[c] at hx;rw[d] at hy;simp only[aj] at hx hy;simp only[ajq] at hb;subst hb;obtain⟨_,_,_,_,_,_,hy,_⟩:=hy;exact⟨_,_,hx,hy,nE 9999 _ g⟩
  .rename_i c d;rw[c] at hx;rw[d] at hy;simp only[aj] at hx hy;simp only[ajq] at hb;subst hb;obtain⟨_,_,_,hy,_⟩:=hy;exact⟨_,_,hx,hy,nE 9999 _ g⟩
  .rename_i c d;rw[c] at hx;rw[d] at hy;simp only[aj] at hx hy;simp only[ajq] at hb;subst hb;obtain⟨_,_,_,_,_,_,hx,_⟩:=hx;exact⟨_,_,hx,hy,sg 9999 _ g⟩
  .rename_i c d;rw[c] at hx;rw[d] at hy;simp only[aj] at hx hy;simp only[ajq] at hb;subst hb;obtain⟨_,_,_,hx,_⟩:=hx;exact⟨_,_,hx,hy,sg 9999 _ g⟩
  .rename_i i z e0 k z' D c d;rw[c] at hx;rw[d] at hy;simp only[aj] at hx hy;split at hb<;>simp only[ajq,reduceCtorEq] at hb
   rename_i F;obtain⟨rfl,Xs⟩:=F;subst hb;obtain⟨_,_,_,hx,_⟩:=hx;obtain⟨_,_,_,hy,_⟩:=hy;refine⟨_,_,hx,hy,?_⟩;have l: (X.tok.2+i*z+0==X.tok.2+k*z+0)=(i==k):=by
    rw[alg];simp only[beq_iff_eq];constructor
    .intro h;have:i*z=k*z:=ajk;exact Nat.eq_of_mul_eq_mul_right Xs this
    rintro rfl;rfl
   exact(Cm 9999 g u j).trans (by rw[l])
  simp at hb
 obtain⟨p,q,hp,l,m⟩:=key;refine⟨rfl,aU (val:= .bool (b !=neg)) hr.bp ?_ (by simp[aj])⟩;simp only[execOp,A,hp,l];refine dQ ?_;subst hn;rcases B with rfl| rfl<;>simp[eqGuard,Go.binOp,Sem.run_bind,m,zr]
theorem aep {op:UnOp} {t:TypeId} {x:Operand} {x':ba} (hr:Rel X T a μ) (d:o.op= .unOp op t x) (h1:dy X x=some x')
  (c: (aQ E (.un op x')).run C ⟨T,μ.O⟩=some (v,σ')):σ'.T=T/\dg X o a μ σ'.O v:=by
 simp only[aQ,bF] at c;obtain⟨hb,rfl⟩:=gI c;have hx:=aX hr h1 μ.O;have: ∃val,(Op.unary op (a.eval x)).run X.P μ.w= .ok val μ.w/\aj X μ v val:=by
  unfold unV at hb;split at hb
  .rename_i k n e;simp at hb;subst hb;rw[e] at hx;simp only[aj] at hx;exact⟨.int k (k.wrap (0 - n)),by simp[hx,Op.unary,Op.intArith],by simp[aj]⟩
  .rename_i b e;simp at hb;subst hb;rw[e] at hx;simp only[aj] at hx;exact⟨.bool (!b),by simp[hx,Op.unary],by simp[aj]⟩
  .rename_i k n e;simp only[nV,ajq] at hb;subst hb;rw[e] at hx;simp only[aj] at hx;exact⟨_,by simp[hx,Op.unary,Op.intBits];rfl,by simp[aj]⟩
  simp at hb
 obtain⟨val,h2,h3⟩:=this;refine⟨rfl,aU hr.bp ?_ h3⟩;simp only[execOp,d];exact dQ h2
theorem Lw {s d:TypeId} {x:Operand} {x':ba} {k c:IntKind} (hr:Rel X T a μ) (f:o.op= .convert s d x) (hs:bP X s=some (.int c)) (hd:bP X d=some (.int k))
  (h1:dy X x=some x') (b: (aQ E (.vS k x')).run C ⟨T,μ.O⟩=some (v,σ')):σ'.T=T/\dg X o a μ σ'.O v:=by
 simp only[aQ,bF] at b;have hx:=aX hr h1 μ.O;split at b
 .rename_i h g e;obtain⟨rfl,rfl⟩:=bn b;rw[e] at hx;simp only[aj] at hx;refine⟨rfl,aU (val:= .int k (k.wrap g)) hr.bp ?_ (by simp[aj])⟩;simp only[execOp,f];refine dQ ?_;simp[convert,Sem.run_bind,run_underlying hs,run_underlying hd,hx,Conv.intToInt]
 exact absurd b aq
theorem Po {s d:TypeId} {x:Operand} {x':ba} {c:IntKind} (hr:Rel X T a μ) (f:o.op= .convert s d x) (hs:bP X s=some (.int c)) (hd:bP X d=some (.float .f64))
  (h1:dy X x=some x') (b: (aQ E (.A0 x')).run C ⟨T,μ.O⟩=some (v,σ')):σ'.T=T/\dg X o a μ σ'.O v:=by
 simp only[aQ,bF] at b;have hx:=aX hr h1 μ.O;split at b
 .rename_i h g e;obtain⟨rfl,rfl⟩:=bn b;rw[e] at hx;simp only[aj] at hx;refine⟨rfl,aU (val:= .float .f64 (FloatKind.f64.nearest g)) hr.bp ?_ (by simp[aj])⟩;simp only[execOp,f];refine dQ ?_;simp[convert,Sem.run_bind,run_underlying hs,run_underlying hd,hx,Conv.intToFloat]
 exact absurd b aq
theorem Pp {s d:TypeId} {x:Operand} {x':ba} {k:IntKind} (hr:Rel X T a μ) (g:o.op= .convert s d x) (hs:bP X s=some (.float .f64)) (hd:bP X d=some (.int k))
  (h1:dy X x=some x') (c: (aQ E (.A3 k x')).run C ⟨T,μ.O⟩=some (v,σ')):σ'.T=T/\dg X o a μ σ'.O v:=by
 simp only[aQ,bF] at c;have hx:=aX hr h1 μ.O;split at c
 .rename_i b e;split at c
  .rename_i n hn;split at c
   .rename_i f;obtain⟨rfl,rfl⟩:=bn c;rw[e] at hx;simp only[aj] at hx;refine⟨rfl,aU (val:= .int k n) hr.bp ?_ (by simp[aj])⟩;simp only[execOp,g];refine dQ ?_;simp[convert,Sem.run_bind,run_underlying hs,run_underlying hd,hx,Conv.floatToInt,hn,f]
   exact absurd c aq
  exact absurd c aq
 exact absurd c aq
theorem iE {c:Call} {b:Builtin} {val:Value} {w w':World} (d:o.op= .call c) (hc:c.callee= .builtin b)
  (h: (builtin b c.argTypes o.type (c.args.map fun| .const _=>true| _=>false) (c.args.map a.eval)).run X.P w= .ok (.value val) w'):
  (execOp a.eval o).run X.P w= .ok (.value val) w':=by
 simp only[execOp,d,resolve,hc,Sem.run_bind,Sem.run_pure,Result.andThen_ok,invoke];exact h
theorem aaq {c:Call} {x:Operand} {t e:TypeId} {x':ba} (hr:Rel X T a μ) (d:o.op= .call c) (hc:c.callee= .builtin .len) (ha:c.args= #[x]) (ht:c.argTypes= #[t])
  (hd:bP X t=some (.slice e)) (h1:dy X x=some x') (b: (aQ E (.len x')).run C ⟨T,μ.O⟩=some (v,σ')):
  σ'.T=T/\dg X o a μ σ'.O v:=by
 simp only[aQ,bF] at b;obtain⟨hb,rfl⟩:=gI b;have hx:=aX hr h1 μ.O;have key: ∃n:Nat,(Builtin.len_ #[t] o.type #[a.eval x]).run X.P μ.w= .ok (goInt n) μ.w/\v= .int .i64 n:=by
  cases hy:bE ⟨T,μ.O⟩ x'<;>rw[hy] at hb hx<;>simp[Vp] at hb
  .simp only[aj] at hx;obtain⟨p,hp⟩:=hx;exact⟨0,by simp[Builtin.len_,Sem.run_bind,run_underlying hd,hp],hb.symm⟩
  .simp only[aj] at hx;obtain⟨_,_,p,cap,vs,hp,_⟩:=hx;exact⟨_,by simp[Builtin.len_,Sem.run_bind,run_underlying hd,hp],hb.symm⟩
  .simp only[aj] at hx;obtain⟨p,cap,hp,_⟩:=hx;exact⟨_,by simp[Builtin.len_,Sem.run_bind,run_underlying hd,hp],hb.symm⟩
  simp only[aj] at hx;obtain⟨_,_,p,cap,vs,hp,_⟩:=hx;exact⟨_,by simp[Builtin.len_,Sem.run_bind,run_underlying hd,hp],hb.symm⟩
 obtain⟨n,h2,rfl⟩:=key;refine⟨rfl,aU (val:=goInt n) hr.bp ?_ (by simp[aj,goInt])⟩;refine iE d hc ?_;simp only[builtin,ha,ht];refine dQ ?_;simpa using h2
theorem Pq {c:Call} {x:Operand} {t:TypeId} {x':ba} (hr:Rel X T a μ) (d:o.op= .call c) (hc:c.callee= .builtin .len) (ha:c.args= #[x]) (ht:c.argTypes= #[t])
  (hd:bP X t=some .string) (h1:dy X x=some x') (b: (aQ E (.A5 x')).run C ⟨T,μ.O⟩=some (v,σ')):
  σ'.T=T/\dg X o a μ σ'.O v:=by
 simp only[aQ,bF] at b;have hx:=aX hr h1 μ.O;split at b
 .rename_i s e;obtain⟨rfl,rfl⟩:=bn b;rw[e] at hx;simp only[aj] at hx;obtain⟨f,Xt,rfl⟩:=hx;refine⟨rfl,aU (val:=goInt f.size) hr.bp ?_ (by simp only[aj,goInt];rw[ajI];rfl)⟩;refine iE d hc ?_;simp only[builtin,ha,ht];refine dQ ?_;simp[Builtin.len_,Sem.run_bind,run_underlying hd,Xt]
 exact absurd b aq
theorem Pr {c:Call} {x:Operand} {t e:TypeId} {n:Nat} (hr:Rel X T a μ) (d:o.op= .call c) (hc:c.callee= .builtin .len) (ha:c.args= #[x]) (ht:c.argTypes= #[t])
  (hd:bP X t=some (.array n e)) (b: (aQ E (.move (.const (.int .i64 n)))).run C ⟨T,μ.O⟩=some (v,σ')):
  σ'.T=T/\dg X o a μ σ'.O v:=by
 simp only[aQ,bF,bE] at b;obtain⟨rfl,rfl⟩:=bn b;refine⟨rfl,aU (val:=goInt n) hr.bp ?_ (by simp[aj,goInt])⟩;refine iE d hc ?_;simp only[builtin,ha,ht];refine dQ ?_;simp[Builtin.len_,Sem.run_bind,run_underlying hd]
theorem EK {w:World}: ∀ {xs:List V} {x:V} {u:V} {xv:Value} {vs:List Value},aj X μ x xv->ag X μ xs vs->qJ min2 (x::xs)=some u->
   ∃val,(vs.foldlM Builtin.min2 xv).run X.P w= .ok val w/\aj X μ u val
 | [],x,u,xv,[],hx,_,h=>by simp[qJ,ru] at h;subst h;exact⟨xv,ajl,hx⟩
 | [],_,_,_,_::_,_,hv,_=>by simp[ag] at hv
 | _::_,_,_,_,[],_,hv,_=>by simp[ag] at hv
 | y::e,x,u,xv,c::vs,hx,hv,h=>by
   simp only[ag] at hv;simp only[qJ,ru] at h;split at h
   .rename_i z a;have: ∃b,(Builtin.min2 xv c).run X.P w= .ok b w/\aj X μ z b:=by
     unfold min2 at a;split at a
     .split at a<;>simp at a
      rename_i d;subst d;subst a;have h1:=hv.1;simp only[aj] at hx h1;subst hx;subst h1;exact⟨_,by simp[Builtin.min2];rfl,by simp[aj]⟩
     simp at a
    obtain⟨b,h1,h2⟩:=this;obtain⟨val,h3,h4⟩:=EK (w:=w) h2 hv.2 h;exact⟨val,by simp[List.foldlM_cons,Sem.run_bind,h1,h3],h4⟩
   simp at h
theorem EL {w:World}: ∀ {xs:List V} {x:V} {u:V} {xv:Value} {vs:List Value},aj X μ x xv->ag X μ xs vs->qJ max2 (x::xs)=some u->
   ∃val,(vs.foldlM Builtin.max2 xv).run X.P w= .ok val w/\aj X μ u val
 | [],x,u,xv,[],hx,_,h=>by simp[qJ,ru] at h;subst h;exact⟨xv,ajl,hx⟩
 | [],_,_,_,_::_,_,hv,_=>by simp[ag] at hv
 | _::_,_,_,_,[],_,hv,_=>by simp[ag] at hv
 | y::e,x,u,xv,c::vs,hx,hv,h=>by
   simp only[ag] at hv;simp only[qJ,ru] at h;split at h
   .rename_i z a;have: ∃b,(Builtin.max2 xv c).run X.P w= .ok b w/\aj X μ z b:=by
     unfold max2 at a;split at a
     .split at a<;>simp at a
      rename_i d;subst d;subst a;have h1:=hv.1;simp only[aj] at hx h1;subst hx;subst h1;exact⟨_,by simp[Builtin.max2];rfl,by simp[aj]⟩
     simp at a
    obtain⟨b,h1,h2⟩:=this;obtain⟨val,h3,h4⟩:=EL (w:=w) h2 hv.2 h;exact⟨val,by simp[List.foldlM_cons,Sem.run_bind,h1,h3],h4⟩
   simp at h
theorem aar {c:Call} {xs:List ba} (hr:Rel X T a μ) (e:o.op= .call c) (hc:c.callee= .builtin .min) (h1:pO X c.args.toList=some xs)
   (d: (aQ E (.min xs)).run C ⟨T,μ.O⟩=some (v,σ')):σ'.T=T/\dg X o a μ σ'.O v:=by
 simp only[aQ,qB] at d;obtain⟨hb,rfl⟩:=gI d;have hx:=pP hr μ.O h1;generalize f:xs.map (bE ⟨T,μ.O⟩)=b at hb hx;generalize hp:c.args.toList.map a.eval=vs at hx
 match b,vs,hx,hb with
 | [],_,_,hb=>simp[qJ,ru] at hb
 | u::b,[],hx,_=>simp[ag] at hx
 | u::b,y::vs,hx,hb=>
   simp only[ag] at hx;obtain⟨val,h2,h3⟩:=EK (w:=μ.w) hx.1 hx.2 hb;refine⟨rfl,aU (val:=val) hr.bp (iE e hc ?_) h3⟩;simp only[builtin];refine dQ ?_;simp only[Builtin.min_,alD,hp];exact h2
theorem aas {c:Call} {xs:List ba} (hr:Rel X T a μ) (e:o.op= .call c) (hc:c.callee= .builtin .max) (h1:pO X c.args.toList=some xs)
   (d: (aQ E (.max xs)).run C ⟨T,μ.O⟩=some (v,σ')):σ'.T=T/\dg X o a μ σ'.O v:=by
 simp only[aQ,qB] at d;obtain⟨hb,rfl⟩:=gI d;have hx:=pP hr μ.O h1;generalize f:xs.map (bE ⟨T,μ.O⟩)=b at hb hx;generalize hp:c.args.toList.map a.eval=vs at hx
 match b,vs,hx,hb with
 | [],_,_,hb=>simp[qJ,ru] at hb
 | u::b,[],hx,_=>simp[ag] at hx
 | u::b,y::vs,hx,hb=>
   simp only[ag] at hx;obtain⟨val,h2,h3⟩:=EL (w:=μ.w) hx.1 hx.2 hb;refine⟨rfl,aU (val:=val) hr.bp (iE e hc ?_) h3⟩;simp only[builtin];refine dQ ?_;simp only[Builtin.max_,alD,hp];exact h2
end
end Go.AM
namespace Go.AM
open Go Go.RowKit
theorem iF (b q n:Nat): (⟨b,q,none⟩:Addr).add n=⟨b,q+n,none⟩:=by unfold Addr.add;split<;>simp_all
theorem sh: ∀ {xs:List V} {i:Nat} {x:V},V.al xs=true->xs[i]? =some x->V.az x=true
 | [],_,_,_,h=>by simp at h
 | y::a,0,x,hp,h=>by simp[V.al] at hp;simp at h;rw[<-h];exact hp.1
 | y::a,i+1,x,hp,h=>by simp[V.al] at hp;simp at h;exact sh hp.2 h
theorem xg: ∀ {xs:List V} (n:Nat),V.al xs=true->V.al (xs.take n)=true
 | _,0,_=>by simp[V.al]
 | [],n+1,_=>by simp[V.al]
 | y::a,n+1,h=>by simp[V.al] at h ⊢;exact⟨h.1,xg n h.2⟩
theorem xh: ∀ {xs:List V} (n:Nat),V.al xs=true->V.al (xs.drop n)=true
 | _,0,h=>by simpa using h
 | [],n+1,_=>by simp[V.al]
 | y::a,n+1,h=>by simp[V.al] at h;simpa using xh n h.2
theorem mH {p:V->Bool} {xs:List V} (n:Nat) (h:xs.all p=true): (xs.take n).all p=true:=by simp only[ajx] at h ⊢;exact fun x hx=>h x (ajN hx)
theorem pQ {p:V->Bool} {xs:List V} (n:Nat) (h:xs.all p=true): (xs.drop n).all p=true:=by simp only[ajx] at h ⊢;exact fun x hx=>h x (aki hx)
theorem dL.drop {w:World} {b off sz:Nat} {vs:List Value} (h:dL w b off sz vs) (n:Nat):dL w b (off+n*sz) sz (vs.drop n):=by
 intro i v hv;simp only[ak5] at hv;obtain⟨h1,h2⟩:=h (n+i) v hv;refine⟨h1,fun j c hc=> ?_⟩;rw[<-h2 j c hc];congr 2
 rw[aj4];omega
theorem dL.take {w:World} {b off sz:Nat} {vs:List Value} (h:dL w b off sz vs) (n:Nat):dL w b off sz (vs.take n):=by
 intro i v hv;rw[ajW] at hv;split at hv
 .exact h i v hv
 simp at hv
section
variable {X:Ctx} {E:Env} {C:bB} {o:Oper} {a:Go.Act} {T:Nat->V} {μ:Mu} {v:V} {σ':St}
theorem tD {t:TypeId} {e u:V} {x:Value} {off sz:Nat} {agg:Bool} {w:World} {b q:Nat} (hx:aj X μ e x) (hp:part agg off sz e=some u)
   (hg:iz X t=some agg) (hn:bU X t=some sz) (hm: ∀j c,x.cells[j]? =some c->w.cell? ⟨b,q+j,none⟩=some c):
   ∃val,(loadVar t ⟨b,q+off,none⟩).run X.P w= .ok val w/\aj X μ u val:=by
 cases agg with
 | true=>
   obtain⟨cs,rfl,a,hv⟩:=Gv hx hp;refine⟨_,?_,hv⟩;have hl: (cs.extract off (off+sz)).toList.length=sz:=by simp;omega
   have:=run_loadCells_list (P:=X.P) w ⟨b,q+off,none⟩ (cs.extract off (off+sz)).toList (fun j c hc=>by
    rw[iF];have E8:cs[off+j]? =some c:=by
     rw[ak9,akK,ajW] at hc;split at hc
     .simpa using hc
     simp at hc
    have:=hm (off+j) c (by simpa [Value.cells] using E8);rwa [<-aln] at this)
   rw[hl,Array.toArray_toList] at this;simp[loadVar,Sem.run_bind,tC hg,fJ hn,this]
 | false=>
   obtain⟨_,c,hc,hv⟩:=Dn hx hp;refine⟨c,?_,hv⟩;have:=hm off c hc;simp[loadVar,Sem.run_bind,tC hg,this]
theorem I5 (a:bq X μ) {r idx:Nat} {es:List V} {e:V} (bC: (μ.O r).es=some es) (he:es[idx]? =some e) (h0:0 < (μ.O r).sz):
  ∃x,aj X μ e x/\(μ.φ r).cap≠0/\ ∀j c,x.cells[j]? =some c->μ.w.cell? ⟨(μ.φ r).cj,(μ.φ r).base+idx*(μ.O r).sz+j,none⟩=some c:=by
 obtain⟨_,h2,_,h4⟩:=a.row r es bC h0;have d:idx<es.length:=(ajp.1 he).1;have hc: (μ.φ r).cap≠0:=ajk;rcases h4 with h4| ⟨c,T',vs,_,_,hv,b⟩
 .exact absurd h4 hc
 obtain⟨x,hx,hr⟩:=hv.get he;exact⟨x,hr,hc,(b idx x hx).2⟩
theorem Nl {t:TypeId} {x:Operand} {x':ba} {agg:Bool} {sz:Nat} (hr:Rel X T a μ) (n:o.op= .load t x) (h1:dy X x=some x') (hg:iz X t=some agg) (hn:bU X t=some sz)
  (d: (aQ E (.load agg sz x')).run C ⟨T,μ.O⟩=some (v,σ')):σ'.T=T/\dg X o a μ σ'.O v:=by
 simp only[aQ,bF] at d;have hx:=aX hr h1 μ.O;have fin: ∀ (p:Addr),a.eval x= .pointer (some p)-> ∀val,(loadVar t p).run X.P μ.w= .ok val μ.w->(execOp a.eval o).run X.P μ.w= .ok (.value val) μ.w:=fun p hp val hv=>by simp only[execOp,n];refine dQ ?_;simp[Instr.loadAt,Instr.sureAddr,Sem.run_bind,hp,hv]
 split at d
 .rename_i r g idx off e;simp only[Act.run] at d;split at d
  .rename_i es bC;split at d
   .rename_i cT;split at d
    .rename_i el uU;obtain⟨hp,rfl⟩:=gI d;rw[e] at hx;simp only[aj] at hx;obtain⟨p,Yo,_,m⟩:=hx;obtain⟨k,f,_,s⟩:=I5 hr.bp bC uU (m cT).1;obtain⟨val,hl,h⟩:=tD f hp hg hn s;refine⟨rfl,aU hr.bp (fin p Yo val ?_) h⟩;rw[(m cT).2];exact hl
    exact absurd d aq
   exact absurd d aq
  exact absurd d aq
 .rename_i el off e;obtain⟨hp,rfl⟩:=gI d;rw[e] at hx;simp only[aj] at hx;obtain⟨_,_,b,q,sz',k,Yo,_,_,f,l⟩:=hx;obtain⟨val,hl,h⟩:=tD (w:=μ.w) (b:=b) (q:=q) f hp hg hn (fun j c hc=>by simpa using (l 0 k ajl).2 j c hc);exact⟨rfl,aU hr.bp (fin _ Yo val hl) h⟩
 .rename_i i z el off e;obtain⟨hp,rfl⟩:=gI d;rw[e] at hx;simp only[aj] at hx;obtain⟨_,_,k,Yo,_,_,f,l⟩:=hx;obtain⟨val,hl,h⟩:=tD (w:=μ.w) (b:=X.tok.1) (q:=X.tok.2+i*z) f hp hg hn (fun j c hc=>by simpa using (l 0 k ajl).2 j c hc);exact⟨rfl,aU hr.bp (fin _ Yo val hl) h⟩
 exact absurd d aq
theorem Ps {ks:List Nat} {agg:Bool} {sz:Nat} {x:ba} {σ:St} (h: (aQ E (.DK ks agg sz x)).run C σ=some (v,σ')): ∃v0,(aQ E (.load agg sz x)).run C σ=some (v0,σ')/\v=AM.JJ ks v0:=by
 simp only[aQ,bF] at h ⊢;have fin: ∀ (p:Option V),(fi (p.map (AM.JJ ks))).run C σ=some (v,σ')-> ∃v0,(fi p).run C σ=some (v0,σ')/\v=AM.JJ ks v0:=by
  intro p hp;cases p with
  | none=>exact absurd hp aq
  | some v0=>
    obtain⟨h1,h2⟩:=gI hp;simp only[ajE,ajq] at h1;exact⟨v0,by simp only[fi,Act.run,h2],h1.symm⟩
 split at h
 .rename_i r g idx off e;simp only[Act.run] at h ⊢;split at h
  . rename_i es bC
    split at h
    .rename_i hg;split at h
     .rename_i el uU;rw[if_pos hg];exact fin _ h
     exact absurd h aq
    exact absurd h aq
  exact absurd h aq
 .exact fin _ h
 .exact fin _ h
 exact absurd h aq
theorem TU {t:TypeId} {x:Operand} {x':ba} {agg:Bool} {sz:Nat} (ks:List Nat) (hr:Rel X T a μ) (b:o.op= .load t x) (h1:dy X x=some x') (hg:iz X t=some agg) (hn:bU X t=some sz)
  (c: (aQ E (.DK ks agg sz x')).run C ⟨T,μ.O⟩=some (v,σ')):σ'.T=T/\dg X o a μ σ'.O v:=by
 obtain⟨v0,h2,rfl⟩:=Ps c;obtain⟨h3,val,w',φ',h4,h5,h6,h7⟩:=Nl hr b h1 hg hn h2;exact⟨h3,val,w',φ',h4,aj.JJ ks h5,h6,h7⟩
theorem Gy {t e:TypeId} {x i:Operand} {x' F:ba} {sz:Nat} (hr:Rel X T a μ) (G:o.op= .indexAddr t x i) (hd:bP X t=some (.slice e)) (hn:bU X e=some sz)
  (h1:dy X x=some x') (h2:dy X i=some F) (c: (aQ E (.indexAddr sz x' F)).run C ⟨T,μ.O⟩=some (v,σ')):σ'.T=T/\dg X o a μ σ'.O v:=by
 simp only[aQ,bF] at c;have hx:=aX hr h1 μ.O;have hi:=aX hr h2 μ.O;have fin: ∀ (p:Addr) (len cap:Nat) (k:IntKind) (n:Int),a.eval x= .slice (some p) len cap->a.eval i= .int k n->0<=n->n<len->
   (execOp a.eval o).run X.P μ.w= .ok (.value (.pointer (some (p.add (n.toNat*sz))))) μ.w:=fun p len cap k n hp H s u=>by
  simp only[execOp,G];refine dQ ?_;simp[Instr.indexAt,Sem.run_bind,hp,H,asIntOf,run_underlying hd,s,u,fJ hn]
 split at c
 .rename_i r g off len k n j l;simp only[Act.run] at c;split at c
  .rename_i hc;obtain⟨rfl,rfl⟩:=bn c;rw[j] at hx;rw[l] at hi;simp only[aj] at hx hi;obtain⟨p,cap,hp,Yp,I,J⟩:=hx;obtain⟨K,N,L⟩:=J hc.2.2.2;have M:cap≠0:=ajk;have EM:=L.resolve_left M;rw[EM] at hp;refine⟨rfl,aU hr.bp (fin _ len cap k n hp hi hc.1 hc.2.1) ?_⟩;simp only[aj];refine⟨_,rfl,I,fun _=> ⟨K,?_⟩⟩;rw[iF,hc.2.2.1];simp only[Addr.mk.injEq,true_and,and_true];rw[aj4];omega
  exact absurd c aq
 .rename_i sz' xs k n j l;split at c
  .rename_i hc;split at c
   .rename_i el uU;obtain⟨rfl,rfl⟩:=bn c;rw[j] at hx;rw[l] at hi;simp only[aj] at hx hi;obtain⟨ot,G0,p,cap,vs,hp,Yp,y,f⟩:=hx;have z:n.toNat<xs.length:=(ajp.1 uU).1;rcases f with f| ⟨b,q,h,A,Xt,B⟩
    .subst f;simp at z
    rw[h] at hp;obtain⟨m,d,D⟩:=y.get uU;refine⟨rfl,aU hr.bp (fin _ xs.length cap k n hp hi hc.1 ajk) ?_⟩;simp only[aj];refine⟨sh ot uU,?_,b,q+n.toNat*sz,sz,m,by rw[iF];simp,A,Xt,D,?_⟩
    .simp only[ajx] at G0;exact G0 el (List.mem_of_getElem? uU)
    have:=(B.drop n.toNat).take 1;rw[hc.2] at this;have TD: (vs.drop n.toNat).take 1=[m]:=by have JQ:n.toNat<vs.length:=(ajp.1 d).1;rw[ajO JQ,akn,akR];rw[aju JQ] at d;injection d with d;rw[d]
    rwa [TD] at this
   exact absurd c aq
  exact absurd c aq
 .rename_i sz' xs k n j l;split at c
  .rename_i hc;split at c
   .rename_i el uU;obtain⟨rfl,rfl⟩:=bn c;rw[j] at hx;rw[l] at hi;simp only[aj] at hx hi;obtain⟨ot,G0,p,cap,vs,hp,Yp,y,f⟩:=hx;have z:n.toNat<xs.length:=(ajp.1 uU).1;rcases f with f| ⟨h,A,Xt,B⟩
    .subst f;simp at z
    rw[h] at hp;obtain⟨m,d,D⟩:=y.get uU;refine⟨rfl,aU hr.bp (fin _ xs.length cap k n hp hi hc.1 ajk) ?_⟩;simp only[aj];refine⟨sh ot uU,?_,m,by rw[iF];simp,A,Xt,D,?_⟩
    .simp only[ajx] at G0;exact G0 el (List.mem_of_getElem? uU)
    have:=(B.drop n.toNat).take 1;rw[hc.2.1] at this;have TD: (vs.drop n.toNat).take 1=[m]:=by have JQ:n.toNat<vs.length:=(ajp.1 d).1;rw[ajO JQ,akn,akR];rw[aju JQ] at d;injection d with d;rw[d]
    rwa [TD] at this
   exact absurd c aq
  exact absurd c aq
 exact absurd c aq
theorem I6 {t e:TypeId} {x i:Operand} {x' s:ba} {n sz:Nat} (hr:Rel X T a μ) (y:o.op= .indexAddr t x i) (hd:bP X t=some (.array n e)) (hn:bU X e=some sz)
  (h1:dy X x=some x') (h2:dy X i=some s) (c: (aQ E (.rf n sz x' s)).run C ⟨T,μ.O⟩=some (v,σ')):σ'.T=T/\dg X o a μ σ'.O v:=by
 simp only[aQ,bF] at c;have hx:=aX hr h1 μ.O;have hi:=aX hr h2 μ.O;have fin: ∀ (p:Addr) (k:IntKind) (j:Int),a.eval x= .pointer (some p)->a.eval i= .int k j->0<=j->j<n->
   (execOp a.eval o).run X.P μ.w= .ok (.value (.pointer (some (p.add (j.toNat*sz))))) μ.w:=fun p k j hp z d f=>by
  simp only[execOp,y];refine dQ ?_;simp[Instr.indexAt,Sem.run_bind,hp,z,asIntOf,run_underlying hd,d,f,fJ hn,Instr.sureAddr]
 split at c
 .rename_i r g idx off k j h l;split at c
  .rename_i hc;obtain⟨rfl,rfl⟩:=bn c;rw[h] at hx;rw[l] at hi;simp only[aj] at hx hi;obtain⟨p,hp,A,u⟩:=hx;refine⟨rfl,aU hr.bp (fin p k j hp hi hc.1 hc.2) ?_⟩;simp only[aj];refine⟨_,rfl,A,fun hg=> ⟨(u hg).1,?_⟩⟩;rw[(u hg).2,iF];simp[aln]
  exact absurd c aq
 .rename_i el off k j h l;split at c
  .rename_i hc;obtain⟨rfl,rfl⟩:=bn c;rw[h] at hx;rw[l] at hi;simp only[aj] at hx hi;obtain⟨m,JT,b,q,sz',B,hp,D⟩:=hx;refine⟨rfl,aU hr.bp (fin _ k j hp hi hc.1 hc.2) ?_⟩;simp only[aj];exact⟨m,JT,b,q,sz',B,by rw[iF];simp[aln],D⟩
  exact absurd c aq
 exact absurd c aq
theorem I7 {t:TypeId} {x i:Operand} {x' e:ba} (hr:Rel X T a μ) (g:o.op= .index t x i) (hd:bP X t=some .string)
  (h1:dy X x=some x') (h2:dy X i=some e) (c: (aQ E (.rj x' e)).run C ⟨T,μ.O⟩=some (v,σ')):σ'.T=T/\dg X o a μ σ'.O v:=by
 simp only[aQ,bF] at c;have hx:=aX hr h1 μ.O;have hi:=aX hr h2 μ.O;split at c
 .rename_i s k n h j;split at c
  .rename_i hc;split at c
   .rename_i b hb;obtain⟨rfl,rfl⟩:=bn c;rw[h] at hx;rw[j] at hi;simp only[aj] at hx hi;obtain⟨d,Xt,rfl⟩:=hx;refine⟨rfl,aU (val:= .int .u8 b.toNat) hr.bp ?_ (by simp[aj])⟩;simp only[execOp,g];refine dQ ?_;have l:d[n.toNat]? =some b:=by
     have f:=(ajp.1 hb).1;have hv:=(ajp.1 hb).2;have bM:n.toNat<d.size:=by rw[ajI] at f;exact f
     rw[getElem?_pos d n.toNat bM];congr 1
    simp[Instr.index,Sem.run_bind,Xt,hi,asIntOf,run_underlying hd,hc,l]
   exact absurd c aq
  exact absurd c aq
 exact absurd c aq
end
end Go.AM
namespace Go.AM
open Go Go.RowKit
def Xu (X:Ctx) (μ:Mu) (x:Option V) (v:Option Value):Prop:=(x=none/\v=none)\/ ∃a v',x=some a/\v=some v'/\aj X μ a v'
theorem yE {X:Ctx} {μ:Mu} {T:Nat->V} {a:Go.Act} {x:Option Operand} {y:Option ba} (hr:Rel X T a μ) (h:Dl X x=some y) (O:Nat->Obj):
  Xu X μ (y.map (bE ⟨T,O⟩)) (x.map a.eval):=by
 rcases TQ hr h O with⟨rfl,rfl⟩ | ⟨x',y',rfl,rfl,bA⟩
 .exact .inl ⟨rfl,rfl⟩
 exact .inr ⟨_,_,rfl,rfl,bA⟩
section
variable {X:Ctx} {E:Env} {C:bB} {o:Oper} {a:Go.Act} {T:Nat->V} {μ:Mu} {v:V} {σ':St}
theorem run_sliceBound {d l y:Nat} {x:V} {xv:Value} {a:BoundsCode} {w:World} (h:aj X μ x xv) (hb:cY d (some x)=some l) (b:l<=y):
  (Instr.sliceBound xv y a).run X.P w= .ok l w:=by
 cases x<;>simp[cY] at hb
 obtain⟨h0,rfl⟩:=hb;simp only[aj] at h;subst h;rename_i k n;have:n<=(y:Int):=ajk;simp[Instr.sliceBound,asIntOf,Sem.run_bind,h0,this]
theorem kE {isSlice:Bool} {len cap l h:Nat} {lo hi:Option V} {a b:Option Value} {w:World} (h1:Xu X μ lo a) (h2:Xu X μ hi b)
  (hl:cY 0 lo=some l) (hh:cY len hi=some h) (c:l<=h) (e:h<=cap):
  (Instr.sliceBounds isSlice len cap a b none).run X.P w= .ok (l,h,cap) w:=by
 rcases h1 with⟨rfl,rfl⟩ | ⟨lx,lv,rfl,rfl,Ya⟩ <;>rcases h2 with⟨rfl,rfl⟩ | ⟨hx,hv,rfl,rfl,hhr⟩
 .simp[cY] at hl hh;subst hl;subst hh;simp[Instr.sliceBounds,Sem.run_bind]
 .simp[cY] at hl;subst hl;simp[Instr.sliceBounds,Sem.run_bind,run_sliceBound hhr hh e]
 .have d:=hh;simp[cY] at d;subst d;simp[Instr.sliceBounds,Sem.run_bind,run_sliceBound Ya hl c]
 simp[Instr.sliceBounds,Sem.run_bind,run_sliceBound Ya hl c,run_sliceBound hhr hh e]
theorem kG {isSlice:Bool} {len cap l h m:Nat} {lo:Option V} {hi mx:V} {a:Option Value} {b c:Value} {w:World} (h1:Xu X μ lo a) (h2:aj X μ hi b) (h3:aj X μ mx c)
  (hl:cY 0 lo=some l) (hh:cY len (some hi)=some h) (hm:cY 0 (some mx)=some m) (e:l<=h) (d:h<=m) (f:m<=cap):
  (Instr.sliceBounds isSlice len cap a (some b) (some c)).run X.P w= .ok (l,h,m) w:=by
 rcases h1 with⟨rfl,rfl⟩ | ⟨lx,lv,rfl,rfl,Ya⟩
 .simp[cY] at hl;subst hl;simp[Instr.sliceBounds,Sem.run_bind,run_sliceBound h3 hm f,run_sliceBound h2 hh d]
 simp[Instr.sliceBounds,Sem.run_bind,run_sliceBound h3 hm f,run_sliceBound h2 hh d,run_sliceBound Ya hl e]
theorem TW {t e:TypeId} {x:Operand} {lo hi mx:Option Operand} {x':ba} {f z i:Option ba} {sz:Nat} (hr:Rel X T a μ) (J:o.op= .slice t x lo hi mx) (hd:bP X t=some (.slice e))
  (hn:bU X e=some sz) (h1:dy X x=some x') (h2:Dl X lo=some f) (h3:Dl X hi=some z) (h4:Dl X mx=some i)
  (d: (aQ E (.slice sz x' f z i)).run C ⟨T,μ.O⟩=some (v,σ')):σ'.T=T/\dg X o a μ σ'.O v:=by
 simp only[aQ,bF,Xp] at d;have hx:=aX hr h1 μ.O;have j:=yE hr h2 μ.O;have k:=yE hr h3 μ.O;have n:=yE hr h4 μ.O;generalize f.map (bE ⟨T,μ.O⟩)=K at d j;generalize z.map (bE ⟨T,μ.O⟩)=L at d k;generalize i.map (bE ⟨T,μ.O⟩)=M at d n;have N:X.P.underlying t=some (.slice e):=hd;have fin: ∀ (p:Option Addr) (len cap l h m:Nat),a.eval x= .slice p len cap->(Instr.sliceBounds true len cap (lo.map a.eval) (hi.map a.eval) (mx.map a.eval)).run X.P μ.w= .ok (l,h,m) μ.w->
   (execOp a.eval o).run X.P μ.w= .ok (.value (.slice (if m=l then p else p.map (·.add (l*sz))) (h - l) (m - l))) μ.w:=fun p len cap l h m hp hb=>by
  simp only[execOp,J];refine dQ ?_;simp only[Instr.sliceAt,Sem.run_bind,run_underlying N,Result.andThen_ok,Instr.slice,hp,hb,fJ hn,Sem.run_pure]
 split at d
 .rename_i r g off len Q;rw[Q] at hx;simp only[aj] at hx;obtain⟨p,cap,hp,Yp,R,S⟩:=hx;simp only[Act.run] at d;split at d
  .rename_i es bC;split at d
   .rename_i I8;obtain⟨G,q1,U⟩:=S I8.1;have W:es.length<=(μ.φ r).cap:=(hr.bp.row r es bC G).2.1;split at d
    .
     rename_i _ l h hl hh;split at d
     .   rename_i c
         obtain⟨rfl,rfl⟩:=bn d;have FP:mx.map a.eval=none:=by
          rcases n with⟨h5,h6⟩ | ⟨_,_,h5,_⟩
          .exact h6
          cases h5
         have hb:=kE (isSlice:=true) (len:=len) (cap:=cap) (w:=μ.w) j k hl hh c.1 ajk;refine⟨rfl,aU hr.bp (fin p len cap l h cap hp (by rw[FP];exact hb)) ?_⟩;simp only[aj];refine⟨_,_,rfl,ajk,R,fun _=> ⟨G,ajk,?_⟩⟩;by_cases Y:cap=l
         .left;omega
         right
         rw[if_neg Y];have:cap≠0:=ajk;rw[U.resolve_left this,ajE,iF,I8.2];congr 2
         rw[aj4];omega
     exact absurd d aq
    .
     rename_i _ l H m hl hh;split at d
     .   rename_i _ _ h m' F7
         split at d
         .rename_i c;obtain⟨rfl,rfl⟩:=bn d;rcases n with⟨h5,_⟩ | ⟨mxx,aeq,h5,h6,I9⟩
          .cases h5
          injection h5 with h5;subst h5;rcases k with⟨h7,_⟩ | ⟨hix,aer,h7,h8,Ja⟩
          .cases h7
          injection h7 with h7;subst h7;have hb:=kG (isSlice:=true) (len:=len) (cap:=cap) (w:=μ.w) j Ja I9 hl hh F7 c.1 c.2.1 ajk;refine⟨rfl,aU hr.bp (fin p len cap l H m' hp (by rw[h6,h8];exact hb)) ?_⟩;split
          .rename_i FE;simp only[aj];have s:H - l=0:=ajk;have u:m' - l=0:=ajk;exact⟨_,by rw[s,u]⟩
          simp[aj]
         exact absurd d aq
     exact absurd d aq
    exact absurd d aq
   exact absurd d aq
  exact absurd d aq
 obtain⟨Bj,rfl⟩:=gI d;refine⟨rfl,?_⟩;generalize bE ⟨T,μ.O⟩ x'=y at Bj hx;cases y<;>simp only[AL,reduceCtorEq] at Bj
 .
  simp only[aj] at hx;obtain⟨p,hp⟩:=hx;split at Bj
  .rename_i l h m hl hh hm;split at Bj<;>simp at Bj
   rename_i c;subst Bj;have s:l=0:=ajk;have u:h=0:=ajk;have Z:m=0:=ajk;subst s;subst u;subst Z;have hb: ∃m',(Instr.sliceBounds true 0 0 (lo.map a.eval) (hi.map a.eval) (mx.map a.eval)).run X.P μ.w= .ok (0,0,m') μ.w/\m'=0:=by
    rcases n with⟨rfl,h6⟩ | ⟨mxx,aeq,rfl,h6,I9⟩
    .rw[h6];exact⟨_,kE (isSlice:=true) (len:=0) (cap:=0) (w:=μ.w) j k hl hh (ajw _) (ajw _),rfl⟩
    rcases k with⟨rfl,h8⟩ | ⟨hix,aer,rfl,h8,Ja⟩
    .simp at c
    rw[h6,h8];exact⟨_,kG (isSlice:=true) (len:=0) (cap:=0) (w:=μ.w) j Ja I9 hl hh hm (ajw _) (ajw _) (ajw _),rfl⟩
   obtain⟨m',hb,rfl⟩:=hb;refine aU hr.bp (fin p 0 0 0 0 0 hp hb) ?_;simp[aj]
  simp at Bj
 rename_i sz' xs;simp only[aj] at hx;obtain⟨ot,G0,p,cap,vs,hp,Yp,ns,A⟩:=hx;split at Bj
 .rename_i B;subst B;split at Bj
  .rename_i l h hl hh;split at Bj<;>simp at Bj
   rename_i c;subst Bj;obtain⟨_,FP⟩: (none:Option V)=none/\mx.map a.eval=none:=by
       rcases n with⟨h5,h6⟩ | ⟨_,_,h5,_⟩
       .exact⟨rfl,h6⟩
       cases h5
   have hb:=kE (isSlice:=true) (len:=xs.length) (cap:=cap) (w:=μ.w) j k hl hh c.1 ajk;refine aU hr.bp (fin p xs.length cap l h cap hp (by rw[FP];exact hb)) ?_;have I: (aN xs l (h - l)).length=h - l:=by simp[aN];omega
   simp only[aj];refine⟨xg _ (xh _ ot),mH _ (pQ _ G0),_,_,(vs.drop l).take (h - l),by rw[I],by rw[I];omega,ag.take _ (ag.drop _ ns),?_⟩;by_cases D:l=h
   .left;simp[aN,D]
   right
   rcases A with A| ⟨b,q,F,fQ,Xt,dG⟩
   .subst A;simp at c;omega
   have: ¬cap=l:=ajk;rw[if_neg this,F,ajE,iF];exact⟨b,q+l*sz',rfl,fQ,Xt,(dG.drop l).take _⟩
  .rename_i l h m hl hh;split at Bj
   .   rename_i hi0 m' F7
       split at Bj<;>simp at Bj
       rename_i c;subst Bj;rcases n with⟨h5,_⟩ | ⟨mxx,aeq,h5,h6,I9⟩
       .cases h5
       injection h5 with h5;subst h5;rcases k with⟨h7,_⟩ | ⟨hix,aer,h7,h8,Ja⟩
       .cases h7
       injection h7 with h7;subst h7;have hb:=kG (isSlice:=true) (len:=xs.length) (cap:=cap) (w:=μ.w) j Ja I9 hl hh F7 c.1 c.2.1 ajk;refine aU hr.bp (fin p xs.length cap l h m' hp (by rw[h6,h8];exact hb)) ?_;split
       .simp only[aj];have s:h - l=0:=ajk;have u:m' - l=0:=ajk;exact⟨_,by rw[s,u]⟩
       simp[aj]
   simp at Bj
  simp at Bj
 simp at Bj
end
end Go.AM
namespace Go.AM
open Go Go.RowKit
def db {α:Type} (L:List α) (p:Nat) (m:List α):List α:=L.take p++m++L.drop (p+m.length)
theorem gR {α:Type} {L m:List α} {p:Nat} (h:p+m.length<=L.length): (db L p m).length=L.length:=by simp[db];omega
theorem gC {α:Type} {L m:List α} {p:Nat} (h:p+m.length<=L.length) (q:Nat):
  (db L p m)[q]? =if q<p then L[q]? else if q<p+m.length then m[q - p]? else L[q]? :=by
 unfold db;rw[akB,alz];have hl: (L.take p).length=p:=by simp;omega
 rw[hl];split
 .rename_i a;rw[ajW];simp[a]
 rename_i a;rw[alz];split
 .rename_i hm;rw[if_pos ajk]
 rename_i hm;rw[if_neg ajk,ak5];congr 1;omega
def eo (c:List Value) (base sz:Nat) (vs:List Value):Prop:=
 ∀i v,vs[i]? =some v->v.cells.size=sz/\ ∀j x,v.cells[j]? =some x->c[base+i*sz+j]? =some x
def flat (us:List Value):List Value:=us.flatMap fun v=>v.cells.toList
theorem jC {us:List Value} {sz:Nat} (h: ∀v ∈ us,v.cells.size=sz): (flat us).length=us.length*sz:=by
 induction us with
 | nil=>simp[flat]
 | cons u us a=>
   have h1:=h u ajl;have h2:=a fun v hv=>h v (by simp[hv]);simp only[flat,List.flatMap_cons,List.length_append,ajC] at h2 ⊢;rw[h2,ajI,h1,aj4];omega
theorem xi {us:List Value} {sz:Nat} (h: ∀v ∈ us,v.cells.size=sz) {i j:Nat} {v x:Value} (hv:us[i]? =some v) (hx:v.cells[j]? =some x):
   (flat us)[i*sz+j]? =some x:=by
 induction us generalizing i with
 | nil=>simp at hv
 | cons u us a=>
   have h1:=h u ajl;simp only[flat,List.flatMap_cons];cases i with
   | zero=>
     simp at hv;subst hv;have b:j<u.cells.size:=(ajs.1 hx).1;rw[aj2 (by rw[ajI];omega)];simpa using hx
   | succ i=>
     simp at hv;have:=a (fun v hv=>h v (by simp[hv])) hv;rw[ajR (by rw[ajI,h1,aj4];omega)];rw[ajI,h1];have e: (i+1)*sz+j - sz=i*sz+j:=by rw[aj4];omega
     rw[e];exact this
theorem AF {sz i j k:Nat} (a:j<sz) (Bp:i<k):i*sz+j<k*sz:=by have: (i+1)*sz<=k*sz:=akb _ ajk;rw[aj4] at this;omega
theorem Gz {sz i j k:Nat} (Bp:k<=i):k*sz<=i*sz+j:=by have:k*sz<=i*sz:=akb _ Bp;omega
theorem eo.write {c:List Value} {base sz k:Nat} {vs us:List Value} (h:eo c base sz vs) (l:k<=vs.length) (TX: ∀v ∈ us,v.cells.size=sz)
  (m:base+k*sz+us.length*sz<=c.length):
  eo (db c (base+k*sz) (flat us)) base sz (vs.take k++us++vs.drop (k+us.length)):=by
 have FQ:=jC TX;intro i v hv;have f: (vs.take k).length=k:=by simp;omega
 rw[akB,alz,f] at hv;split at hv
 .rename_i hi;rw[ajW] at hv;simp only[hi,if_true] at hv;obtain⟨h1,h2⟩:=h i v hv;refine⟨h1,fun j x hx=> ?_⟩;have b:j<sz:=h1 ▸ (ajs.1 hx).1;rw[gC (by rw[FQ];omega),if_pos (by have:=AF b hi;omega)];exact h2 j x hx
 rename_i hi;rw[alz] at hv;split at hv
 .rename_i IX;have a:=List.mem_of_getElem? hv;refine⟨TX v a,fun j x hx=> ?_⟩;have b:j<sz:=TX v a ▸ (ajs.1 hx).1;have d:=Gz (sz:=sz) (j:=j) (show k<=i by omega);have g:=AF (k:=k+us.length) b (show i<k+us.length by omega);rw[aj4] at g;rw[gC (by rw[FQ];omega),if_neg ajk,if_pos (by rw[FQ];omega)];have e:base+i*sz+j - (base+k*sz)=(i - k)*sz+j:=by rw[Nat.sub_mul];have:=akb sz (show k<=i by omega);omega
  rw[e];exact xi TX hv hx
 rename_i IX;rw[ak5] at hv;have e:k+us.length+(i - k - us.length)=i:=ajk;rw[e] at hv;obtain⟨h1,h2⟩:=h i v hv;refine⟨h1,fun j x hx=> ?_⟩;have d:=Gz (sz:=sz) (j:=j) (show k+us.length<=i by omega);rw[aj4] at d;rw[gC (by rw[FQ];omega),if_neg ajk,if_neg (by rw[FQ];omega)];exact h2 j x hx
theorem eo.take {c:List Value} {base sz:Nat} {vs:List Value} (h:eo c base sz vs) (n:Nat):eo c base sz (vs.take n):=by
 intro i v hv;rw[ajW] at hv;split at hv
 .exact h i v hv
 simp at hv
theorem eo.drop {c:List Value} {base sz:Nat} {vs:List Value} (h:eo c base sz vs) (n:Nat):eo c (base+n*sz) sz (vs.drop n):=by intro i v hv;rw[ak5] at hv;obtain⟨h1,h2⟩:=h (n+i) v hv;refine⟨h1,fun j x hx=> ?_⟩;rw[<-h2 j x hx,aj4];congr 1;omega
theorem eo.put {c:List Value} {base sz idx off:Nat} {vs m:List Value} {x x':Value} (h:eo c base sz vs) (hx:vs[idx]? =some x)
  (f:base+(idx+1)*sz<=c.length) (hm:off+m.length<=sz) (b:x'.cells.toList=db x.cells.toList off m):
  eo (db c (base+idx*sz+off) m) base sz (vs.set idx x'):=by
 have bM:=(h idx x hx).1;rw[aj4] at f;have jg:base+idx*sz+off+m.length<=c.length:=ajk;have U3:off+m.length<=x.cells.toList.length:=by have:x.cells.toList.length=x.cells.size:=ajI;omega
 intro i v hv;rw[akz] at hv;split at hv
 .rename_i e;subst e;have a:idx<vs.length:=(ajp.1 hx).1;simp only[a,if_true,ajq] at hv;subst hv;have Xv:x'.cells.size=sz:=by rw[<-ajI,b,gR U3,ajI];exact bM
  refine⟨Xv,fun j y hy=> ?_⟩;have d:j<sz:=Xv ▸ (ajs.1 hy).1;have G1: (db x.cells.toList off m)[j]? =some y:=by rw[<-b];simpa using hy
  rw[gC U3] at G1;rw[gC jg];have g:base+idx*sz+j - (base+idx*sz+off)=j - off:=ajk;split at G1
  .rw[if_pos ajk];exact(h idx x hx).2 j y (by simpa using G1)
  split at G1
  .rw[if_neg ajk,if_pos ajk,g];exact G1
  rw[if_neg ajk,if_neg ajk];exact(h idx x hx).2 j y (by simpa using G1)
 rename_i bW;obtain⟨h1,h2⟩:=h i v hv;refine⟨h1,fun j y hy=> ?_⟩;have d:j<sz:=h1 ▸ (ajs.1 hy).1;rw[gC jg];by_cases a:i<idx
 .have:=AF d a;rw[if_pos ajk];exact h2 j y hy
 have:=Gz (sz:=sz) (j:=j) (show idx+1<=i by omega);rw[aj4] at this;rw[if_neg ajk,if_neg ajk];exact h2 j y hy
theorem kR {w:World} {b base sz:Nat} {vs:List Value} {c:Array Value} {T:TypeId} {a:Nat×Nat} (hb:w.heap[b]? =some (.cells c T a))
  (h:dL w b base sz vs):eo c.toList base sz vs:=by
 intro i v hv;obtain⟨h1,h2⟩:=h.TO hb i v hv;exact⟨h1,fun j x hx=>by simpa using h2 j x hx⟩
theorem yF {P:Program} {w:World} {b q sz n:Nat} {vs:List Value} (h:dL w b q sz vs) (hn:n<=vs.length):
  (loadCells ⟨b,q,none⟩ (n*sz)).run P w= .ok (flat (vs.take n)).toArray w:=by
 have hs: ∀v ∈ vs.take n,v.cells.size=sz:=fun v hv=>by obtain⟨i,hi⟩:=ajH (ajN hv);exact(h i v hi).1
 have hl: (flat (vs.take n)).length=n*sz:=by rw[jC hs,akj,Nat.min_eq_left hn]
 rw[<-hl];refine run_loadCells_list w ⟨b,q,none⟩ _ fun p x hx=> ?_;rw[iF];have hp:p<n*sz:=by rw[<-hl];exact(ajp.1 hx).1
 have bM:0 <sz:=by
  rcases ajY sz with e| e
  .subst e;simp at hp
  exact e
 have hi:p / sz<n:=Nat.div_lt_of_lt_mul (by rw[ak2];exact hp);have EM:p / sz*sz+p % sz=p:=by rw[ak2];exact Nat.div_add_mod p sz
 have c:p / sz<vs.length:=ajk;have hv:vs[p / sz]? =some vs[p / sz]:=aju c;have d: (vs.take n)[p / sz]? =some vs[p / sz]:=by rw[ajW];simp[hi,hv]
 obtain⟨h1,h2⟩:=h _ _ hv;have hm:p % sz< (vs[p / sz]).cells.size:=by rw[h1];exact Nat.mod_lt _ bM
 have hc: (vs[p / sz]).cells[p % sz]? =some (vs[p / sz]).cells[p % sz]:=ajP hm;have a:=xi hs d hc;rw[EM,hx] at a;injection a with a;have f:=h2 _ _ hc;rw[aln,EM,<-a] at f;exact f
end Go.AM
namespace Go.AM
open Go Go.RowKit
theorem cF {v:V} {sz:Nat} (h:bj v sz=true):v.dw=true/\v.cells.length=sz:=by simp[bj] at h;exact⟨h.2,h.1⟩
theorem jk {X:Ctx} {t:TypeId} {z:V} (h:fW X t=some z) (w:World): ∃zv,(zeroValue t).run X.P w= .ok zv w/\Cd zv=some z:=by simp only[fW,info,Option.bind_eq_some_iff] at h;obtain⟨i,h1,zv,h2,h3⟩:=h;exact⟨zv,by simp[zeroValue,Sem.run_bind,run_typeInfo w h1,h2],h3⟩
theorem ag.cells_one {X:Ctx} {μ:Mu} {ys:List V} {us:List Value} {sz:Nat} (h:ag X μ ys us) (hb:ys.all (bj · sz)=true):
  (∀u ∈ us,u.cells.size=sz)/\ ∀c ∈ flat us,c.oneCell'=true:=by
 have hh: ∀u ∈ us,∃y,y ∈ ys/\aj X μ y u:=fun u a=>by
  obtain⟨i,hi⟩:=ajH a;have b:i<ys.length:=by rw[h.length];exact(ajp.1 hi).1
  obtain⟨u',h1,h2⟩:=h.get (aju b);rw[hi] at h1;injection h1 with h1;subst h1;exact⟨_,aky b,h2⟩
 simp only[ajx] at hb;refine⟨fun u a=> ?_,fun c hc=> ?_⟩
 .obtain⟨y,hy,hr⟩:=hh u a;obtain⟨h1,h2⟩:=cF (hb y hy);rw[hr.gB h1,h2]
 simp only[flat,List.mem_flatMap] at hc;obtain⟨u,a,e⟩:=hc;obtain⟨y,hy,hr⟩:=hh u a;obtain⟨h1,h2⟩:=cF (hb y hy);obtain⟨j,f⟩:=ajH e;have g:=hr.cells h1;have b:j<y.cells.length:=by rw[g.length];exact(ajp.1 f).1
 obtain⟨u',d,k⟩:=g.get (aju b);rw[f] at d;injection d with d;subst d;have Yq:=hr.mw h1;simp only[ajx] at Yq;exact(k.qz (Yq _ (aky b))).1
theorem kS {P:Program} {w:World} {g q:Nat} {a:Array Value} {T:TypeId} (hg:w.heap[g]? =some (.cells a T (0,0))) (m:List Value) (hl:q+m.length<=a.size)
  (h1: ∀v ∈ m,v.oneCell'=true): (storeCells ⟨g,q,none⟩ m).run P w= .ok () (w.setRow g (db a.toList q m).toArray):=by
 have:=run_storeCells_at (P:=P) g q T m 0 a w hg (by simpa using hl) h1;simpa [db] using this
section
variable {X:Ctx} {E:Env} {C:bB} {o:Oper} {a:Go.Act} {T:Nat->V} {μ:Mu} {v:V} {σ':St}
theorem TY (hr:Rel X T a μ) {r sz:Nat} {arr:Bool} {es:List V} {vs:List Value} {c:Array Value} {t:TypeId} {val:Value} (bM:0 <sz) (cap:Nat)
  (b:es.length<=cap) (d:es.all (bj · sz)=true) (e:ag X μ es vs) (hc:cap*sz<=c.size) (f:eo c.toList 0 sz vs)
  (g: (execOp a.eval o).run X.P μ.w= .ok (.value val) (μ.w.alloc (.cells c t (0,0))))
  (hv:let μ':Mu:=⟨μ.w.alloc (.cells c t (0,0)),dh μ.φ r ⟨μ.w.heap.size,0,cap⟩,dh μ.O r {gen:=(μ.O r).gen+1,sz:=sz,arr:=arr,fz:=false,es:=some es}⟩;aj X μ' v val):
  dg X o a μ (dh μ.O r {gen:=(μ.O r).gen+1,sz:=sz,arr:=arr,fz:=false,es:=some es}) v:=by
 obtain⟨h1,h2⟩:=Gu (X:=X) hr.bp r sz cap arr (es:=es) (vs:=vs) (c:=c) t bM b d e hc (fun i u h=>by obtain⟨k,l⟩:=f i u h;exact⟨k,fun j x hx=>by simpa using l j x hx⟩);exact⟨val,_,_,.inl g,hv,h1,h2⟩
theorem Lx {x:Value}:eo x.cells.toList 0 x.cells.size [x]:=by
 intro i v hv;cases i with
 | zero=>simp at hv;subst hv;exact⟨rfl,fun j y hy=>by simpa using hy⟩
 | succ i=>simp at hv
theorem TZ {t:TypeId} {x':ba} {r sz:Nat} {xv:Value} (hr:Rel X T a μ) (hx:aj X μ (bE ⟨T,μ.O⟩ x') xv)
  (d: (execOp a.eval o).run X.P μ.w= .ok (.value (.pointer (some ⟨μ.w.heap.size,0,none⟩))) (μ.w.alloc (.cells xv.cells t (0,0))))
  (b: (aQ E (.new r sz x')).run C ⟨T,μ.O⟩=some (v,σ')):σ'.T=T/\dg X o a μ σ'.O v:=by
 simp only[aQ,bF] at b;split at b
 .rename_i hb;simp only[ajt,decide_eq_true_eq] at hb;simp only[Act.run,ajq,ajv] at b;obtain⟨rfl,rfl⟩:=b;obtain⟨hl,e⟩:=cF hb.1;have bM:xv.cells.size=sz:=by rw[hx.gB hl,e]
  refine⟨rfl,TY hr (cap:=1) (es:=[bE ⟨T,μ.O⟩ x']) (vs:=[xv]) (c:=xv.cells) hb.2 ajl (by simp[hb.1]) (by simp[ag,hx]) ajk (bM ▸ Lx) d ?_⟩;simp only[aj,aD];exact⟨_,rfl,ajw _,fun _=> ⟨hb.2,ajl⟩⟩
 exact absurd b aq
theorem T1 {t:TypeId} {r sz:Nat} {z:V} (ks:List Nat) (hr:Rel X T a μ) (b:o.op= .alloc t) (c:fW X t=some z)
  (d: (aQ E (.new r sz (.const (JJ ks z)))).run C ⟨T,μ.O⟩=some (v,σ')):σ'.T=T/\dg X o a μ σ'.O v:=by
 obtain⟨e,h1,h2⟩:=jk c μ.w;refine TZ (t:=t) (xv:=e) hr (aj.JJ ks (fk h2).1) ?_ d;simp only[execOp,b];refine dQ ?_;simp[Instr.alloc,Sem.run_bind,h1,newVar,newRow]
theorem aat {t:TypeId} {r sz:Nat} {x:Operand} {x':ba} (ks:List Nat) (hr:Rel X T a μ) (b:o.op= .box t x) (h1:dy X x=some x')
  (c: (aQ E (.new r sz (Yk ks x'))).run C ⟨T,μ.O⟩=some (v,σ')):σ'.T=T/\dg X o a μ σ'.O v:=by
 refine TZ (t:=t) (xv:=a.eval x) hr (aj.Yk ks (aX hr h1 μ.O)) ?_ c;simp only[execOp,b];refine dQ ?_;simp[Instr.box,Sem.run_bind,newVar,newRow]
theorem Jb {zv:Value} {sz n:Nat} (a:zv.cells.size=sz):
  ((Array.range (n*sz)).map (fun i=>zv.cells[i % zv.cells.size]!)).size=n*sz/\
    eo ((Array.range (n*sz)).map (fun i=>zv.cells[i % zv.cells.size]!)).toList 0 sz (List.replicate n zv):=by
 refine⟨ajl,fun i v hv=> ?_⟩;rw[List.getElem?_replicate] at hv;split at hv<;>simp at hv
 rename_i hi;subst hv;refine⟨a,fun j x hx=> ?_⟩;have b:j<sz:=a ▸ (ajs.1 hx).1;have c:=AF b hi;have hm: (i*sz+j) % sz=j:=by rw[ak2,Nat.mul_add_mod];exact alB b
 have hr: (Array.range (n*sz))[i*sz+j]? =some (i*sz+j):=by simp[c]
 simp only[akg,alD,ajF];rw[alv,hr];simp only[ajE,a,hm];rw[getElem!_def,hx]
theorem ag.replicate {z:V} {zv:Value} (h:aj X μ z zv): ∀n,ag X μ (List.replicate n z) (List.replicate n zv)
 | 0=>by simp[ag]
 | n+1=>by simp only[List.replicate_succ,ag];exact⟨h,ag.replicate h n⟩
theorem ur {c:V} {k:V->Act} {val:Value} {O:Nat->Obj} {p:V×St} (l:bq X ⟨μ.w,μ.φ,O⟩) (hv:aj X ⟨μ.w,μ.φ,O⟩ c val) (b: (jN c k).run C ⟨T,O⟩=some p):
   ∃c' O',(k c').run C ⟨T,O'⟩=some p/\aj X ⟨μ.w,μ.φ,O'⟩ c' val/\Le ⟨μ.w,μ.φ,O⟩ ⟨μ.w,μ.φ,O'⟩/\bq X ⟨μ.w,μ.φ,O'⟩/\(c.aZ=true->c'.aZ=true):=by
 have same: (jN c k).run C ⟨T,O⟩=(k c).run C ⟨T,O⟩->_:=fun e=> (⟨c,O,e ▸ b,hv,Le.refl _,l,id⟩: ∃c' O',(k c').run C ⟨T,O'⟩=some p/\aj X ⟨μ.w,μ.φ,O'⟩ c' val/\Le ⟨μ.w,μ.φ,O⟩ ⟨μ.w,μ.φ,O'⟩/\bq X ⟨μ.w,μ.φ,O'⟩/\(c.aZ=true->c'.aZ=true));cases c with
 | mp r g=>
   simp only[jN,Act.run] at b;split at b
   .rename_i es bC;split at b
    .rename_i hc;obtain⟨m,q,f,Xw⟩:=hc;simp only[Act.run] at b;obtain⟨le,d⟩:=qA (μ:=⟨μ.w,μ.φ,O⟩) l r;refine⟨_,_,b,?_,le,d,fun _=>rfl⟩;simp only[aj] at hv;obtain⟨a,rfl,h1,h2⟩:=hv;obtain⟨t,rfl⟩:=h2 m;have u:=d.ents r es (by simp[aD,bC]) (by simp[aD,q]);rcases u with⟨h,ents,clock,hm,bA,cL⟩ | ⟨_,s,pos,_,rfl⟩ | ⟨nN,rfl⟩
     rotate_left
     .simp[V.isTuple] at Xw
     .simp[V.isTuple] at Xw
     simp only[aj];refine⟨f,.inr ⟨_,ents,clock,rfl,?_,(ajs.1 hm).1,⟨hm,cL⟩,bA⟩⟩;rintro(⟨r',h1,h2,h3,h4⟩ | Lz)
     .by_cases e:r'=r
      .subst e;simp[aD] at h2
      exact d.inj r' r e h1 (by simp[aD,bC]) h3 h h4
     exact d.vE r (by simp[aD,bC]) h Lz
    exact absurd b aq
   exact absurd b aq
 | sl r g off len=>
   simp only[jN,Act.run] at b;split at b
   .rename_i es bC;split at b
    .rename_i hc;obtain⟨m,q,f,Xw⟩:=hc;simp only[Act.run] at b;obtain⟨le,d⟩:=qA (μ:=⟨μ.w,μ.φ,O⟩) l r;refine⟨_,_,b,?_,le,d,fun _=>rfl⟩;have i: (aN es off len).length=len:=by simp[aN];omega
     have AD:=aj.mono le hv;simp only[aj,aD] at AD;obtain⟨a0,cap,rfl,v,_,y⟩:=AD;obtain⟨t,G,z⟩:=y m;obtain⟨A,B,n,j⟩:=d.row r es (by simp[aD,bC]) (by simpa [aD] using t);simp only[aD] at A B n j;simp only[aj];refine⟨Xw,?_,a0,cap,?_⟩
     .simp only[ajx] at n ⊢;exact fun x hx=> (cF (n x (aki (ajN hx)))).1
     by_cases h:cap=0
     .have:len=0:=ajk;subst this;refine⟨[],by rw[i],by rw[i];omega,?_,.inl ?_⟩
      .simp[aN,ag]
      simp[aN]
     have o: (μ.φ r).cap≠0:=ajk;rcases j with j| ⟨H,TT,vs,D,I,E,F⟩
     .exact absurd j o
     refine⟨(vs.drop off).take len,by rw[i],by rw[i];omega,ag.take _ (ag.drop _ E),.inr ⟨_,_,z.resolve_left h,?_,(ajs.1 D).1,(F.drop off).take len⟩⟩;rintro(⟨r',h1,h2,h3,h4⟩ | Lz)
     .by_cases e:r'=r
      .subst e;simp[aD] at h2
      have:=d.inj r' r e h1 (by simp[aD,bC]) h3 o;exact this h4
     exact d.vE r (by simp[aD,bC]) o Lz
    exact absurd b aq
   exact absurd b aq
 | own _ _=>exact absurd b aq
 | msl _ _ _ _=>exact absurd b aq
 | mptr _ _ _ _=>exact absurd b aq
 | any=>exact absurd b aq
 | it _ _=>exact absurd b aq
 | _=>exact same rfl
theorem si: ∀ {cs:List V} {k:List V->Act} {vals:List Value} {O:Nat->Obj} {p:V×St},bq X ⟨μ.w,μ.φ,O⟩->ag X ⟨μ.w,μ.φ,O⟩ cs vals->(mM cs k).run C ⟨T,O⟩=some p->
   ∃a O',(k a).run C ⟨T,O'⟩=some p/\ag X ⟨μ.w,μ.φ,O'⟩ a vals/\Le ⟨μ.w,μ.φ,O⟩ ⟨μ.w,μ.φ,O'⟩/\bq X ⟨μ.w,μ.φ,O'⟩/\(cs.all V.aZ=true->a.all V.aZ=true)
 | [],k,[],O,p,b,_,d=> ⟨[],O,d,by simp[ag],Le.refl _,b,id⟩
 | [],_,_::_,_,_,_,h,_=>by simp[ag] at h
 | _::_,_,[],_,_,_,h,_=>by simp[ag] at h
 | c::cs,k,v::vals,O,p,b,h,d=>by
   simp only[ag] at h;obtain⟨f,O1,h1,h2,h3,h4,h5⟩:=ur b h.1 d;obtain⟨a,O2,g,i,e,j,l⟩:=si h4 (ag.mono h3 h.2) h1;refine⟨f::a,O2,g,?_,h3.trans e,j,?_⟩
   .simp only[ag];exact⟨aj.mono e h2,i⟩
   intro hh;simp only[ajM,ajt] at hh ⊢;exact⟨h5 hh.1,l hh.2⟩
theorem kH {c:V} {k:V->Act} {val:Value} {O:Nat->Obj} {p:V×St} (b:bq X ⟨μ.w,μ.φ,O⟩) (hv:aj X ⟨μ.w,μ.φ,O⟩ c val) (a: (DJ c k).run C ⟨T,O⟩=some p):
  ∃c' O',(k c').run C ⟨T,O'⟩=some p/\aj X ⟨μ.w,μ.φ,O'⟩ c' val/\Le ⟨μ.w,μ.φ,O⟩ ⟨μ.w,μ.φ,O'⟩/\bq X ⟨μ.w,μ.φ,O'⟩:=by
 unfold DJ at a;split at a
 .exact⟨c,O,a,hv,Le.refl _,b⟩
 split at a
 .simp only[aj] at hv;obtain⟨h0,vs,rfl,d⟩:=hv;obtain⟨e,O',h1,h2,h3,h4,h5⟩:=si b d a;exact⟨_,O',h1,by simp only[aj];exact⟨h5 h0,vs,rfl,h2⟩,h3,h4⟩
 obtain⟨c',O',h1,h2,h3,h4,_⟩:=ur b hv a;exact⟨c',O',h1,h2,h3,h4⟩
theorem uu: ∀ {cs:List V} {k:List V->Act} {vals:List Value} {O:Nat->Obj} {p:V×St},bq X ⟨μ.w,μ.φ,O⟩->ag X ⟨μ.w,μ.φ,O⟩ cs vals->(oM.go cs k).run C ⟨T,O⟩=some p->
   ∃a O',(k a).run C ⟨T,O'⟩=some p/\ag X ⟨μ.w,μ.φ,O'⟩ a vals/\Le ⟨μ.w,μ.φ,O⟩ ⟨μ.w,μ.φ,O'⟩/\bq X ⟨μ.w,μ.φ,O'⟩
 | [],k,[],O,p,b,_,d=> ⟨[],O,d,by simp[ag],Le.refl _,b⟩
 | [],_,_::_,_,_,_,h,_=>by simp[ag] at h
 | _::_,_,[],_,_,_,h,_=>by simp[ag] at h
 | c::cs,k,v::vals,O,p,b,h,d=>by simp only[ag] at h;obtain⟨f,O1,h1,h2,h3,h4⟩:=kH b h.1 d;obtain⟨a,O2,g,i,e,j⟩:=uu h4 (ag.mono h3 h.2) h1;refine⟨f::a,O2,g,?_,h3.trans e,j⟩;simp only[ag];exact⟨aj.mono e h2,i⟩
theorem Cn {cs:List V} {k:List V->Act} {vals:List Value} {O:Nat->Obj} {p:V×St} (b:bq X ⟨μ.w,μ.φ,O⟩) (hv:ag X ⟨μ.w,μ.φ,O⟩ cs vals) (a: (oM cs k).run C ⟨T,O⟩=some p):
  ∃c O',(k c).run C ⟨T,O'⟩=some p/\ag X ⟨μ.w,μ.φ,O'⟩ c vals/\Le ⟨μ.w,μ.φ,O⟩ ⟨μ.w,μ.φ,O'⟩/\bq X ⟨μ.w,μ.φ,O'⟩:=by
 unfold oM at a;split at a
 .exact⟨cs,O,a,hv,Le.refl _,b⟩
 exact uu b hv a
theorem GA {b:Bool} {c:V} {k:V->Act} {val:Value} {O:Nat->Obj} {p:V×St} (l:bq X ⟨μ.w,μ.φ,O⟩) (hv:aj X ⟨μ.w,μ.φ,O⟩ c val) (a: (uL b c k).run C ⟨T,O⟩=some p):
  ∃c' O',(k c').run C ⟨T,O'⟩=some p/\aj X ⟨μ.w,μ.φ,O'⟩ c' val/\Le ⟨μ.w,μ.φ,O⟩ ⟨μ.w,μ.φ,O'⟩/\bq X ⟨μ.w,μ.φ,O'⟩:=by
 unfold uL at a;split at a
 .rename_i r g off;simp only[Act.run] at a;split at a
  .rename_i e bC;split at a
   .rename_i hc;obtain⟨q,y,h⟩:=hc;simp only[Act.run] at a;obtain⟨le,f⟩:=qA (μ:=⟨μ.w,μ.φ,O⟩) l r;refine⟨_,_,a,?_,le,f⟩;have AD:=aj.mono le hv;simp only[aj,aD] at AD;obtain⟨a0,rfl,_,s⟩:=AD;obtain⟨t,rfl⟩:=s q;obtain⟨u,m,n,i⟩:=f.row r [e] (by simp[aD,bC]) (by simpa [aD] using t);simp only[aD] at u m n i;simp only[ajC,ajJ] at m;have hb:bj e (O r).sz=true:=by simpa using n
    have o: (μ.φ r).cap≠0:=ajk;rcases i with i| ⟨z,TT,vs,v,A,d,j⟩
    .omega
    match vs,d,j with
    | [x],d,j=>
      simp only[ag,and_true] at d;simp only[aj];refine⟨h,(cF hb).1,_,_,_,x,?_,?_,(ajs.1 v).1,d,j⟩
      .simp
      rintro(⟨r',h1,h2,h3,h4⟩ | Lz)
      . by_cases e:r'=r
        .subst e;simp[aD] at h2
        exact f.inj r' r e h1 (by simp[aD,bC]) h3 o h4
      exact f.vE r (by simp[aD,bC]) o Lz
    | [],d,_=>simp[ag] at d
    | _::_::_,d,_=>simp[ag] at d
   exact absurd a aq
  exact absurd a aq
 exact⟨c,O,a,hv,Le.refl _,l⟩
theorem uw {a:Go.Act} (ht: ∀t,aj X μ (T t) (a.tmps.getD t undef)): ∀ {xs:List Operand} {ys:List ba} {c:List Bool} {k:List V->Act} {O:Nat->Obj} {p:V×St},pO X xs=some ys->c.length=ys.length->
   bq X ⟨μ.w,μ.φ,O⟩->Le μ ⟨μ.w,μ.φ,O⟩->(lX (c.zip ys) k).run C ⟨T,O⟩=some p->
   ∃cs O',(k cs).run C ⟨T,O'⟩=some p/\ag X ⟨μ.w,μ.φ,O'⟩ cs (xs.map a.eval)/\Le ⟨μ.w,μ.φ,O⟩ ⟨μ.w,μ.φ,O'⟩/\bq X ⟨μ.w,μ.φ,O'⟩
 | [],ys,c,k,O,p,h,hl,e,le,d=>by
   simp[pO] at h;subst h;simp only[List.zip_nil_right,lX] at d;exact⟨[],O,d,by simp[ag],Le.refl _,e⟩
 | x::xs,ys,c,k,O,p,h,hl,e,le,d=>by
   simp only[pO] at h;split at h
   .rename_i y g h1 h2;injection h with h;subst h
    match c,hl with
    | b::c,hl=>
      simp only[List.zip_cons_cons,lX,bF] at d;have hx:=aX (μ:=⟨μ.w,μ.φ,O⟩) ⟨fun t=>aj.mono le (ht t),e⟩ h1 O;obtain⟨i,O1,j,l,f,m⟩:=GA e hx d;obtain⟨cs,O2,n,o,g3,g4⟩:=uw ht h2 (by simpa using hl) m (le.trans f) j;refine⟨i::cs,O2,n,?_,f.trans g3,g4⟩;simp only[List.map_cons,ag];exact⟨aj.mono g3 l,o⟩
   simp at h
theorem GB {f:FuncId} {first caps:Array Operand} {n:Nat} {cs:List ba} {b:Operand->Bool} (hr:Rel X T a μ) (d:o.op= .makeFunc (.func f) first caps) (Am:first.isEmpty=true)
  (hn:X.gA f=some n) (ht:pO X caps.toList=some cs) (c: (aQ E (.vY n ((caps.toList.map b).zip cs))).run C ⟨T,μ.O⟩=some (v,σ')):σ'.T=T/\dg X o a μ σ'.O v:=by
 simp only[aQ] at c;have hl: (caps.toList.map b).length=cs.length:=by have:=(pP hr μ.O ht).length;simpa using this.symm
 obtain⟨vs,O',h1,h2,h3,h4⟩:=uw hr.tmps ht hl hr.bp (Le.refl _) c;obtain⟨rfl,rfl⟩:=bn h1;obtain rfl:first= #[]:=by simpa using Am
 refine⟨rfl,.func (.func f) #[] (caps.map a.eval),μ.w,μ.φ,.inl ?_,?_,h3,h4⟩
 .simp[execOp,d,Instr.makeFunc,Sem.run_bind]
 .simp only[aj];exact⟨f,_,rfl,hn,by simpa using h2⟩
end
end Go.AM
namespace Go.AM
open Go Go.RowKit
theorem ux {α:Type} (L:List α) (p:Nat) (x:α) (h:p<L.length):L.set p x=db L p [x]:=by
 apply akp;intro q;rw[gC (by simp;omega),akz];by_cases a:q<p
 .simp[a];omega
 by_cases OS:p=q
 .subst OS;simp[h]
 have: ¬q<p+1:=ajk;simp[a,OS,this]
theorem cG {α:Type} (xs:Array α):xs.toList.length=xs.size:=ajI
section
variable {X:Ctx} {E:Env} {C:bB} {o:Oper} {a:Go.Act} {T:Nat->V} {μ:Mu} {v:V} {σ':St}
theorem Jc {agg:Bool} {off sz:Nat} {e u e':V} {x val:Value} (he:aj X μ e x) (hl:e.dw=true) (d:aj X μ u val) (h:lW agg off sz e u=some e'):
  ∃x',aj X μ e' x'/\e'.dw=true/\e'.cells.length=e.cells.length/\val.cells.size=sz/\off+sz<=x.cells.size/\x'.cells.toList=db x.cells.toList off val.cells.toList/\
   ∀c ∈ val.cells.toList,c.oneCell'=true:=by
 unfold lW at h;split at h
 .split at h
  .rename_i cs vs;split at h<;>simp at h
   rename_i hc;subst h;simp only[aj] at he d;obtain⟨h0,xs,rfl,hx⟩:=he;obtain⟨l,n,rfl,hy⟩:=d;have m:=hx.length;have o:=hy.length;rw[cG xs] at m;rw[cG n] at o;refine⟨.agg (db xs.toList off n.toList).toArray,?_,rfl,?_,?_,?_,?_,?_⟩
   .simp only[aj];refine⟨?_,_,rfl,?_⟩
    .have t1:=mH (p:=V.aZ) off h0;have t2:=pQ (p:=V.aZ) (off+sz) h0;simp only[akL,t1,l,t2,akh]
    have:=((ag.take off hx).append hy).append (ag.drop (off+sz) hx);simpa [db,<-o,hc.1] using this
   .simp[V.cells];omega
   .simp only[Value.cells];omega
   .simp only[Value.cells];omega
   .simp[Value.cells]
   intro c a;simp only[Value.cells] at a;obtain⟨j,q⟩:=ajH a;have r:j<vs.length:=by rw[hy.length];exact(ajp.1 q).1
   obtain⟨t,i,s⟩:=hy.get (aju r);rw[q] at i;injection i with i;subst i;simp only[ajx] at l;exact(s.qz (l _ (aky r))).1
  simp at h
 split at h
 .rename_i b;obtain⟨Df,f⟩:=d.qz b.1;have Nn: ∀c ∈ val.cells.toList,c.oneCell'=true:=by rw[f];simpa using Df
  split at h
  .rename_i cs;split at h<;>simp at h
   rename_i Lu;subst h;simp only[aj] at he;obtain⟨h0,xs,rfl,hx⟩:=he;have m:=hx.length;rw[cG xs] at m;refine⟨.agg (xs.toList.set off val).toArray,?_,rfl,?_,?_,?_,?_,Nn⟩
   .simp only[aj];refine⟨?_,_,rfl,by simpa using ag.set hx off d⟩;simp only[ajx] at h0 ⊢;intro c a;rcases ajT a with hm| rfl
    .exact h0 c hm
    exact b.1
   .simp[V.cells]
   .rw[f,b.2];rfl
   .simp only[Value.cells];omega
   rw[f];simp only[Value.cells];rw[ux _ _ _ (by rw[ajI];omega)]
  split at h<;>simp at h
  rename_i bW k;subst h;obtain⟨_,g⟩:=he.qz k.1;refine⟨val,d,by simp[V.dw,b.1],?_,?_,?_,?_,Nn⟩
  .rw[V.jo b.1,V.jo k.1];rfl
  .rw[f,b.2];rfl
  .rw[g,b.2,k.2];simp
  rw[f,g,k.2];simp[db]
 simp at h
theorem GC {t:TypeId} {w:World} {g q sz:Nat} {a:Array Value} {T0:TypeId} {val:Value} (hn:bU X t=some sz) (hg:w.heap[g]? =some (.cells a T0 (0,0)))
  (hs:val.cells.size=sz) (hl:q+sz<=a.size) (h1: ∀c ∈ val.cells.toList,c.oneCell'=true):
  (storeVar t ⟨g,q,none⟩ val).run X.P w= .ok () (w.setRow g (db a.toList q val.cells.toList).toArray):=by
 have:=kS (P:=X.P) hg val.cells.toList (by rw[ajI,hs];exact hl) h1;simp[storeVar,Sem.run_bind,fJ hn,hs,this]
theorem zu {t:TypeId} {agg:Bool} {sz r g idx off:Nat} {u:V} {val:Value} {O:Nat->Obj} (n:bq X ⟨μ.w,μ.φ,O⟩) (D:aj X ⟨μ.w,μ.φ,O⟩ u val) (hn:bU X t=some sz) (h0:0 < (O r).sz)
  (a: (aQ.mQ agg sz r g idx off u).run C ⟨T,O⟩=some (v,σ')):
  σ'.T=T/\v= .tuple []/\ ∃w' φ',(storeVar t ⟨(μ.φ r).cj,(μ.φ r).base+idx*(O r).sz+off,none⟩ val).run X.P μ.w= .ok () w'/\Le ⟨μ.w,μ.φ,O⟩ ⟨w',φ',σ'.O⟩/\bq X ⟨w',φ',σ'.O⟩:=by
 simp only[aQ.mQ,Act.run] at a;split at a
 .rename_i es bC;split at a
  .rename_i hc;split at a
   .rename_i e he;split at a
    .rename_i e' hp;simp only[Act.run,ajq,ajv] at a;obtain⟨rfl,rfl⟩:=a;obtain⟨E,o,d,f⟩:=n.row r es bC h0;simp only at E o d f;have W:idx<es.length:=(ajp.1 he).1;have h: (μ.φ r).cap≠0:=ajk;rcases f with f| ⟨c,T0,vs,hb,F,p,G⟩
     .exact absurd f h
     obtain⟨x,hx,s⟩:=p.get he;have H:bj e (O r).sz=true:=by simp only[ajx] at d;exact d e (List.mem_of_getElem? he)
     obtain⟨A,B⟩:=cF H;obtain⟨x',I,J,K,k,Y,L,M⟩:=Jc s A D hp;have Mf:x.cells.size=(O r).sz:=by rw[s.gB A,B]
     have Ep:eo c.toList (μ.φ r).base (O r).sz vs:=kR hb G;have b: (idx+1)*(O r).sz<=(μ.φ r).cap*(O r).sz:=akb _ ajk;have l: (μ.φ r).base+(idx+1)*(O r).sz<=c.toList.length:=by rw[ajI];omega
     have N:=Ep.put (x':=x') hx l (m:=val.cells.toList) (by rw[ajI,k];omega) L;have Q:=GC (X:=X) (t:=t) (q:=(μ.φ r).base+idx*(O r).sz+off) (val:=val) hn hb k (by rw[aj4] at b;omega) M;have hw:=mG (μ:=⟨μ.w,μ.φ,O⟩) n r bC hc.2 hb h (c':=(db c.toList ((μ.φ r).base+idx*(O r).sz+off) val.cells.toList).toArray)
      (by have: (db c.toList ((μ.φ r).base+idx*(O r).sz+off) val.cells.toList).length=c.toList.length:=gR (by rw[ajI,ajI,k];rw[aj4] at b;omega);simpa using this)
      (O r).gen (μ.φ r).base (μ.φ r).cap (es':=es.set idx e') (vs':=vs.set idx x') (.inl ⟨rfl,rfl,rfl⟩) h (by simpa using o)
      (by
        simp only[ajx] at d ⊢;intro y hy;rcases ajT hy with hm| rfl
        .exact d y hm
        .simp[bj,J,K,B])
      (ag.set p idx I) F (fun i y hy=>by obtain⟨R,S⟩:=N i y hy;exact⟨R,fun j z U=>by simpa using S j z U⟩)
     refine⟨rfl,rfl,_,_,Q,hw.1,hw.2⟩
    exact absurd a aq
   exact absurd a aq
  exact absurd a aq
 exact absurd a aq
theorem T2 {t:TypeId} {x y:Operand} {x' h:ba} {agg:Bool} {sz:Nat} (hr:Rel X T a μ) (j:o.op= .store t x y) (h1:dy X x=some x') (h2:dy X y=some h)
  (hn:bU X t=some sz) (b: (aQ E (.store agg sz x' h)).run C ⟨T,μ.O⟩=some (v,σ')):σ'.T=T/\dg X o a μ σ'.O v:=by
 simp only[aQ,bF] at b;have hx:=aX hr h1 μ.O;have hy:=aX hr h2 μ.O;split at b
 .rename_i r g idx off e;rw[e] at hx;simp only[aj] at hx;obtain⟨p,hp,H,i⟩:=hx;have fin: ∀w',(storeVar t p (a.eval y)).run X.P μ.w= .ok () w'->(execOp a.eval o).run X.P μ.w= .ok .skip w':=fun w' hw=>by simp only[execOp,j];refine Ck ?_;simp[Instr.storeAt,Instr.sureAddr,Sem.run_bind,hp,hw]
  have c: ∀ {O:Nat->Obj} {u:V},Le μ ⟨μ.w,μ.φ,O⟩->bq X ⟨μ.w,μ.φ,O⟩->aj X ⟨μ.w,μ.φ,O⟩ u (a.eval y)->(aQ.mQ agg sz r g idx off u).run C ⟨T,O⟩=some (v,σ')->
    σ'.T=T/\dg X o a μ σ'.O v:=by
   intro O u le k l d;have m: (O r).gen=g:=by
    simp only[aQ.mQ,Act.run] at d;split at d
    .split at d
     .rename_i hc;exact hc.1
     exact absurd d aq
    exact absurd d aq
   have f:=le.gen r;simp only at f;have FI: (μ.O r).gen=g:=ajk;obtain⟨_,GD⟩:=le.row r (by simp only;omega);obtain⟨n,q,w',φ',s,z,A⟩:=zu (t:=t) k l hn (by simp only at GD;rw[GD];exact(i FI).1) d;refine⟨n,undef,w',φ',.inr ⟨fin w' ?_,rfl⟩,?_,le.trans z,A⟩
   .rw[(i FI).2];simp only at GD;rw[<-GD];exact s
   rw[q];simp only[aj];exact⟨#[],rfl,by simp[ag]⟩
  simp only[Act.run] at b;split at b
  .rw[bF] at b;obtain⟨u,O1,B,D,F,G⟩:=kH (μ:=μ) hr.bp hy b;exact c F G D B
  rw[bF] at b;exact c (Le.refl μ) hr.bp hy b
 exact absurd b aq
theorem Pu {t:TypeId} {x y:Operand} {x' h:ba} {agg:Bool} {sz:Nat} (hr:Rel X T a μ) (j:o.op= .store t x y) (h1:dy X x=some x') (h2:dy X y=some h)
  (hn:bU X t=some sz) (c: (aQ E (.A7 agg sz x' h)).run C ⟨T,μ.O⟩=some (v,σ')):σ'.T=T/\dg X o a μ σ'.O v:=by
 simp only[aQ,bF] at c;have hx:=aX hr h1 μ.O;have hy:=aX hr h2 μ.O;split at c
 .rename_i r g idx off e;rw[e] at hx;simp only[aj] at hx;obtain⟨p,hp,B,i⟩:=hx;have fin: ∀w',(storeVar t p (a.eval y)).run X.P μ.w= .ok () w'->(execOp a.eval o).run X.P μ.w= .ok .skip w':=fun w' hw=>by simp only[execOp,j];refine Ck ?_;simp[Instr.storeAt,Instr.sureAddr,Sem.run_bind,hp,hw]
  have d: ∀ {O:Nat->Obj} {u:V},Le μ ⟨μ.w,μ.φ,O⟩->bq X ⟨μ.w,μ.φ,O⟩->aj X ⟨μ.w,μ.φ,O⟩ u (a.eval y)->(aQ.mQ agg sz r g idx off u).run C ⟨T,O⟩=some (v,σ')->
    σ'.T=T/\dg X o a μ σ'.O v:=by
   intro O u le k l b;have m: (O r).gen=g:=by
    simp only[aQ.mQ,Act.run] at b;split at b
    .split at b
     .rename_i hc;exact hc.1
     exact absurd b aq
    exact absurd b aq
   have f:=le.gen r;simp only at f;have FI: (μ.O r).gen=g:=ajk;obtain⟨_,GD⟩:=le.row r (by simp only;omega);obtain⟨n,q,w',φ',s,z,A⟩:=zu (t:=t) k l hn (by simp only at GD;rw[GD];exact(i FI).1) b;refine⟨n,undef,w',φ',.inr ⟨fin w' ?_,rfl⟩,?_,le.trans z,A⟩
   .rw[(i FI).2];simp only at GD;rw[<-GD];exact s
   rw[q];simp only[aj];exact⟨#[],rfl,by simp[ag]⟩
  rw[bF] at c;exact d (Le.refl μ) hr.bp hy c
 exact absurd c aq
theorem EN {off:Nat}: ∀ (m:List Value) (k:Nat) (cs:Array Value),off+k+m.length<=cs.size->
   ((m.zipIdx k).foldl (fun cs (p:Value×Nat)=>cs.setIfInBounds (off+p.2) p.1) cs).toList=db cs.toList (off+k) m
 | [],k,cs,_=>by simp[db]
 | x::m,k,cs,h=>by
   simp only[List.zipIdx_cons,List.foldl_cons];simp at h;rw[EN m (k+1) _ (by simp;omega)];rw[Array.toList_setIfInBounds];apply akp;intro q;rw[gC (by simp;omega),gC (by simp;omega),akz];by_cases h1:q<off+k
   .have:q<off+(k+1):=ajk;have h2: ¬off+k=q:=ajk;simp[h1,this,h2]
   by_cases h2:q=off+k
   .subst h2;have h3:off+k<off+(k+1):=ajk;have h4:off+k<cs.size:=ajk;simp[h3,h4]
   by_cases h3:q<off+k+(m.length+1)
   .have h4: ¬q<off+(k+1):=ajk;have h5:q<off+(k+1)+m.length:=ajk;have h6:q - (off+k)=(q - (off+(k+1)))+1:=ajk;simp[h1,h4,h3,h5,h6]
   have h4: ¬q<off+(k+1):=ajk;have h5: ¬q<off+(k+1)+m.length:=ajk;have h6: ¬off+k=q:=ajk;simp[h1,h4,h3,h5,h6]
theorem EO {off:Nat} {x:Value} {cs:Array Value} (h:off+x.cells.size<=cs.size):
  (x.cells.zipIdx.foldl (fun cs (p:Value×Nat)=>cs.setIfInBounds (off+p.2) p.1) cs).toList=db cs.toList off x.cells.toList:=by
 rw[<-Array.foldl_toList,Array.toList_zipIdx];have:=EN (off:=off) x.cells.toList 0 cs (by rw[ajI];omega);simpa using this
theorem Jd {place:Nat->Option (Nat×Nat)}: ∀ {ps:List (Nat×Nat×V)} {qs:List (Nat×Value)} {cs a:List V} {xs:Array Value},
   (ps.length=qs.length)->(∀ (i:Nat) p q,ps[i]? =some p->qs[i]? =some q->place q.1=some (p.1,p.2.1)/\aj X μ p.2.2 q.2)->ag X μ cs xs.toList->cs.all V.aZ=true->
   kq cs ps=some a-> ∃Tx,Instr.fill place xs qs=some Tx/\ag X μ a Tx.toList/\a.all V.aZ=true
 | [],[],cs,a,xs,_,_,hv,hc,h=>by
   simp[kq] at h;subst h;exact⟨xs,rfl,hv,hc⟩
 | [],_::_,_,_,_,h,_,_,_,_=>by simp at h
 | _::_,[],_,_,_,h,_,_,_,_=>by simp at h
 | (off,sz,u)::ps,(i,q)::qs,cs,a,xs,hl,hp,hv,hc,h=>by
   simp only[kq] at h;split at h
   . rename_i d
     obtain⟨h1,h2,h3⟩:=d;obtain⟨T3,b⟩:=hp 0 _ _ rfl rfl;simp only at T3 b;have c:q.cells.size=sz:=by rw[b.gB h3,h1]
     have hlen:=hv.length;rw[cG xs] at hlen;have jg:off+q.cells.size<=xs.size:=ajk;have e:=EO (x:=q) (cs:=xs) jg;have M0:ag X μ (cs.take off++u.cells++cs.drop (off+sz)) (q.cells.zipIdx.foldl (fun cs (p:Value×Nat)=>cs.setIfInBounds (off+p.2) p.1) xs).toList:=by rw[e];have:=((ag.take off hv).append (b.cells h3)).append (ag.drop (off+sz) hv);simpa [db,c] using this
     have f: (cs.take off++u.cells++cs.drop (off+sz)).all V.aZ=true:=by have t1:=mH (p:=V.aZ) off hc;have t2:=pQ (p:=V.aZ) (off+sz) hc;simp only[akL,t1,b.mw h3,t2,akh]
     obtain⟨Tx,g,k,g3⟩:=Jd (place:=place) (ps:=ps) (qs:=qs) (by simpa using hl) (fun j p l m n=>hp (j+1) p l (by simpa using m) (by simpa using n)) M0 f h;refine⟨Tx,?_,k,g3⟩;have LA: ¬ (q.cells.size≠sz\/xs.size<off+q.cells.size):=ajk;simp only[Instr.fill,T3];rw[if_neg (by simpa using LA)];exact g
   simp at h
end
end Go.AM
namespace Go.AM
open Go Go.RowKit
theorem uy {α β:Type} {P:Program} {w:World} {f:α->Sem β} {g:α->β}: ∀ (l:List α),(∀x ∈ l,(f x).run P w= .ok (g x) w)->(l.mapM f).run P w= .ok (l.map g) w
 | [],_=>ajl
 | x::l,h=>by have h1:=h x ajl;have h2:=uy (f:=f) (g:=g) l fun y hy=>h y (by simp[hy]);simp[List.mapM_cons,Sem.run_bind,h1,h2]
theorem Co {α β:Type} {P:Program} {w:World} {f:α->Sem β} {g:α->β} (l:Array α) (h: ∀x ∈ l.toList,(f x).run P w= .ok (g x) w): (l.mapM f).run P w= .ok (l.map g) w:=by
 have:=uy l.toList h;rw[Array.mapM_eq_mapM_toList];simp only[map_eq_pure_bind,Sem.run_bind,this,Result.andThen_ok,Sem.run_pure];congr 1
 apply Array.ext';simp
section
variable {X:Ctx} {E:Env} {C:bB} {o:Oper} {a:Go.Act} {T:Nat->V} {μ:Mu} {v:V} {σ':St}
theorem zw: ∀ (ps:List (Nat×Nat×ba)) (k:List (Nat×Nat×V)->Act) (σ:St),(nU ps k).run C σ=(k (ps.map fun p=> (p.1,p.2.1,bE σ p.2.2))).run C σ
 | [],_,_=>rfl
 | (_,_,x)::ps,k,σ=>by simp only[nU,bF,zw ps,List.map_cons]
theorem zx (hr:Rel X T a μ) (O:Nat->Obj) {place:Nat->Option (Nat×Nat)}: ∀ {ps:List (Nat×Operand)} {aL:List (Nat×Nat×ba)},my X place ps=some aL->
   aL.length=ps.length/\ ∀ (i:Nat) p q,aL[i]? =some p->ps[i]? =some q->place q.1=some (p.1,p.2.1)/\aj X μ (bE ⟨T,O⟩ p.2.2) (a.eval q.2)
 | [],aL,h=>by simp[my] at h;subst h;simp
 | (i,x)::ps,aL,h=>by
   simp only[my] at h;split at h
   . rename_i off sz y c h1 h2 h3
     injection h with h;subst h;obtain⟨d,e⟩:=zx hr O h3;refine⟨by simp[d],fun j p q hp b=> ?_⟩;cases j with
     | zero=>simp at hp b;subst hp;subst b;exact⟨h1,aX hr h2 O⟩
     | succ j=>exact e j p q (by simpa using hp) (by simpa using b)
   simp at h
theorem Cp (ks:List Nat) (hr:Rel X T a μ) {t:TypeId} {z:List V} (e:fW X t=some (.agg z)) {place:Nat->Option (Nat×Nat)} {parts:Array (Nat×Operand)} {aL:List (Nat×Nat×ba)}
  (hp:my X place parts.toList=some aL) (b: (aQ E (.build (Fj ks z) aL)).run C ⟨T,μ.O⟩=some (v,σ')):
  σ'=⟨T,μ.O⟩/\ ∃zv cells,(zeroValue t).run X.P μ.w= .ok zv μ.w/\Instr.fill place zv.cells (parts.map fun (i,x)=> (i,a.eval x)).toList=some cells/\aj X μ v (.agg cells):=by
 simp only[aQ,zw] at b;obtain⟨zv,f,CW⟩:=jk e μ.w;obtain⟨Cq,_⟩:=fk (X:=X) (μ:=μ) CW;simp only[aj] at Cq;obtain⟨h0,xs,rfl,Mf⟩:=Cq;obtain⟨g,h⟩:=zx hr μ.O hp;split at b
 .rename_i cs k;obtain⟨rfl,rfl⟩:=bn b;have key:=Jd (X:=X) (μ:=μ) (place:=place) (ps:=aL.map fun p=> (p.1,p.2.1,bE ⟨T,μ.O⟩ p.2.2)) (qs:=(parts.map fun (i,x)=> (i,a.eval x)).toList) (xs:=xs)
   (by simp[g]) (fun j p q hp d=>by simp only[ajF,ajr] at hp;obtain⟨l,Gm,rfl⟩:=hp;rw[alD,ajF,ajr] at d;obtain⟨m,c,rfl⟩:=d;exact h j l m Gm c) (Mf.Fj ks) (vt ks h0) k
  obtain⟨Tx,n,o,g3⟩:=key;exact⟨rfl,_,Tx,f,n,by simp only[aj];exact⟨g3,Tx,rfl,o⟩⟩
 exact absurd b aq
theorem Pv (ks:List Nat) {t:TypeId} {parts:Array (Nat×Operand)} {z:List V} {fs:Array Field} {aL:List (Nat×Nat×ba)} (hr:Rel X T a μ) (c:o.op= .build t parts) (d:fW X t=some (.agg z))
  (hd:bP X t=some (.struct fs)) (b:fs.toList.all (fun f=> (bU X f.type).isSome)=true)
  (hp:my X (fun i=>match fs[i]? with| some f=> (bU X f.type).map fun s=> (f.offset,s) | none=>none) parts.toList=some aL)
  (e: (aQ E (.build (Fj ks z) aL)).run C ⟨T,μ.O⟩=some (v,σ')):σ'.T=T/\dg X o a μ σ'.O v:=by
 obtain⟨rfl,k,cells,h1,h2,h3⟩:=Cp ks hr d hp e;refine⟨rfl,aU hr.bp ?_ h3⟩;simp only[execOp,c];refine dQ ?_;have h:X.P.underlying t=some (.struct fs):=hd;have hm:=Co (P:=X.P) (w:=μ.w) (f:=fun f:Field=>do pure (f.offset,<-sizeOf f.type)) (g:=fun f:Field=> (f.offset,(bU X f.type).getD 0)) fs (fun f hf=>by simp only[ajx] at b;obtain⟨s,hs⟩:=ajz.1 (b f hf);simp[Sem.run_bind,fJ hs,hs]);have j: (fun (i:Nat)=> (fs.map fun (f:Field)=> (f.offset,(bU X f.type).getD 0))[i]?)=fun (i:Nat)=>match fs[i]? with| some f=> (bU X f.type).map fun s=> (f.offset,s) | none=>none:=by
  funext i;rw[Array.getElem?_map];cases hf:fs[i]? with
  | none=>rfl
  | some f=>
    simp only[ajx] at b;obtain⟨s,hs⟩:=ajz.1 (b f (by simpa using Array.mem_of_getElem? hf));simp[hs]
 simp only[Instr.build,Sem.run_bind,h1,Result.andThen_ok,run_underlying h,hm,j,h2,Sem.run_pure]
theorem Px (ks:List Nat) {t e:TypeId} {n s:Nat} {parts:Array (Nat×Operand)} {z:List V} {aL:List (Nat×Nat×ba)} (hr:Rel X T a μ) (b:o.op= .build t parts) (c:fW X t=some (.agg z))
  (hd:bP X t=some (.array n e)) (hs:bU X e=some s) (hp:my X (fun i=>some (i*s,s)) parts.toList=some aL)
  (d: (aQ E (.build (Fj ks z) aL)).run C ⟨T,μ.O⟩=some (v,σ')):σ'.T=T/\dg X o a μ σ'.O v:=by
 obtain⟨rfl,g,cells,h1,h2,h3⟩:=Cp ks hr c hp d;refine⟨rfl,aU hr.bp ?_ h3⟩;simp only[execOp,b];refine dQ ?_;have f:X.P.underlying t=some (.array n e):=hd;simp only[Instr.build,Sem.run_bind,h1,Result.andThen_ok,run_underlying f,fJ hs,h2,Sem.run_pure]
theorem uz (hr:Rel X T a μ): ∀ {ps:List (Nat×Operand)} {aL:List (Nat×ba)} {k:List (Nat×V)->Act} {O:Nat->Obj} {p:V×St},tx X ps=some aL->Le μ ⟨μ.w,μ.φ,O⟩->bq X ⟨μ.w,μ.φ,O⟩->
   (kP aL k).run C ⟨T,O⟩=some p->
   ∃vs O',(k vs).run C ⟨T,O'⟩=some p/\vs.length=ps.length/\Le ⟨μ.w,μ.φ,O⟩ ⟨μ.w,μ.φ,O'⟩/\bq X ⟨μ.w,μ.φ,O'⟩/\
     ∀ (i:Nat) q c,vs[i]? =some q->ps[i]? =some c->q.1=c.1/\aj X ⟨μ.w,μ.φ,O'⟩ q.2 (a.eval c.2)
 | [],aL,k,O,p,h,le,e,d=>by
   simp[tx] at h;subst h;exact⟨[],O,d,rfl,Le.refl _,e,ajl⟩
 | (i,x)::ps,aL,k,O,p,h,le,e,d=>by
   simp only[tx] at h;split at h
   . rename_i y l h1 h2
     injection h with h;subst h;simp only[kP,bF] at d;have hx:aj X ⟨μ.w,μ.φ,O⟩ (bE ⟨T,O⟩ y) (a.eval x):=by have:=aj.mono le (aX hr h1 O);exact this
     obtain⟨u,O1,m,n,g,o⟩:=kH (μ:=μ) e hx d;obtain⟨vs,O2,r,s,g3,g4,g5⟩:=uz hr h2 (le.trans g) o m;refine⟨(i,u)::vs,O2,r,by simp[s],g.trans g3,g4,fun j q c f b=> ?_⟩;cases j with
     | zero=>simp at f b;subst f;subst b;exact⟨rfl,aj.mono g3 n⟩
     | succ j=>exact g5 j q c (by simpa using f) (by simpa using b)
   simp at h
theorem yG {α:Type} (L:List α) (i:Nat) (x:α) (h:i<L.length):L.set i x=L.take i++[x]++L.drop (i+1):=by rw[ux L i x h];rfl
theorem uA {sz:Nat}: ∀ {vs:List (Nat×V)} {qs:List (Nat×Value)} {es es':List V} {us:List Value} {c:Array Value},vs.length=qs.length->
   (∀ (i:Nat) p q,vs[i]? =some p->qs[i]? =some q->p.1=q.1/\aj X μ p.2 q.2)->ag X μ es us->eo c.toList 0 sz us->c.size=us.length*sz->es.all (bj · sz)=true->
   eD sz es vs=some es'-> ∃c' Vf,Instr.fill (fun i=>some (i*sz,sz)) c qs=some c'/\ag X μ es' Vf/\eo c'.toList 0 sz Vf/\c'.size=Vf.length*sz/\
     es'.all (bj · sz)=true/\es'.length=es.length
 | [],[],es,es',us,c,_,_,hv,hs,hc,hb,h=>by
   simp[eD] at h;subst h;exact⟨c,us,rfl,hv,hs,hc,hb,rfl⟩
 | [],_::_,_,_,_,_,h,_,_,_,_,_,_=>by simp at h
 | _::_,[],_,_,_,_,h,_,_,_,_,_,_=>by simp at h
 | (i,u)::vs,(B,q)::qs,es,es',us,c,hl,hp,hv,hs,hc,hb,h=>by
   simp only[eD] at h;split at h
   . rename_i o
     obtain⟨hi,l⟩:=o;obtain⟨m,b⟩:=hp 0 _ _ rfl rfl;simp only at m b;subst m;obtain⟨r,s⟩:=cF l;have d:q.cells.size=sz:=by rw[b.gB r,s]
     have e:i<us.length:=by rw[<-hv.length];exact hi
     have a: (i+1)*sz<=us.length*sz:=akb _ ajk;rw[aj4] at a;have jg:i*sz+q.cells.size<=c.size:=ajk;have n:=EO (x:=q) (cs:=c) jg;have f:flat [q]=q.cells.toList:=by simp[flat]
     have hw:=hs.write (k:=i) (us:=[q]) ajk (by simpa using d) (by rw[cG];simp;omega);rw[f,akg] at hw;have FF:us.take i++[q]++us.drop (i+[q].length)=us.set i q:=(yG us i q e).symm;rw[FF,<-n] at hw;have bM: (q.cells.zipIdx.foldl (fun cs (p:Value×Nat)=>cs.setIfInBounds (i*sz+p.2) p.1) c).size=(us.set i q).length*sz:=by rw[<-cG,n,gR (by rw[cG,cG];exact jg),cG];simpa using hc
     have g: (es.set i u).all (bj · sz)=true:=by
      simp only[ajx] at hb ⊢;intro y hy;rcases ajT hy with hm| rfl
      .exact hb y hm
      exact l
     obtain⟨c',Vf,t,v,g3,g4,g5,g6⟩:=uA (vs:=vs) (qs:=qs) (by simpa using hl) (fun j p w z A=>hp (j+1) p w (by simpa using z) (by simpa using A)) (ag.set hv i b) hw bM g h;refine⟨c',Vf,?_,v,g3,g4,g5,by simpa using g6⟩;have LA: ¬ (q.cells.size≠sz\/c.size<i*sz+q.cells.size):=ajk;simp only[Instr.fill];rw[if_neg (by simpa using LA)];exact t
   simp at h
theorem vv {t e:TypeId} {n sz r:Nat} {parts:Array (Nat×Operand)} {z:V} (hr:Rel X T a μ) (B:o.op= .buildSlice t n parts) (hd:bP X t=some (.slice e))
  (hn:bU X e=some sz) (D:fW X e=some z) (E: ∃vs O',(match eD sz (List.replicate n z) vs with
    | some es=>if bj z sz &&decide (0 <sz/\n*sz<=16777216) then AM.Act.bV r fun o=>AM.Act.bS r {gen:=o.gen+1,sz,arr:=true,fz:=false,es:=some es} (.done (.sl r (o.gen+1) 0 n)) else AM.Act.fail
    | none=>AM.Act.fail).run C ⟨T,O'⟩=some (v,σ')/\vs.length=parts.toList.length/\Le μ ⟨μ.w,μ.φ,O'⟩/\bq X ⟨μ.w,μ.φ,O'⟩/\
    ∀ (i:Nat) q d,vs[i]? =some q->parts.toList[i]? =some d->q.1=d.1/\aj X ⟨μ.w,μ.φ,O'⟩ q.2 (a.eval d.2)):σ'.T=T/\dg X o a μ σ'.O v:=by
 obtain⟨vs,O1,b,F,G,H,I⟩:=E;split at b
 .rename_i es bC;split at b
  . rename_i hc
    simp only[ajt,decide_eq_true_eq] at hc;obtain⟨T4,bM,Je⟩:=hc;simp only[Act.run,ajq,ajv] at b;obtain⟨rfl,rfl⟩:=b;refine⟨rfl,?_⟩;obtain⟨f,J,CW⟩:=jk D μ.w;obtain⟨Cq,LB⟩:=fk (X:=X) (μ:=⟨μ.w,μ.φ,O1⟩) CW;have T5:f.cells.size=sz:=by rw[Cq.gB LB,(cF T4).2]
    obtain⟨K,L⟩:=Jb (n:=n) T5;have g: (List.replicate n z).all (bj · sz)=true:=by simp only[ajx,List.mem_replicate];rintro y ⟨_,rfl⟩;exact T4
    obtain⟨M,Vf,l,m,g3,g4,g5,g6⟩:=uA (X:=X) (μ:=⟨μ.w,μ.φ,O1⟩) (sz:=sz) (vs:=vs) (qs:=(parts.map fun (i,x)=> (i,a.eval x)).toList) (by simp[F]) (fun j p q N s=>by rw[alD,ajF,ajr] at s;obtain⟨d,h,rfl⟩:=s;exact I j p d N h) (ag.replicate Cq n) L (by rw[K];simp) g bC;have hlen:es.length=n:=by simpa using g6
    have Q:Vf.length=n:=by rw[<-m.length];exact hlen
    obtain⟨LC,Yr⟩:=Gu (X:=X) (μ:=⟨μ.w,μ.φ,O1⟩) H r sz n true (es:=es) (vs:=Vf) (c:=M) e bM ajk g5 m (by rw[g4,Q];exact ajw _) (fun i u R=>by obtain⟨S,U⟩:=g3 i u R;exact⟨S,fun j x hx=>by simpa using U j x hx⟩);refine⟨.slice (some ⟨μ.w.heap.size,0,none⟩) n n,_,_,.inl ?_,?_,G.trans LC,Yr⟩
    .simp only[execOp,B];refine dQ ?_;have W:X.P.underlying t=some (.slice e):=hd;have k: ¬n*sz >2 ^ 24:=by have: (2:Nat) ^ 24=16777216:=ajm;omega
     simp only[Instr.buildSlice,Sem.run_bind,run_underlying W,Result.andThen_ok,fJ hn];rw[if_neg k];have A: ∀zero:Array Value,(n*sz=0\/zero=f.cells)->(Array.range (n*sz)).map (fun i=>zero[i % zero.size]!)=(Array.range (n*sz)).map (fun i=>f.cells[i % f.cells.size]!):=by
      rintro zero (h0| rfl)
      .have Z0:Array.range 0= #[]:=rfl;rw[h0,Z0];simp
      rfl
     by_cases Mx:n*sz=0
     .rw[if_pos Mx];simp only[Sem.run_bind,Sem.run_pure,Result.andThen_ok];rw[A #[] (.inl Mx),l];simp only[newRow,Sem.run_bind,run_newObj,Result.andThen_ok,Sem.run_pure];rfl
     rw[if_neg Mx];simp only[Sem.run_bind,J,Result.andThen_ok,Sem.run_pure];rw[A f.cells (.inr rfl),l];simp only[newRow,Sem.run_bind,run_newObj,Result.andThen_ok,Sem.run_pure];rfl
    simp only[aj,aD];exact⟨_,_,rfl,ajw _,ajw _,fun _=> ⟨bM,ajl,ajl⟩⟩
  exact absurd b aq
 exact absurd b aq
theorem Dp {t e:TypeId} {n sz r:Nat} {parts:Array (Nat×Operand)} {z:V} {aL:List (Nat×ba)} (hr:Rel X T a μ) (c:o.op= .buildSlice t n parts) (hd:bP X t=some (.slice e))
  (hn:bU X e=some sz) (d:fW X e=some z) (hp:tx X parts.toList=some aL) (b: (aQ E (.buildSlice r sz z n aL)).run C ⟨T,μ.O⟩=some (v,σ')):σ'.T=T/\dg X o a μ σ'.O v:=by
 simp only[aQ] at b;exact vv hr c hd hn d (uz hr hp (Le.refl μ) hr.bp b)
end
end Go.AM
