/-
  Texts of the proof: AmTr, AmRel, AmObj, AmOps1, AmEq, AmOps2, AmOps3, AmOps4, AmRow, AmOps5, AmOps6, AmOps7.
-/
import Derived.Test.YtjkmpppkkhbjkaaGreatDefs
import Derived.Calls
import Derived.Orders
import Derived.Below
import Derived.Laws.Cells
import Derived.Laws.Rows
import Derived.Laws.Tables
import Derived.Laws.CopyRow
import Derived.ChangeKeysEq
import Derived.Laws.StructEq
import Derived.IntWalk
set_option linter.unusedSimpArgs false
set_option linter.unusedVariables false
namespace Go.AM
structure Hints where
 fJ:List (Option Nat):=[]
 bg:List Nat:=[]
 name:List (Nat×Nat):=[]
 lits:List (Nat×List Nat):=[]
 iL:List (Nat×Nat×Nat):=[]
 eQ:List (Nat×Nat×Nat):=[]
 dyn:List (Nat×Nat):=[]
 bZ:List Nat:=[]
 deep:List Nat:=[]
 aah:List Nat:=[]
 tag:Option (Nat×Nat):=none
 keys:List (Nat×List Nat×List Nat):=[]
 n:Nat:=0
 KN:List (Nat×Nat×Nat×Nat):=[]
 full:List (Nat×Nat×Nat×Nat×Nat):=[]
structure TrEnv where
 P:Program
 gq:FuncId→Option Nat
 iu:TypeId→Option Nat
variable (X:TrEnv)
def nC:Value→Option V
 | .bool b=>some (.bool b)
 | .int k n=>some (.int k n)
 | .float .f64 b=>some (.float b)
 | .string s=>some (.str s.data.toList)
 | .pointer none=>some .nilp
 | .slice none 0 0=>some .nils
 | .map none=>some (.mlit [])
 | .nilFunc=>some .nilfn
 | .nilIface=>some .nili
 | _=>none
def jk:List Value→Option (List V)
 | []=>some []
 | v::vs=>match nC v,jk vs with
   | some c,some cs=>some (c::cs)
   | _,_=>none
def uw:Value→Option V
 | .agg cs=> (jk cs.toList).map .agg
 | v=>nC v
def info (t:TypeId):Option TypeInfo:=X.P.info? t
def bq (t:TypeId):Option Nat:=(info X t).map (·.size)
def aZ (t:TypeId):Option TypeDesc:=X.P.underlying t
def fY (t:TypeId):Option Bool:=(aZ X t).map fun| .struct _=>true| .array .. =>true| _=>false
def dH (t:TypeId):Option V:=(info X t).bind fun i=>i.zero.bind uw
def cr:Operand→Option aQ
 | .tmp t=>some (.tmp t)
 | .const v=> (uw v).map .const
 | .func f=> (X.gq f).map fun n=> .const (.fn n [])
 | .global _=>none
def km:List Operand→Option (List aQ)
 | []=>some []
 | o::os=>match cr X o,km os with
   | some a,some as=>some (a::as)
   | _,_=>none
def rp:Option Operand→Option (Option aQ)
 | none=>some none
 | some o=> (cr X o).map some
mutual
def j5:Nat→TypeId→Option (List Nat)
 | 0,_=>none
 | d+1,t=>match aZ X t with
   | some .bool=>if bq X t=some 1 then some [0] else none
   | some (.int _)=>if bq X t=some 1 then some [1] else none
   | some .string=>if bq X t=some 1 then some [2] else none
   | some (.struct fs)=>if X.P.stoodInHeld t=false then(match rq d fs.toList 0 with
      | some ks=>if bq X t=some ks.length then some ks else none
      | none=>none) else none
   | some (.array n e)=>if fY X e=some false∧bq X t=some n then(match j5 d e with
      | some [k]=>some (List.replicate n k)
      | _=>none) else none
   | _=>none
def rq:Nat→List Field→Nat→Option (List Nat)
 | 0,_,_=>none
 | _+1,[],_=>some []
 | d+1,f::fs,off=>if f.name≠ "_" ∧f.offset=off then match j5 d f.type with
    | some ks=>match rq d fs (off+ks.length) with
      | some I6=>some (ks++I6)
      | none=>none
    | none=>none
   else none
end
def iN (place:Nat→Option (Nat×Nat)):List (Nat×Operand)→Option (List (Nat×Nat×aQ))
 | []=>some []
 | (i,o)::ps=>match place i,cr X o,iN place ps with
   | some (off,sz),some a,some as=>some ((off,sz,a)::as)
   | _,_,_=>none
def fZ:List (Nat×Operand)→Option (List (Nat×aQ))
 | []=>some []
 | (i,o)::ps=>match cr X o,fZ ps with
   | some a,some as=>some ((i,a)::as)
   | _,_=>none
def fw (t:Nat):Nat:=16*(t+1)
def nameOf (h:Hints) (dst:Nat):Nat:=((h.name.find? (·.1==dst)).map (·.2)).getD (fw dst)
def Gz (ks:List Nat):aQ→aQ
 | .const v=> .const (AP ks v)
 | x=>x
def Xg (h:Hints) (dst:Nat):Option Nat:=(h.dyn.find? (·.1==dst)).map (·.2)
def mB (h:Hints) (dst:Nat):List Nat:=((h.lits.find? (·.1==dst)).map (·.2)).getD []
def Xh (h:Hints) (dst:Nat):Option (Nat×Nat):=(h.iL.find? (·.1==dst)).map (·.2)
def isNil:Operand→Bool
 | .const (.slice none 0 0)=>true
 | _=>false
def Xi (h:Hints) (dst:Nat) (x:Operand):Option Nat:=match x with
 | .tmp t=> (h.eQ.find? (fun p=>p.1==dst &&p.2.1==t)).map (·.2.2)
 | _=>none
def ux (h:Hints) (dst:Nat) (x:Operand):Option rP:=
 match isNil x,Xh h dst with
 | true,some (r,sz)=>some (.pJ r sz)
 | _,_=>match Xi h dst x with
   | some r=> (cr X x).map fun y=> .YI r y
   | none=> (cr X x).map fun y=> .move (Gz (mB h dst) y)
def nZ (bytes:Nat):Nat:=(140737488355328 - 200*(bytes+1)) / (bytes+1)
def I7 (e:TypeId):Bool:=match aZ X e with
 | some (.int .u8)=>true
 | _=>false
def I8 (h:Hints) (dst r sz gr:Nat) (s x:aQ):rP:=
 match h.KN.find? (·.1==dst),h.full.find? (·.1==dst) with
 | some (_,r',g,N),_=> .pS r' g N sz s x
 | none,some (_,m,r',g,N)=> .pT m r' g N sz gr s x
 | none,none=>if h.bZ.contains dst then .pN r sz gr s x else .append r sz gr s x
def uy (h:Hints) (dst:Nat) (c:Call):Option rP:=
 match c.callee with
 | .value f=>match cr X f,km X c.args.toList with
   | some f,some as=>some (.call (fw dst+(if h.bZ.contains dst then 1 else 0)+(if h.deep.contains dst then 4 else 0)) (h.bg.contains dst) f as)
   | _,_=>none
 | .invoke .. =>none
 | .builtin b=>match b,c.args.toList,c.argTypes.toList with
   | .len,[x],[t]=>match cr X x,aZ X t with
     | some x,some (.slice _)=>some (.len x)
     | some x,some .string=>some (.tW x)
     | some _,some (.array n _)=>some (.move (.const (.int .i64 n)))
     | _,_=>none
   | .min,xs,_=> (km X xs).map .min
   | .max,xs,_=> (km X xs).map .max
   | .append,[s,x],[t,t']=>match cr X s,cr X x,aZ X t,aZ X t' with
     | some s,some x,some (.slice e),some d=>match bq X e,info X e,dH X e,d with
       | some sz,some i,some z,.slice _| some sz,some i,some z,.string=>if aO z sz then some (I8 h dst (nameOf h dst) sz (nZ i.bytes) s x) else none
       | _,_,_,_=>none
     | _,_,_,_=>none
   | .copy,[d,s],[t,_]=>match cr X d,cr X s,aZ X t with
     | some d,some s,some (.slice e)=> (bq X e).map fun sz=> .copy sz d s
     | _,_,_=>none
   | .clear,[x],[t]=>match cr X x,aZ X t with
     | some x,some (.slice e)=>match bq X e,dH X e with
       | some sz,some z=>some (.clear sz z x)
       | _,_=>none
     | _,_=>none
   | _,_,_=>none
def GA:BinOp→Bool
 | .eql=>true
 | .neq=>true
 | _=>false
def fM:BinOp→Bool
 | .neq=>true
 | _=>false
def tn:List (Nat×Nat):=(List.range 40).filterMap fun T=>match X.iu T,(X.P.info? T).map (·.comparable),aZ X T with
 | some t,some true,some .bool=>some (t,0)
 | some t,some true,some (.int _)=>some (t,1)
 | some t,some true,some .string=>some (t,2)
 | _,_,_=>none
def CO (op:BinOp) (t:TypeId) (x y:aQ):Option rP:=
 if GA op then match aZ X t with
  | some .bool=>some (.NO (fM op) x y)
  | some (.int _) | some .string=>some (.bin op x y)
  | some (.interface _)=>some (.NP (fM op) (tn X) x y)
  | some (.pointer e)=> (match bq X e with
    | some (_+1)=>some (.Lm (fM op) x y)
    | _=>none)
  | some (.struct _)=>if X.P.eqGuardType X.P.depth t=false then(j5 X 100 t).map fun ks=> .Nl (fM op) ks x y else none
  | some (.array _ _)=>if X.P.eqGuardType X.P.depth t=false then(j5 X 100 t).map fun ks=> .Nl (fM op) ks x y else none
  | _=>none
 else some (.bin op x y)
def qh (kt:TypeId):Option (Option IntKind):=match aZ X kt with
 | some (.int k)=>some (some k)
 | some .string=>some none
 | _=>none
def Xj (h:Hints):Operand→Bool
 | .tmp t=>h.bZ.contains t
 | _=>false
def vR (h:Hints) (dst:Nat):Op→Option rP
 | .move x| .assign x=>if h.deep.contains dst then(cr X x).map .deep else if h.aah.contains dst then(cr X x).map .Fh else ux X h dst x
 | .pick c a b=>match cr X c,cr X a,cr X b with
   | some c,some a,some b=>some (.pick c a b)
   | _,_,_=>none
 | .alloc t=>match bq X t,dH X t with
   | some sz,some z=>some (.new (fw dst) sz (.const (AP (mB h dst) z)))
   | _,_=>none
 | .box t x=>match bq X t,cr X x with
   | some sz,some x=>some (if h.deep.contains dst then .Fi (fw dst) sz (Gz (mB h dst) x) else .new (fw dst) sz (Gz (mB h dst) x))
   | _,_=>none
 | .build t ps=>match dH X t,aZ X t with
   | some (.agg z),some (.struct fs)=>if !fs.toList.all (fun f=> (bq X f.type).isSome) then none else(iN X (fun i=>match fs[i]? with| some f=> (bq X f.type).map fun s=> (f.offset,s) | none=>none) ps.toList).map (.build (xO (mB h dst) z))
   | some (.agg z),some (.array _ e)=>match bq X e with
     | some s=> (iN X (fun i=>some (i*s,s)) ps.toList).map (.build (xO (mB h dst) z))
     | none=>none
   | _,_=>none
 | .buildSlice t n ps=>match aZ X t with
   | some (.slice e)=>match bq X e,dH X e,fZ X ps.toList with
     | some sz,some z,some as=>some (match Xg h dst with| some ix=> .hY ix (16000000+fw dst) sz z n as| none=>if h.bZ.contains dst then .ia (fw dst) sz z n as else .buildSlice (fw dst) sz z n as)
     | _,_,_=>none
   | _=>none
 | .load t x=>match fY X t,bq X t,cr X x with
   | some a,some sz,some x=>some (if (mB h dst).isEmpty then .load a sz x else .we (mB h dst) a sz x)
   | _,_,_=>none
 | .store t x v=>match fY X t,bq X t,cr X x,cr X v with
   | some a,some sz,some x,some v=>some (.store a sz x v)
   | _,_,_,_=>none
 | .nilCheck x=> (cr X x).map .nilCheck
 | .binOp op t x y _=>match cr X x,cr X y with
   | some x,some y=>CO X op t x y
   | _,_=>none
 | .unOp op _ x=> (cr X x).map (.un op)
 | .convert s d x=>match aZ X s,aZ X d,cr X x with
   | some (.int _),some (.int k),some x=>some (.pK k x)
   | some (.int _),some (.float .f64),some x=>some (.tT x)
   | some (.float .f64),some (.int k),some x=>some (.tU k x)
   | some .string,some .string,some x=>some (.pL x)
   | some .string,some (.slice e),some x=>if I7 X e then some (.mi x) else none
   | some (.slice e),some .string,some x=>if I7 X e then some (.mj x) else none
   | _,_,_=>none
 | .makeInterface t x=>match X.iu t,cr X x,aZ X t with
   | some _,some _,some (.interface _)=>none
   | some n,some x,some _=>some (.pM n x)
   | _,_,_=>none
 | .typeAssert x _ t ok=>match X.iu t,cr X x,dH X t,aZ X t with
   | some _,some _,some _,some (.interface _)=>none
   | some n,some x,some z,some _=>some (.assert n ok z x)
   | _,_,_,_=>none
 | .makeFunc (.func f) first caps=>if first.isEmpty then match X.gq f,km X caps.toList with
     | some n,some cs=>some (if h.deep.contains dst then .pR n ((caps.toList.map (Xj h)).zip cs) else .tV n cs)
     | _,_=>none
   else if caps.isEmpty then match X.gq f,(if h.bZ.contains dst then some (first.toList.map fun _=> .const .any) else km X first.toList) with
     | some n,some cs=>some (.pQ n cs)
     | _,_=>none
   else none
 | .makeSlice t l c=>match aZ X t with
   | some (.slice e)=>match bq X e,info X e,dH X e,cr X l,cr X c with
     | some sz,some i,some z,some l,some c=>some (.makeSlice (fw dst) sz i.bytes z l c)
     | _,_,_,_,_=>none
   | _=>none
 | .slice t x lo hi mx=>match aZ X t,cr X x,rp X lo,rp X hi,rp X mx with
   | some (.slice e),some x,some lo,some hi,some mx=> (bq X e).map fun sz=> .slice sz x lo hi mx
   | some .string,some x,some lo,some hi,some none=>some (.je x lo hi)
   | _,_,_,_,_=>none
 | .fieldAddr s x i=>match aZ X s,cr X x with
   | some (.struct fs),some x=>match fs[i]? with
     | some f=>match bq X f.type with
       | some (_+1)=>some (.fieldAddr f.offset x)
       | _=>none
     | none=>none
   | _,_=>none
 | .field s x i=>match aZ X s,cr X x with
   | some (.struct fs),some x=>match fs[i]? with
     | some f=>match fY X f.type,bq X f.type with
       | some a,some sz=>some (.field a f.offset sz x)
       | _,_=>none
     | none=>none
   | _,_=>none
 | .indexAddr t x i=>match aZ X t,cr X x,cr X i with
   | some (.slice e),some x,some i=> (bq X e).map fun sz=> .indexAddr sz x i
   | some (.array n e),some x,some i=> (bq X e).map fun sz=> .mc n sz x i
   | _,_,_=>none
 | .index t x i=>match aZ X t,cr X x,cr X i with
   | some .string,some x,some i=>some (.mf x i)
   | some (.array n e),some x,some i=>match fY X e,bq X e with
     | some a,some sz=>some (.mg a n sz x i)
     | _,_=>none
   | _,_,_=>none
 | .extract x i=> (cr X x).map fun x=> .extract x i
 | .makeMap _ none=>some (.mkMap (fw dst))
 | .range t x=>match aZ X t,cr X x with
   | some .string,some x=>some (.pO (fw dst) x)
   | some (.map _ _),some x=>some (.mapIter (fw dst) x)
   | _,_=>none
 | .next x true=> (cr X x).map .pP
 | .lookup t x i ok=>match aZ X t,cr X x,cr X i with
   | some (.map kt et),some x,some i=>match qh X kt,dH X et with
     | some q,some z=>some (.tX q ok z x i)
     | _,_=>none
   | _,_,_=>none
 | .mapUpdate t m k v=>match aZ X t,cr X m,cr X k,cr X v with
   | some (.map kt _),some m,some k,some v=> (qh X kt).map fun q=> .qW q m k v
   | _,_,_,_=>none
 | .insert t m k v=>match aZ X t,cr X m,cr X k,cr X v with
   | some (.map kt _),some m,some k,some v=> (qh X kt).map fun q=> .qW q m k v
   | _,_,_,_=>none
 | .call c=>uy X h dst c
 | _=>none
def mC (h:Hints) (ops:Array Oper) (o:Oper):Option bJ:=
 let g:Option (Option (Nat×Bool)):=match o.guard with
  | none=>some none
  | some (j,want)=>match (ops[j]?).bind (·.dst) with
    | some d=>some (some (d,want))
    | none=>none
 match g,o.dst.all (· <h.n) with
 | some g,true=>some {dst:=o.dst,op:=(vR X h (o.dst.getD 0) o.op).getD .bad,guard:=g,pre:=(o.after.toList.filter (Region.binds .any)).map (·.on)}
 | _,_=>none
def fy (h:Hints) (ops:Array Oper):List Oper→Option (List bJ)
 | []=>some []
 | o::os=>match mC X h ops o,fy h ops os with
   | some a,some as=>some (a::as)
   | _,_=>none
def xV (h:Hints) (a:Code):Option (Nat×Nat×Nat×Nat×List Nat×List Nat):=
 match a with
 | .seq (.region ..) (.block id (.loop (.seq (.region _ ops false) (.seq (.cond ..) (.block _ (.seq (.region _ gg false) _))))))=>match ops[0]?,gg[0]? with
   | some o,some o5=>match o.op,o.dst,o.guard,o5.op,o5.dst,o5.guard with
     | .next (.tmp it) false,some nx,none,.entry (.tmp it'),some ne,none=> (match h.keys.find? (·.1==nx) with
       | some k=>if nx<h.n∧ne<h.n∧it'=it then some (it,nx,ne,id,k.2.1,k.2.2) else none
       | none=>none)
     | _,_,_,_,_,_=>none
   | _,_=>none
 | _=>none
def zy:Code→Bool
 | .seq (.region ..) _=>true
 | _=>false
def zz (h:Hints) (a b:Code) (ta tb:aW):aW:=
 match xV h a,zy b,ta,tb with
 | some (it,nx,ne,id,kT,kO),true,.seq tR (.block _ (.loop (.seq (.region as) (.seq tc (.block b1 (.seq (.region bs) tz)))))),.seq tS uz=> .seq tR (.seq (.keys it nx ne id kT kO (.seq (.region (as.drop 1)) tc) (.block b1 (.seq (.region (bs.drop 1)) tz)) tS) uz)
 | _,_,_,_=> .seq ta tb
def cA (h:Hints):Code→Option aW
 | .skip=>some .skip
 | .region _ ops false=> (fy X h ops ops.toList).map fun l=> .region (l.map fun o=> {o with pre:=[]})
 | .region _ ops true=> (fy X h ops ops.toList).map .drawn
 | .seq a b=>match cA h a,cA h b with
   | some ta,some tb=>some (zz h a b ta tb)
   | _,_=>none
 | .cond c a b=>match cr X c,cA h a,cA h b with
   | some c,some a,some b=>some (.cond c a b)
   | _,_,_=>none
 | .block id b=> (cA h b).map (.block id)
 | .loop b=> (cA h b).map .loop
 | .exit id=>some (.exit id)
 | .ret=>some .ret
 | .scope b=> (cA h b).map .scope
 | .rangeFunc f ps a b=>match cr X f,cA h a,cA h b with
   | some f,some a,some b=>if ps.toList.all (fun p=>Nat.blt p h.n)=true then some (.lY f ps.toList a b) else none
   | _,_,_=>none
 | .label _=>some .skip
 | _=>some .bad
def qi:ResultVar→Option pB
 | .tmp t=>some (.tmp t)
 | .cell a t=>match fY X t,bq X t with
   | some g,some sz=>some (.cell a g sz)
   | _,_=>none
def iT:List ResultVar→Option (List pB)
 | []=>some []
 | r::rs=>match qi X r,iT rs with
   | some a,some as=>some (a::as)
   | _,_=>none
def uu (h:Hints) (f:Func):Option aA:=
 match f.body with
 | none=>none
 | some b=>match cA X {h with n:=f.ntmps,KN:=[],full:=[]} b,iT X f.results.toList with
   | some c,some rs=>some {nparams:=f.params.size+f.nfree,ntmps:=f.ntmps,fJ:=h.fJ,results:=rs,body:=c,tag:=h.tag}
   | _,_=>none
end Go.AM
namespace Go.AM
open Go Go.RowKit
structure Ctx extends TrEnv where
 KO:Nat→Prop
 tok:Nat×Nat
instance:CoeOut Ctx TrEnv:=⟨Ctx.toTrEnv⟩
structure Row where
 cK:Nat
 base:Nat
 cap:Nat
structure Mu where
 w:World
 φ:Nat→Row
 O:Nat→Obj
def Mu.own (μ:Mu) (b:Nat):Prop:= ∃r,(μ.O r).es.isSome=true∧(μ.O r).fz=false∧(μ.φ r).cap≠0∧(μ.φ r).cK=b
def Own (X:Ctx) (μ:Mu) (b:Nat):Prop:=μ.own b∨X.KO b
def dA (w:World) (b off sz:Nat) (vs:List Value):Prop:=
 ∀i v,vs[i]? =some v→v.cells.size=sz∧ ∀j c,v.cells[j]? =some c→w.cell? ⟨b,off+i*sz+j,none⟩=some c
def uA (ents:Array MapEntry) (clock:Nat):Prop:=(∀e ∈ ents.toList,e.born<clock)∧(ents.toList.map (·.born)).Nodup
section
variable (X:Ctx) (μ:Mu)
mutual
def ak:V→Value→Prop
 | .bool b,v=>v= .bool b
 | .int k n,v=>v= .int k n
 | .float b,v=>v= .float .f64 b
 | .str s,v=> ∃bs:ByteArray,v= .string bs∧bs.data.toList=s
 | .agg cs,v=>cs.all V.aK=true∧ ∃vs,v= .agg vs∧aj cs vs.toList
 | .tuple cs,v=> ∃vs,v= .tuple vs∧aj cs vs.toList
 | .nilp,v=>v= .pointer none
 | .nilfn,v=>v= .nilFunc
 | .nili,v=>v= .nilIface
 | .fn f caps,v=> ∃F cv,v= .func (.func F) #[] cv∧X.gq F=some f∧aj caps cv.toList
 | .bfn f caps,v=> ∃F cv,v= .func (.func F) cv #[]∧X.gq F=some f∧aj caps cv.toList
 | .iface t x,v=> ∃T y,v= .iface T y∧X.iu T=some t∧ak x y
 | .nils,v=> ∃a,v= .slice a 0 0
 | .lit sz xs,v=>V.aq xs=true∧xs.all V.cJ=true∧ ∃a cap vs,v= .slice a xs.length cap∧xs.length≤cap∧aj xs vs∧
    (xs=[]∨ ∃b o,a=some ⟨b,o,none⟩∧ ¬Own X μ b∧b<μ.w.heap.size∧dA μ.w b o sz vs)
 | .own ..,_=>False
 | .sl r g off len,v=> ∃a cap,v= .slice a len cap∧len≤cap∧g≤(μ.O r).gen∧
    ((μ.O r).gen=g→0 < (μ.O r).sz∧cap+off=(μ.φ r).cap∧(cap=0∨a=some ⟨(μ.φ r).cK,(μ.φ r).base+off*(μ.O r).sz,none⟩))
 | .ptr r g idx off,v=> ∃a,v= .pointer (some a)∧g≤(μ.O r).gen∧
    ((μ.O r).gen=g→0 < (μ.O r).sz∧a=⟨(μ.φ r).cK,(μ.φ r).base+idx*(μ.O r).sz+off,none⟩)
 | .eptr e off,v=>V.aB e=true∧V.cJ e=true∧ ∃b o sz x,v= .pointer (some ⟨b,o+off,none⟩)∧ ¬Own X μ b∧b<μ.w.heap.size∧ak e x∧dA μ.w b o sz [x]
 | .mp r g,v=> ∃a,v= .map (some a)∧g≤(μ.O r).gen∧((μ.O r).gen=g→(μ.O r).sz=0∧a=(μ.φ r).cK)
 | .mlit es,v=>V.aq es=true∧(es=[]∧v= .map none∨ ∃a ents clock,v= .map (some a)∧ ¬Own X μ a∧a<μ.w.heap.size∧(μ.w.heap[a]? =some (.map ents clock)∧uA ents clock)∧
    aj es (ents.toList.map fun e=> .tuple #[e.key,e.val]))
 | .it r g,v=> ∃a,v= .pointer (some ⟨a,0,none⟩)∧g≤(μ.O r).gen∧((μ.O r).gen=g→(μ.O r).sz=0∧a=(μ.φ r).cK)
 | .litk sz xs,v=>V.aq xs=true∧xs.all V.cJ=true∧ ∃a cap vs,v= .slice a xs.length cap∧xs.length≤cap∧aj xs vs∧
    (xs=[]∨a=some ⟨X.tok.1,X.tok.2,none⟩∧ ¬Own X μ X.tok.1∧X.tok.1 <μ.w.heap.size∧dA μ.w X.tok.1 X.tok.2 sz vs)
 | .epk i sz e off,v=>V.aB e=true∧V.cJ e=true∧ ∃x,v= .pointer (some ⟨X.tok.1,X.tok.2+i*sz+off,none⟩)∧ ¬Own X μ X.tok.1∧X.tok.1 <μ.w.heap.size∧ak e x∧dA μ.w X.tok.1 (X.tok.2+i*sz) sz [x]
 | .msl ..,_=>False
 | .mptr ..,_=>False
 | .any,_=>True
def aj:List V→List Value→Prop
 | [],[]=>True
 | x::xs,v::vs=>ak x v∧aj xs vs
 | _,_=>False
end
end
theorem aj.length {X:Ctx} {μ:Mu}: ∀ {xs:List V} {vs:List Value},aj X μ xs vs→xs.length=vs.length
 | [],[],_=>rfl
 | [],_::_,h=>by simp[aj] at h
 | _::_,[],h=>by simp[aj] at h
 | _::_,_::_,h=>by simp only[aj] at h;simp[aj.length h.2]
theorem aj.get {X:Ctx} {μ:Mu}: ∀ {xs:List V} {vs:List Value},aj X μ xs vs→ ∀ {i:Nat} {x:V},xs[i]? =some x→ ∃v,vs[i]? =some v∧ak X μ x v
 | [],_,_,i,x,hx=>by simp at hx
 | _::_,[],h,_,_,_=>by simp[aj] at h
 | y::ys,v::vs,h,i,x,hx=>by
   simp only[aj] at h
   cases i with
   | zero=>simp at hx;subst hx;exact⟨v,by simp,h.1⟩
   | succ i=>simp at hx;simpa using aj.get h.2 hx
theorem aj.uB {X:Ctx} {μ:Mu}: ∀ {xs:List V} {vs:List Value},xs.length=vs.length→(∀ (i:Nat) (x:V) (v:Value),xs[i]? =some x→vs[i]? =some v→ak X μ x v)→aj X μ xs vs
 | [],[],_,_=>by simp[aj]
 | [],_::_,h,_=>by simp at h
 | _::_,[],h,_=>by simp at h
 | x::xs,v::vs,h,hg=>by
   simp only[aj]
   exact⟨hg 0 x v (by simp) (by simp),aj.uB (by simpa using h) fun i y u hy hu=>hg (i+1) y u (by simpa using hy) (by simpa using hu)⟩
theorem aj.append {X:Ctx} {μ:Mu}: ∀ {xs ys:List V} {vs us:List Value},aj X μ xs vs→aj X μ ys us→aj X μ (xs++ys) (vs++us)
 | [],_,[],_,_,h=>by simpa using h
 | [],_,_::_,_,h,_=>by simp[aj] at h
 | _::_,_,[],_,h,_=>by simp[aj] at h
 | x::xs,ys,v::vs,us,h,h'=>by
   simp only[aj] at h
   simp only[List.cons_append,aj]
   exact⟨h.1,aj.append h.2 h'⟩
theorem aj.take {X:Ctx} {μ:Mu}: ∀ {xs:List V} {vs:List Value} (n:Nat),aj X μ xs vs→aj X μ (xs.take n) (vs.take n)
 | _,_,0,_=>by simp[aj]
 | [],[],n+1,_=>by simp[aj]
 | [],_::_,n+1,h=>by simp[aj] at h
 | _::_,[],n+1,h=>by simp[aj] at h
 | x::xs,v::vs,n+1,h=>by
   simp only[aj] at h
   simp only[List.take_succ_cons,aj]
   exact⟨h.1,aj.take n h.2⟩
theorem aj.drop {X:Ctx} {μ:Mu}: ∀ {xs:List V} {vs:List Value} (n:Nat),aj X μ xs vs→aj X μ (xs.drop n) (vs.drop n)
 | _,_,0,h=>by simpa using h
 | [],[],n+1,_=>by simp[aj]
 | [],_::_,n+1,h=>by simp[aj] at h
 | _::_,[],n+1,h=>by simp[aj] at h
 | x::xs,v::vs,n+1,h=>by
   simp only[aj] at h
   simpa using aj.drop n h.2
theorem aj.set {X:Ctx} {μ:Mu} {xs:List V} {vs:List Value} (h:aj X μ xs vs) (i:Nat) {x:V} {v:Value} (hx:ak X μ x v):aj X μ (xs.set i x) (vs.set i v):=by
 refine aj.uB (by simpa using h.length) fun j y u hy hu=> ?_
 rw[List.getElem?_set] at hy hu
 split at hy
 · rename_i e
   subst e
   by_cases hl:i<xs.length
   · have xQ:i<vs.length:=by rw[←h.length];exact hl
     simp[hl] at hy;simp[xQ] at hu
     subst hy hu;exact hx
   · simp[hl] at hy
 · rename_i e
   simp[e] at hu
   obtain⟨u',Bw,hr⟩:=h.get hy
   rw[hu] at Bw;injection Bw with Bw;subst Bw;exact hr
structure Le (μ μ':Mu):Prop where
 size:μ.w.heap.size≤μ'.w.heap.size
 bZ: ∀b,b<μ.w.heap.size→ ¬μ.own b→μ'.w.heap[b]? =μ.w.heap[b]? ∧ ¬μ'.own b
 gen: ∀r,(μ.O r).gen≤(μ'.O r).gen
 row: ∀r,(μ'.O r).gen=(μ.O r).gen→μ'.φ r=μ.φ r∧(μ'.O r).sz=(μ.O r).sz
 os:μ'.w.os=μ.w.os
 output:μ'.w.output=μ.w.output
 tape:μ'.w.tape=μ.w.tape
 frozen: ∀a:Addr,a.block<μ.w.heap.size→μ'.w.frozen? a=μ.w.frozen? a
theorem Le.refl (μ:Mu):Le μ μ:=
 ⟨Nat.le_refl _,fun _ _ h=> ⟨rfl,h⟩,fun _=>Nat.le_refl _,fun _ _=> ⟨rfl,rfl⟩,rfl,rfl,rfl,fun _ _=>rfl⟩
theorem Le.trans {a b c:Mu} (h:Le a b) (k:Le b c):Le a c where
 size:=Nat.le_trans h.size k.size
 bZ:=fun i hi ho=>by
  obtain⟨h1,h2⟩:=h.bZ i hi ho
  obtain⟨k1,k2⟩:=k.bZ i (Nat.lt_of_lt_of_le hi h.size) h2
  exact⟨k1.trans h1,k2⟩
 gen:=fun r=>Nat.le_trans (h.gen r) (k.gen r)
 row:=fun r e=>by
  have h1:=h.gen r
  have k1:=k.gen r
  obtain⟨a1,a2⟩:=h.row r (by omega)
  obtain⟨b1,b2⟩:=k.row r (by omega)
  exact⟨b1.trans a1,b2.trans a2⟩
 os:=k.os.trans h.os
 output:=k.output.trans h.output
 tape:=k.tape.trans h.tape
 frozen:=fun x hx=> (k.frozen x (Nat.lt_of_lt_of_le hx h.size)).trans (h.frozen x hx)
theorem dA.bZ {w w':World} {b off sz:Nat} {vs:List Value} (h:dA w b off sz vs) (e:w'.heap[b]? =w.heap[b]?):dA w' b off sz vs:=by
 intro i v hv
 obtain⟨h1,h2⟩:=h i v hv
 refine⟨h1,fun j c hc=> ?_⟩
 rw[←h2 j c hc]
 simp[World.cell?,e]
mutual
theorem ak.mono {X:Ctx} {μ μ':Mu} (le:Le μ μ'): ∀ {x:V} {v:Value},ak X μ x v→ak X μ' x v
 | .bool _,_,h| .int ..,_,h| .float _,_,h| .str _,_,h| .nilp,_,h| .nilfn,_,h| .nili,_,h| .nils,_,h=>by simpa [ak] using h
 | .any,_,_=>by simp[ak]
 | .own ..,_,h| .msl ..,_,h| .mptr ..,_,h=>by simp[ak] at h
 | .agg cs,_,h=>by
   simp only[ak] at h ⊢
   obtain⟨h1,vs,rfl,h2⟩:=h
   exact⟨h1,vs,rfl,aj.mono le h2⟩
 | .tuple cs,_,h=>by
   simp only[ak] at h ⊢
   obtain⟨vs,rfl,h2⟩:=h
   exact⟨vs,rfl,aj.mono le h2⟩
 | .bfn f cs,_,h=>by
   simp only[ak] at h ⊢
   obtain⟨F,cv,rfl,h1,h2⟩:=h
   exact⟨F,cv,rfl,h1,aj.mono le h2⟩
 | .fn f cs,_,h=>by
   simp only[ak] at h ⊢
   obtain⟨F,cv,rfl,h1,h2⟩:=h
   exact⟨F,cv,rfl,h1,aj.mono le h2⟩
 | .iface t x,_,h=>by
   simp only[ak] at h ⊢
   obtain⟨T,y,rfl,h1,h2⟩:=h
   exact⟨T,y,rfl,h1,ak.mono le h2⟩
 | .lit sz xs,_,h=>by
   simp only[ak] at h ⊢
   obtain⟨h0,jC,a,cap,vs,rfl,h1,h2,h3⟩:=h
   refine⟨h0,jC,a,cap,vs,rfl,h1,aj.mono le h2,h3.imp id ?_⟩
   rintro⟨b,o,rfl,hb,hs,hr⟩
   obtain⟨k1,k2⟩:=le.bZ b hs (fun h=>hb (.inl h))
   exact⟨b,o,rfl,(fun h=>h.elim k2 fun h=>hb (.inr h)),Nat.lt_of_lt_of_le hs le.size,hr.bZ k1⟩
 | .sl r g off len,_,h=>by
   simp only[ak] at h ⊢
   obtain⟨a,cap,rfl,h1,h2,h3⟩:=h
   have hg:=le.gen r
   refine⟨a,cap,rfl,h1,by omega,fun e=> ?_⟩
   obtain⟨e1,e2⟩:=le.row r (by omega)
   rw[e1,e2];exact h3 (by omega)
 | .ptr r g idx off,_,h=>by
   simp only[ak] at h ⊢
   obtain⟨a,rfl,h2,h3⟩:=h
   have hg:=le.gen r
   refine⟨a,rfl,by omega,fun e=> ?_⟩
   obtain⟨e1,e2⟩:=le.row r (by omega)
   rw[e1,e2];exact h3 (by omega)
 | .eptr e off,_,h=>by
   simp only[ak] at h ⊢
   obtain⟨h0,jC,b,o,sz,x,rfl,hb,hs,h1,hr⟩:=h
   obtain⟨k1,k2⟩:=le.bZ b hs (fun h=>hb (.inl h))
   exact⟨h0,jC,b,o,sz,x,rfl,(fun h=>h.elim k2 fun h=>hb (.inr h)),Nat.lt_of_lt_of_le hs le.size,ak.mono le h1,hr.bZ k1⟩
 | .litk sz xs,_,h=>by
   simp only[ak] at h ⊢
   obtain⟨h0,jC,a,cap,vs,rfl,h1,h2,h3⟩:=h
   refine⟨h0,jC,a,cap,vs,rfl,h1,aj.mono le h2,h3.imp id ?_⟩
   rintro⟨rfl,hb,hs,hr⟩
   obtain⟨k1,k2⟩:=le.bZ _ hs (fun h=>hb (.inl h))
   exact⟨rfl,(fun h=>h.elim k2 fun h=>hb (.inr h)),Nat.lt_of_lt_of_le hs le.size,hr.bZ k1⟩
 | .epk i sz e off,_,h=>by
   simp only[ak] at h ⊢
   obtain⟨h0,jC,x,rfl,hb,hs,h1,hr⟩:=h
   obtain⟨k1,k2⟩:=le.bZ _ hs (fun h=>hb (.inl h))
   exact⟨h0,jC,x,rfl,(fun h=>h.elim k2 fun h=>hb (.inr h)),Nat.lt_of_lt_of_le hs le.size,ak.mono le h1,hr.bZ k1⟩
 | .mp r g,_,h=>by
   simp only[ak] at h ⊢
   obtain⟨a,rfl,h2,h3⟩:=h
   have hg:=le.gen r
   refine⟨a,rfl,by omega,fun e=> ?_⟩
   obtain⟨e1,e2⟩:=le.row r (by omega)
   rw[e1,e2];exact h3 (by omega)
 | .it r g,_,h=>by
   simp only[ak] at h ⊢
   obtain⟨a,rfl,h2,h3⟩:=h
   have hg:=le.gen r
   refine⟨a,rfl,by omega,fun e=> ?_⟩
   obtain⟨e1,e2⟩:=le.row r (by omega)
   rw[e1,e2];exact h3 (by omega)
 | .mlit es,_,h=>by
   simp only[ak] at h ⊢
   obtain⟨h0,h⟩:=h
   refine⟨h0,h.imp id ?_⟩
   rintro⟨a,ents,clock,rfl,hb,hs,h1,h2⟩
   obtain⟨k1,k2⟩:=le.bZ a hs (fun h=>hb (.inl h))
   exact⟨a,ents,clock,rfl,(fun h=>h.elim k2 fun h=>hb (.inr h)),Nat.lt_of_lt_of_le hs le.size,by rw[k1];exact h1,aj.mono le h2⟩
theorem aj.mono {X:Ctx} {μ μ':Mu} (le:Le μ μ'): ∀ {xs:List V} {vs:List Value},aj X μ xs vs→aj X μ' xs vs
 | [],[],_=>by simp[aj]
 | [],_::_,h=>by simp[aj] at h
 | _::_,[],h=>by simp[aj] at h
 | x::xs,v::vs,h=>by
   simp only[aj] at h ⊢
   exact⟨ak.mono le h.1,aj.mono le h.2⟩
end
def jN (X:Ctx) (μ:Mu) (r:Nat) (es:List V):Prop:=0 < (μ.O r).sz∧es.length≤(μ.φ r).cap∧es.all (aO · (μ.O r).sz)=true∧
 ((μ.φ r).cap=0∨ ∃c T vs,μ.w.heap[(μ.φ r).cK]? =some (.cells c T (0,0))∧(μ.φ r).base+(μ.φ r).cap*(μ.O r).sz≤c.size∧aj X μ es vs∧
   dA μ.w (μ.φ r).cK (μ.φ r).base (μ.O r).sz vs)
def lq (X:Ctx) (μ:Mu) (ob:Go.Obj) (es:List V):Prop:=
 (∃ents clock,ob= .map ents clock∧aj X μ es (ents.toList.map fun e=> .tuple #[e.key,e.val])∧uA ents clock)∨(∃ (s:ByteArray) (pos:Nat),ob= .stringIter s pos∧es=[.str s.data.toList,.int .i64 (pos:Int)])∨
 ∃mo since nA,ob= .mapIter mo since #[] since∧es=[.mlit nA]∧(mo=none∧nA=[]∨ ∃m ents,mo=some m∧ ¬Own X μ m∧m<μ.w.heap.size∧μ.w.heap[m]? =some (.map ents since)∧uA ents since∧aj X μ nA (ents.toList.map fun e=> .tuple #[e.key,e.val]))
theorem lq.mono {X:Ctx} {μ μ':Mu} (le:Le μ μ') {ob:Go.Obj} {es:List V} (h:lq X μ ob es):lq X μ' ob es:=by
 rcases h with⟨ents,clock,h1,h2,h3⟩ | h| ⟨mo,since,nA,h1,h2,h3⟩
 · exact .inl ⟨ents,clock,h1,aj.mono le h2,h3⟩
 · exact .inr (.inl h)
 · refine .inr (.inr ⟨mo,since,nA,h1,h2,h3.imp id ?_⟩)
   rintro⟨m,ents,k1,k2,k3,k4,k5,k6⟩
   obtain⟨l1,l2⟩:=le.bZ m k3 (fun h=>k2 (.inl h))
   exact⟨m,ents,k1,(fun h=>h.elim l2 fun h=>k2 (.inr h)),Nat.lt_of_lt_of_le k3 le.size,by rw[l1];exact k4,k5,aj.mono le k6⟩
theorem lq.live {X:Ctx} {μ:Mu} {ob:Go.Obj} {es:List V} (h:lq X μ ob es) (a:Addr) (w:World) (hw:w.heap[a.block]? =some ob):w.frozen? a=false:=by
 rcases h with⟨_,_,rfl,_⟩ | ⟨_,_,rfl,_⟩ | ⟨_,_,_,rfl,_⟩ <;>simp only[World.frozen?,hw]
def qj (X:Ctx) (μ:Mu) (r:Nat) (es:List V):Prop:=(μ.O r).sz=0∧(μ.φ r).cap≠0∧
 ∃ob,μ.w.heap[(μ.φ r).cK]? =some ob∧lq X μ ob es
def eJ (X:Ctx) (μ:Mu) (r:Nat):Prop:= ∀es,(μ.O r).es=some es→jN X μ r es∨qj X μ r es
def Inj (μ:Mu):Prop:= ∀r r',r≠r'→(μ.O r).es.isSome=true→(μ.O r').es.isSome=true→(μ.φ r).cap≠0→(μ.φ r').cap≠0→(μ.φ r).cK≠(μ.φ r').cK
structure bc (X:Ctx) (μ:Mu):Prop where
 ok: ∀r,eJ X μ r
 inj:Inj μ
 qJ: ∀r,(μ.O r).es.isSome=true→(μ.φ r).cap≠0→ ¬X.KO (μ.φ r).cK
 blt: ∀b,X.KO b→b<μ.w.heap.size
theorem bc.row {X:Ctx} {μ:Mu} (ho:bc X μ) (r:Nat) (es:List V) (bl: (μ.O r).es=some es) (h0:0 < (μ.O r).sz):jN X μ r es:=by
 rcases ho.ok r es bl with h| ⟨h,_⟩
 · exact h
 · omega
theorem bc.map {X:Ctx} {μ:Mu} (ho:bc X μ) (r:Nat) (es:List V) (bl: (μ.O r).es=some es) (h0: (μ.O r).sz=0):qj X μ r es:=by
 rcases ho.ok r es bl with⟨h,_⟩ | h
 · omega
 · exact h
theorem bc.ents {X:Ctx} {μ:Mu} (ho:bc X μ) (r:Nat) (es:List V) (bl: (μ.O r).es=some es) (h0: (μ.O r).sz=0): ((μ.φ r).cap≠0∧ ∃ents clock,μ.w.heap[(μ.φ r).cK]? =some (.map ents clock)∧aj X μ es (ents.toList.map fun e=> .tuple #[e.key,e.val])∧uA ents clock)∨
  ((μ.φ r).cap≠0∧ ∃ (s:ByteArray) (pos:Nat),μ.w.heap[(μ.φ r).cK]? =some (.stringIter s pos)∧es=[.str s.data.toList,.int .i64 (pos:Int)])∨ ∃nA,es=[.mlit nA]:=by
 obtain⟨_,h2,ob,h3,h4⟩:=ho.map r es bl h0
 rcases h4 with⟨ents,clock,rfl,h⟩ | ⟨s,pos,rfl,h⟩ | ⟨_,_,nA,_,h,_⟩
 · exact .inl ⟨h2,ents,clock,h3,h⟩
 · exact .inr (.inl ⟨h2,s,pos,h3,h⟩)
 · exact .inr (.inr ⟨nA,h⟩)
theorem eJ.cK {X:Ctx} {μ:Mu} {r:Nat} {es:List V} (h:jN X μ r es∨qj X μ r es) (hc: (μ.φ r).cap≠0): (μ.φ r).cK<μ.w.heap.size:=by
 rcases h with⟨_,_,_,h⟩ | ⟨_,_,ob,h,_⟩
 · rcases h with h| ⟨_,_,_,h,_⟩
   · exact absurd h hc
   · exact(Array.getElem?_eq_some_iff.1 h).1
 · exact(Array.getElem?_eq_some_iff.1 h).1
theorem eJ.bZ {X:Ctx} {μ μ':Mu} {r r':Nat} {es:List V} (le:Le μ μ') (h:jN X μ r es∨qj X μ r es) (ck: (μ'.O r').sz=(μ.O r).sz) (hφ:μ'.φ r'=μ.φ r)
   (hb: (μ.φ r).cap≠0→μ'.w.heap[(μ.φ r).cK]? =μ.w.heap[(μ.φ r).cK]?):jN X μ' r' es∨qj X μ' r' es:=by
 rcases h with⟨h1,h2,h3,h4⟩ | ⟨h1,h2,ob,h3,h4⟩
 · left
   unfold jN
   rw[ck,hφ]
   by_cases hc: (μ.φ r).cap=0
   · exact⟨h1,h2,h3,.inl hc⟩
   · rcases h4 with h4| ⟨c,T,vs,k1,k2,k3,k4⟩
     · exact absurd h4 hc
     · exact⟨h1,h2,h3,.inr ⟨c,T,vs,by rw[hb hc];exact k1,k2,aj.mono le k3,k4.bZ (hb hc)⟩⟩
 · right
   unfold qj
   rw[ck,hφ]
   exact⟨h1,h2,ob,by rw[hb h2];exact h3,h4.mono le⟩
structure Bx (w0:World) (I9:Nat→Prop) (μ:Mu):Prop where
 size:w0.heap.size≤μ.w.heap.size
 bZ: ∀b,b<w0.heap.size→ ¬I9 b→μ.w.heap[b]? =w0.heap[b]? ∧ ¬μ.own b
 os:μ.w.os=w0.os
 output:μ.w.output=w0.output
 tape:μ.w.tape=w0.tape
 frozen: ∀a:Addr,a.block<w0.heap.size→μ.w.frozen? a=w0.frozen? a
theorem Bx.step {w0:World} {I9:Nat→Prop} {μ μ':Mu} (h:Bx w0 I9 μ) (k:Le μ μ'):Bx w0 I9 μ' where
 size:=Nat.le_trans h.size k.size
 bZ:=fun i hi ho=>by
  obtain⟨h1,h2⟩:=h.bZ i hi ho
  obtain⟨k1,k2⟩:=k.bZ i (Nat.lt_of_lt_of_le hi h.size) h2
  exact⟨k1.trans h1,k2⟩
 os:=k.os.trans h.os
 output:=k.output.trans h.output
 tape:=k.tape.trans h.tape
 frozen:=fun x hx=> (k.frozen x (Nat.lt_of_lt_of_le hx h.size)).trans (h.frozen x hx)
theorem ak.lr {X:Ctx} {μ:Mu} {x:V} {v:Value} (h:ak X μ x v) (hc:x.aK=true):v.oneCell'=true∧v.cells= #[v]:=by
 cases x<;>simp[V.aK] at hc<;>simp only[ak] at h
 case bool=>subst h;exact⟨rfl,rfl⟩
 case int=>subst h;exact⟨rfl,rfl⟩
 case float=>subst h;exact⟨rfl,rfl⟩
 case str=>obtain⟨_,rfl,_⟩:=h;exact⟨rfl,rfl⟩
 case nilp=>subst h;exact⟨rfl,rfl⟩
 case nilfn=>subst h;exact⟨rfl,rfl⟩
 case nili=>subst h;exact⟨rfl,rfl⟩
 case fn=>obtain⟨_,_,rfl,_⟩:=h;exact⟨rfl,rfl⟩
 case bfn=>obtain⟨_,_,rfl,_⟩:=h;exact⟨rfl,rfl⟩
 case iface=>obtain⟨_,_,rfl,_⟩:=h;exact⟨rfl,rfl⟩
 case nils=>obtain⟨_,rfl⟩:=h;exact⟨rfl,rfl⟩
 case lit=>obtain⟨_,_,_,_,_,rfl,_⟩:=h;exact⟨rfl,rfl⟩
 case sl=>obtain⟨_,_,rfl,_⟩:=h;exact⟨rfl,rfl⟩
 case ptr=>obtain⟨_,rfl,_⟩:=h;exact⟨rfl,rfl⟩
 case eptr=>obtain⟨_,_,_,_,_,_,rfl,_⟩:=h;exact⟨rfl,rfl⟩
 case litk=>obtain⟨_,_,_,_,_,rfl,_⟩:=h;exact⟨rfl,rfl⟩
 case epk=>obtain⟨_,_,_,rfl,_⟩:=h;exact⟨rfl,rfl⟩
 case mp=>obtain⟨_,rfl,_⟩:=h;exact⟨rfl,rfl⟩
 case it=>obtain⟨_,rfl,_⟩:=h;exact⟨rfl,rfl⟩
 case mlit=>obtain⟨_,⟨_,rfl⟩ | ⟨_,_,_,rfl,_⟩⟩:=h<;>exact⟨rfl,rfl⟩
theorem V.fA {x:V} (h:x.aK=true):x.cells=[x]:=by
 cases x<;>simp_all[V.aK,V.cells]
theorem ak.cells {X:Ctx} {μ:Mu} {x:V} {v:Value} (h:ak X μ x v) (hl:x.cJ=true):aj X μ x.cells v.cells.toList:=by
 simp only[V.cJ,Bool.or_eq_true] at hl
 rcases hl with hl| hl
 · cases x<;>simp[V.isAgg] at hl
   simp only[ak] at h
   obtain⟨_,vs,rfl,h2⟩:=h
   exact h2
 · rw[(h.lr hl).2,V.fA hl]
   simp[aj,h]
theorem ak.cV {X:Ctx} {μ:Mu} {x:V} {v:Value} (h:ak X μ x v) (hl:x.cJ=true):v.cells.size=x.cells.length:=by
 have:=(h.cells hl).length
 simpa using this.symm
theorem ak.qk {X:Ctx} {μ:Mu} {x:V} {v:Value} (h:ak X μ x v) (hl:x.cJ=true):x.cells.all V.aK=true:=by
 simp only[V.cJ,Bool.or_eq_true] at hl
 rcases hl with hl| hl
 · cases x<;>simp[V.isAgg] at hl
   simp only[ak] at h
   exact h.1
 · rw[V.fA hl];simp[hl]
end Go.AM
namespace Go.AM
open Go Go.RowKit
theorem az {α:Type} (f:Nat→α) (t:Nat) (v:α):dg f t v t=v:=by simp[dg]
theorem aV {α:Type} (f:Nat→α) {t n:Nat} (v:α) (h:n≠t):dg f t v n=f n:=by simp[dg,h]
theorem dA.zA {w:World} {b off sz:Nat} {vs:List Value} {c:Array Value} {T:TypeId} {fr:Nat×Nat} (hb:w.heap[b]? =some (.cells c T fr))
  (h: ∀i v,vs[i]? =some v→v.cells.size=sz∧ ∀j x,v.cells[j]? =some x→c[off+i*sz+j]? =some x):dA w b off sz vs:=by
 intro i v hv
 obtain⟨h1,h2⟩:=h i v hv
 refine⟨h1,fun j x hx=> ?_⟩
 simp[World.cell?,hb,h2 j x hx]
theorem dA.GB {w:World} {b off sz:Nat} {vs:List Value} {c:Array Value} {T:TypeId} {fr:Nat×Nat} (hb:w.heap[b]? =some (.cells c T fr))
  (h:dA w b off sz vs): ∀i v,vs[i]? =some v→v.cells.size=sz∧ ∀j x,v.cells[j]? =some x→c[off+i*sz+j]? =some x:=by
 intro i v hv
 obtain⟨h1,h2⟩:=h i v hv
 refine⟨h1,fun j x hx=> ?_⟩
 have:=h2 j x hx
 simpa [World.cell?,hb] using this
theorem zB {μ:Mu} {r:Nat} {o:Obj} {w':World} (h:o.es.isSome=true→o.fz=false→(μ.O r).es.isSome=true∧(μ.O r).fz=false) {b:Nat}
   (hb: (⟨w',μ.φ,dg μ.O r o⟩:Mu).own b):μ.own b:=by
 obtain⟨r',h1,h2,h3,h4⟩:=hb
 by_cases e:r'=r
 · subst e
   simp only[az] at h1 h2
   obtain⟨k1,k2⟩:=h h1 h2
   exact⟨r',k1,k2,h3,h4⟩
 · simp only[aV _ _ e] at h1 h2
   exact⟨r',h1,h2,h3,h4⟩
theorem bc.uC {X:Ctx} {μ μ':Mu} (ho:bc X μ) (le:Le μ μ') (hO:μ'.O=μ.O) (hφ:μ'.φ=μ.φ)
  (hb: ∀b,b<μ.w.heap.size→μ'.w.heap[b]? =μ.w.heap[b]?):bc X μ' where
 ok:=fun r es bl=>by
  rw[hO] at bl
  exact eJ.bZ le (ho.ok r es bl) (by rw[hO]) (by rw[hφ]) fun hc=>hb _ (eJ.cK (ho.ok r es bl) hc)
 inj:=by unfold Inj;rw[hO,hφ];exact ho.inj
 qJ:=by rw[hO,hφ];exact ho.qJ
 blt:=fun b hb=>Nat.lt_of_lt_of_le (ho.blt b hb) le.size
theorem Le.drew {X:Ctx} {μ:Mu} (ho:bc X μ):Le μ ⟨μ.w.drew,μ.φ,μ.O⟩∧bc X ⟨μ.w.drew,μ.φ,μ.O⟩:=by
 have le:Le μ ⟨μ.w.drew,μ.φ,μ.O⟩:=
  ⟨Nat.le_refl _,fun _ _ h=> ⟨rfl,h⟩,fun _=>Nat.le_refl _,fun _ _=> ⟨rfl,rfl⟩,rfl,rfl,rfl,fun _ _=>rfl⟩
 exact⟨le,ho.uC le rfl rfl fun _ _=>rfl⟩
theorem xW {X:Ctx} {μ:Mu} (ho:bc X μ) (r sz cap:Nat) (arr:Bool) {es:List V} {vs:List Value} {c:Array Value} (T:TypeId) (ck:0 <sz)
   (cE:es.length≤cap) (nS:es.all (aO · sz)=true) (bQ:aj X μ es vs) (hc:cap*sz≤c.size)
   (fR: ∀i v,vs[i]? =some v→v.cells.size=sz∧ ∀j x,v.cells[j]? =some x→c[i*sz+j]? =some x):
   let μ':Mu:=⟨μ.w.alloc (.cells c T (0,0)),dg μ.φ r ⟨μ.w.heap.size,0,cap⟩,dg μ.O r {gen:=(μ.O r).gen+1,sz:=sz,arr:=arr,fz:=false,es:=some es}⟩
   Le μ μ'∧bc X μ':=by
 intro μ'
 have ie: ∀b,b<μ.w.heap.size→μ'.w.heap[b]? =μ.w.heap[b]? :=fun b hb=>heap_alloc_old _ _ _ hb
 have zC:μ'.w.heap.size=μ.w.heap.size+1:=Array.size_push _
 have oP:μ'.w.heap[μ.w.heap.size]? =some (.cells c T (0,0)):=heap_alloc_new _ _
 have le:Le μ μ':=by
   refine⟨by omega,fun b hb eh=> ⟨ie b hb,?_⟩,fun r'=> ?_,fun r' e=> ?_,rfl,rfl,rfl,fun a ha=> ?_⟩
   · rintro⟨r',h1,h2,h3,h4⟩
     by_cases e:r'=r
     · subst e
       simp only[μ',az] at h4
       omega
     · simp only[μ',aV _ _ e] at h1 h2 h3 h4
       exact eh ⟨r',h1,h2,h3,h4⟩
   · by_cases e:r'=r
     · subst e;simp[μ',az]
     · simp[μ',aV _ _ e]
   · by_cases e':r'=r
     · subst e';simp[μ',az] at e
     · simp[μ',aV _ _ e']
   · simp only[World.frozen?,ie a.block ha]
 refine⟨le,fun r' es' eS=> ?_,fun r1 r2 cO h1 h2 h3 h4=> ?_,fun r' h1 h2 hb=> ?_,fun b hb=>Nat.lt_of_lt_of_le (ho.blt b hb) le.size⟩
 rotate_left 2
 · by_cases e:r'=r
   · subst e
     simp only[μ',az] at hb
     have:=ho.blt _ hb
     omega
   · simp only[μ',aV _ _ e] at h1 h2 hb
     exact ho.qJ r' h1 h2 hb
 · by_cases e:r'=r
   · subst e
     simp only[μ',az] at eS ⊢
     injection eS with eS
     subst eS
     refine .inl ?_
     unfold jN
     simp only[μ',az]
     refine⟨ck,cE,nS,.inr ⟨c,T,vs,oP,by simpa using hc,aj.mono le bQ,dA.zA oP ?_⟩⟩
     simpa using fR
   · have hO:μ'.O r'=μ.O r':=by simp[μ',aV _ _ e]
     have hφ:μ'.φ r'=μ.φ r':=by simp[μ',aV _ _ e]
     rw[hO] at eS
     exact eJ.bZ le (ho.ok r' es' eS) (by rw[hO]) hφ fun hc=>ie _ (eJ.cK (ho.ok r' es' eS) hc)
 · have hold: ∀r',r'≠r→(μ.O r').es.isSome=true→(μ.φ r').cap≠0→(μ.φ r').cK<μ.w.heap.size:=fun r' _ hs yK=>by
     obtain⟨es',he⟩:=Option.isSome_iff_exists.1 hs
     exact eJ.cK (ho.ok r' es' he) yK
   by_cases e1:r1=r
   · subst e1
     have e2:r2≠r1:=fun e=>cO e.symm
     simp only[μ',az,aV _ _ e2] at h1 h2 h3 h4 ⊢
     have:=hold r2 e2 h2 h4
     omega
   · by_cases e2:r2=r
     · subst e2
       simp only[μ',az,aV _ _ e1] at h1 h2 h3 h4 ⊢
       have:=hold r1 e1 h1 h3
       omega
     · simp only[μ',aV _ _ e1,aV _ _ e2] at h1 h2 h3 h4 ⊢
       exact ho.inj r1 r2 cO h1 h2 h3 h4
theorem DS {X:Ctx} {μ:Mu} (ho:bc X μ) (r sz:Nat) (ck:0 <sz):
   let μ':Mu:=⟨μ.w,dg μ.φ r ⟨0,0,0⟩,dg μ.O r {gen:=(μ.O r).gen+1,sz:=sz,arr:=true,fz:=false,es:=some []}⟩
   Le μ μ'∧bc X μ':=by
 intro μ'
 have le:Le μ μ':=by
   refine⟨Nat.le_refl _,fun b hb eh=> ⟨rfl,?_⟩,fun r'=> ?_,fun r' e=> ?_,rfl,rfl,rfl,fun _ _=>rfl⟩
   · rintro⟨r',h1,h2,h3,h4⟩
     by_cases e:r'=r
     · subst e
       simp only[μ',az] at h3
       exact h3 rfl
     · simp only[μ',aV _ _ e] at h1 h2 h3 h4
       exact eh ⟨r',h1,h2,h3,h4⟩
   · by_cases e:r'=r
     · subst e;simp[μ',az]
     · simp[μ',aV _ _ e]
   · by_cases e':r'=r
     · subst e';simp[μ',az] at e
     · simp[μ',aV _ _ e']
 refine⟨le,fun r' es' eS=> ?_,fun r1 r2 cO h1 h2 h3 h4=> ?_,fun r' h1 h2 hb=> ?_,ho.blt⟩
 · by_cases e:r'=r
   · subst e
     simp only[μ',az] at eS
     injection eS with eS
     subst eS
     refine .inl ?_
     unfold jN
     simp only[μ',az]
     exact⟨ck,Nat.le_refl _,rfl,.inl (by simp)⟩
   · have hO:μ'.O r'=μ.O r':=by simp[μ',aV _ _ e]
     have hφ:μ'.φ r'=μ.φ r':=by simp[μ',aV _ _ e]
     rw[hO] at eS
     exact eJ.bZ le (ho.ok r' es' eS) (by rw[hO]) hφ fun _=>rfl
 · have e1:r1≠r:=by
     intro e;subst e
     simp only[μ',az] at h3
     exact h3 rfl
   have e2:r2≠r:=by
     intro e;subst e
     simp only[μ',az] at h4
     exact h4 rfl
   simp only[μ',aV _ _ e1,aV _ _ e2] at h1 h2 h3 h4 ⊢
   exact ho.inj r1 r2 cO h1 h2 h3 h4
 · have e:r'≠r:=by
     intro e;subst e
     simp only[μ',az] at h2
     exact h2 rfl
   simp only[μ',aV _ _ e] at h1 h2 hb
   exact ho.qJ r' h1 h2 hb
theorem Ja {X:Ctx} {μ:Mu} (ho:bc X μ) {r r1:Nat} (cO:r1≠r):
   let μ':Mu:=⟨μ.w,dg μ.φ r (μ.φ r1),dg (dg μ.O r ⟨(μ.O r).gen+1,(μ.O r1).sz,(μ.O r1).arr,(μ.O r1).fz,(μ.O r1).es⟩) r1 ⟨(μ.O r1).gen+1,(μ.O r1).sz,(μ.O r1).arr,(μ.O r1).fz,none⟩⟩
   Le μ μ'∧bc X μ':=by
 intro μ'
 have uD:r≠r1:=Ne.symm cO
 have Mk:μ'.O r1=⟨(μ.O r1).gen+1,(μ.O r1).sz,(μ.O r1).arr,(μ.O r1).fz,none⟩:=by simp[μ',az]
 have hOr:μ'.O r=⟨(μ.O r).gen+1,(μ.O r1).sz,(μ.O r1).arr,(μ.O r1).fz,(μ.O r1).es⟩:=by simp[μ',aV _ _ uD,az]
 have Xk:μ'.φ r=μ.φ r1:=by simp[μ',az]
 have hO: ∀r',r'≠r→r'≠r1→μ'.O r'=μ.O r':=fun r' h1 h2=>by simp[μ',aV _ _ h1,aV _ _ h2]
 have hφ: ∀r',r'≠r→μ'.φ r'=μ.φ r':=fun r' h1=>by simp[μ',aV _ _ h1]
 have fF: ∀b,μ'.own b→μ.own b:=by
   rintro b ⟨r',h1,h2,h3,h4⟩
   by_cases e1:r'=r1
   · subst e1;rw[Mk] at h1;simp at h1
   · by_cases e:r'=r
     · subst e
       rw[hOr] at h1 h2
       rw[Xk] at h3 h4
       exact⟨r1,h1,h2,h3,h4⟩
     · rw[hO _ e e1] at h1 h2
       rw[hφ _ e] at h3 h4
       exact⟨r',h1,h2,h3,h4⟩
 have le:Le μ μ':=by
   refine⟨Nat.le_refl _,fun b hb eh=> ⟨rfl,fun h=>eh (fF b h)⟩,fun r'=> ?_,fun r' e=> ?_,rfl,rfl,rfl,fun _ _=>rfl⟩
   · by_cases e1:r'=r1
     · subst e1;rw[Mk];simp
     · by_cases e:r'=r
       · subst e;rw[hOr];simp
       · rw[hO _ e e1];exact Nat.le_refl _
   · by_cases e1:r'=r1
     · subst e1;rw[Mk] at e;simp at e
     · by_cases e2:r'=r
       · subst e2;rw[hOr] at e;simp at e
       · rw[hO _ e2 e1,hφ _ e2];exact⟨rfl,rfl⟩
 refine⟨le,fun r' es' eS=> ?_,fun r2 r3 Xl h1 h2 h3 h4=> ?_,fun r' h1 h2 hb=> ?_,ho.blt⟩
 · by_cases e1:r'=r1
   · subst e1;rw[Mk] at eS;simp at eS
   · by_cases e:r'=r
     · subst e
       rw[hOr] at eS
       exact eJ.bZ (r:=r1) le (ho.ok r1 es' eS) (by rw[hOr]) Xk fun _=>rfl
     · rw[hO _ e e1] at eS
       exact eJ.bZ le (ho.ok r' es' eS) (by rw[hO _ e e1]) (hφ _ e) fun _=>rfl
 · have YR:r2≠r1:=by intro e;subst e;rw[Mk] at h1;simp at h1
   have Xm:r3≠r1:=by intro e;subst e;rw[Mk] at h2;simp at h2
   by_cases e2:r2=r
   · subst e2
     have e3:r3≠r2:=Ne.symm Xl
     rw[hOr] at h1
     rw[hO _ e3 Xm] at h2
     rw[Xk] at h3 ⊢
     rw[hφ _ e3] at h4 ⊢
     exact ho.inj r1 r3 (Ne.symm Xm) h1 h2 h3 h4
   · rw[hO _ e2 YR] at h1
     rw[hφ _ e2] at h3 ⊢
     by_cases e3:r3=r
     · subst e3
       rw[hOr] at h2
       rw[Xk] at h4 ⊢
       exact ho.inj r2 r1 YR h1 h2 h3 h4
     · rw[hO _ e3 Xm] at h2
       rw[hφ _ e3] at h4 ⊢
       exact ho.inj r2 r3 Xl h1 h2 h3 h4
 · have YR:r'≠r1:=by intro e;subst e;rw[Mk] at h1;simp at h1
   by_cases e:r'=r
   · subst e
     rw[hOr] at h1
     rw[Xk] at h2 hb
     exact ho.qJ r1 h1 h2 hb
   · rw[hO _ e YR] at h1
     rw[hφ _ e] at h2 hb
     exact ho.qJ r' h1 h2 hb
theorem kn {X:Ctx} {μ:Mu} (ho:bc X μ) (r:Nat) {es:List V} {c:Array Value} {T:TypeId} (bl: (μ.O r).es=some es) (fN: (μ.O r).fz=false)
   (hb:μ.w.heap[(μ.φ r).cK]? =some (.cells c T (0,0))) (eB: (μ.φ r).cap≠0)
   {c':Array Value} (hc:c'.size=c.size) (Ml CP DT:Nat) {es':List V} {vs':List Value}
   (hg: (Ml=(μ.O r).gen∧CP=(μ.φ r).base∧DT=(μ.φ r).cap)∨(μ.O r).gen<Ml) (aaV:DT≠0)
   (hlen:es'.length≤DT) (nS:es'.all (aO · (μ.O r).sz)=true) (bQ:aj X μ es' vs') (r7:CP+DT*(μ.O r).sz≤c.size)
   (fR: ∀i v,vs'[i]? =some v→v.cells.size=(μ.O r).sz∧ ∀j x,v.cells[j]? =some x→c'[CP+i*(μ.O r).sz+j]? =some x):
   let μ':Mu:=⟨μ.w.setRow (μ.φ r).cK c',dg μ.φ r ⟨(μ.φ r).cK,CP,DT⟩,dg μ.O r {μ.O r with gen:=Ml,es:=some es'}⟩
   Le μ μ'∧bc X μ':=by
 intro μ'
 have oP:μ'.w.heap[(μ.φ r).cK]? =some (.cells c' T (0,0)):=setRow_heap _ _ _ _ _ _ hb
 have oQ: ∀b,b≠(μ.φ r).cK→μ'.w.heap[b]? =μ.w.heap[b]? :=fun b cO=>setRow_other _ _ _ _ cO
 have zC:μ'.w.heap.size=μ.w.heap.size:=by simp[μ',World.setRow]
 have bp: (μ.φ r).cK<μ.w.heap.size:=(Array.getElem?_eq_some_iff.1 hb).1
 have fF:μ.own (μ.φ r).cK:=⟨r,by simp[bl],fN,eB,rfl⟩
 have le:Le μ μ':=by
   refine⟨by omega,fun b ru eh=> ⟨oQ b (fun e=>eh (e ▸ fF)),?_⟩,fun r'=> ?_,fun r' e=> ?_,rfl,rfl,rfl,fun a ha=> ?_⟩
   · rintro⟨r',h1,h2,h3,h4⟩
     by_cases e:r'=r
     · subst e
       simp only[μ',az] at h4
       exact eh (h4 ▸ fF)
     · simp only[μ',aV _ _ e] at h1 h2 h3 h4
       exact eh ⟨r',h1,h2,h3,h4⟩
   · by_cases e:r'=r
     · subst e;simp only[μ',az];omega
     · simp[μ',aV _ _ e]
   · by_cases e':r'=r
     · subst e'
       simp only[μ',az] at e ⊢
       rcases hg with⟨_,g2,g3⟩ | hg
       · subst g2;subst g3;exact⟨rfl,trivial⟩
       · omega
     · simp[μ',aV _ _ e']
   · by_cases e:a.block=(μ.φ r).cK
     · simp only[World.frozen?,e,oP,hb]
     · simp only[World.frozen?,oQ _ e]
 refine⟨le,fun r' Xn oR=> ?_,fun r1 r2 cO h1 h2 h3 h4=> ?_,fun r' h1 h2 hb=> ?_,fun b hb=>Nat.lt_of_lt_of_le (ho.blt b hb) le.size⟩
 rotate_left 2
 · by_cases e:r'=r
   · subst e
     simp only[μ',az] at hb
     exact ho.qJ r' (by simp[bl]) eB hb
   · simp only[μ',aV _ _ e] at h1 h2 hb
     exact ho.qJ r' h1 h2 hb
 · by_cases e:r'=r
   · subst e
     have ck:0 < (μ.O r').sz:=by
       rcases ho.ok r' es bl with⟨h,_⟩ | ⟨_,_,ob,hm,EV⟩
       · exact h
       · rw[hb] at hm;injection hm with hm;subst hm
         rcases EV with⟨_,_,h,_⟩ | ⟨_,_,h,_⟩ | ⟨_,_,_,h,_⟩ <;>cases h
     simp only[μ',az] at oR
     injection oR with oR
     subst oR
     refine .inl ?_
     unfold jN
     simp only[μ',az]
     exact⟨ck,hlen,nS,.inr ⟨c',T,vs',oP,by omega,aj.mono le bQ,dA.zA oP fR⟩⟩
   · have hO:μ'.O r'=μ.O r':=by simp[μ',aV _ _ e]
     have hφ:μ'.φ r'=μ.φ r':=by simp[μ',aV _ _ e]
     rw[hO] at oR
     exact eJ.bZ le (ho.ok r' Xn oR) (by rw[hO]) hφ fun hcr=>oQ _ (ho.inj r' r e (by simp[oR]) (by simp[bl]) hcr eB)
 · have hs: ∀x,(μ'.O x).es.isSome=true→(μ.O x).es.isSome=true:=fun x hx=>by
     by_cases e:x=r
     · subst e;simp[bl]
     · simpa [μ',aV _ _ e] using hx
   have rk: ∀x,(μ'.φ x).cap≠0→(μ.φ x).cap≠0:=fun x hx=>by
     by_cases e:x=r
     · subst e;exact eB
     · simpa [μ',aV _ _ e] using hx
   have tq: ∀x,(μ'.φ x).cK=(μ.φ x).cK:=fun x=>by
     by_cases e:x=r
     · subst e;simp[μ',az]
     · simp[μ',aV _ _ e]
   rw[tq,tq]
   exact ho.inj r1 r2 cO (hs _ h1) (hs _ h2) (rk _ h3) (rk _ h4)
theorem lu {X:Ctx} {μ:Mu} (ho:bc X μ) (r:Nat):
   let μ':Mu:=⟨μ.w,μ.φ,dg μ.O r {μ.O r with fz:=true}⟩
   Le μ μ'∧bc X μ':=by
 intro μ'
 have b5: ∀x,(μ'.O x).gen=(μ.O x).gen∧(μ'.O x).sz=(μ.O x).sz∧(μ'.O x).es=(μ.O x).es:=fun x=>by
   by_cases e:x=r
   · subst e;simp[μ',az]
   · simp[μ',aV _ _ e]
 have le:Le μ μ':=
   ⟨Nat.le_refl _,fun b hb h=> ⟨rfl,fun ru=>h (zB (r:=r) (w':=μ.w) (by simp) ru)⟩,fun x=>by rw[(b5 x).1];exact Nat.le_refl _,fun x _=> ⟨rfl,(b5 x).2.1⟩,rfl,rfl,rfl,fun _ _=>rfl⟩
 refine⟨le,fun x es bl=> ?_,fun r1 r2 cO h1 h2 h3 h4=> ?_,fun x h1 h2 hb=>ho.qJ x (by rw[(b5 x).2.2] at h1;exact h1) h2 hb,ho.blt⟩
 · rw[(b5 x).2.2] at bl
   exact eJ.bZ le (ho.ok x es bl) (b5 x).2.1 rfl fun _=>rfl
 · rw[(b5 r1).2.2] at h1
   rw[(b5 r2).2.2] at h2
   exact ho.inj r1 r2 cO h1 h2 h3 h4
theorem DU {X:Ctx} {μ:Mu} (ho:bc X μ) (r:Nat) {es':List V} (h0: (μ.O r).es.isSome=true) (ck:0 < (μ.O r).sz) (hl:es'.length≤(μ.φ r).cap) (nS:es'.all (aO · (μ.O r).sz)=true)
   (hc: (μ.φ r).cap=0∨ ∃c T vs,μ.w.heap[(μ.φ r).cK]? =some (.cells c T (0,0))∧(μ.φ r).base+(μ.φ r).cap*(μ.O r).sz≤c.size∧aj X μ es' vs∧
     dA μ.w (μ.φ r).cK (μ.φ r).base (μ.O r).sz vs):
   let μ':Mu:=⟨μ.w,μ.φ,dg μ.O r {μ.O r with es:=some es'}⟩
   Le μ μ'∧bc X μ':=by
 intro μ'
 have b5: ∀x,(μ'.O x).gen=(μ.O x).gen∧(μ'.O x).sz=(μ.O x).sz∧(μ'.O x).es.isSome=(μ.O x).es.isSome∧(μ'.O x).fz=(μ.O x).fz:=fun x=>by
   by_cases e:x=r
   · subst e;simp[μ',az,h0]
   · simp[μ',aV _ _ e]
 have fF: ∀b,μ'.own b→μ.own b:=by
   rintro b ⟨r',h1,h2,h3,h4⟩
   rw[(b5 r').2.2.1] at h1
   rw[(b5 r').2.2.2] at h2
   exact⟨r',h1,h2,h3,h4⟩
 have le:Le μ μ':=
   ⟨Nat.le_refl _,fun b hb h=> ⟨rfl,fun ru=>h (fF b ru)⟩,fun x=>by rw[(b5 x).1];exact Nat.le_refl _,fun x _=> ⟨rfl,(b5 x).2.1⟩,rfl,rfl,rfl,fun _ _=>rfl⟩
 refine⟨le,fun x es bl=> ?_,fun r1 r2 cO h1 h2 h3 h4=> ?_,fun x h1 h2 hb=>ho.qJ x (by rw[(b5 x).2.2.1] at h1;exact h1) h2 hb,ho.blt⟩
 · by_cases e:x=r
   · subst e
     have:es=es':=by simp[μ',az] at bl;exact bl.symm
     subst this
     refine .inl ?_
     unfold jN
     rw[(b5 x).2.1]
     refine⟨ck,hl,nS,hc.imp id ?_⟩
     rintro⟨c,T,vs,q1,q2,q3,q4⟩
     exact⟨c,T,vs,q1,q2,aj.mono le q3,q4⟩
   · have hx:μ'.O x=μ.O x:=by simp[μ',aV _ _ e]
     rw[hx] at bl
     exact eJ.bZ le (ho.ok x es bl) (by rw[hx]) rfl fun _=>rfl
 · rw[(b5 r1).2.2.1] at h1
   rw[(b5 r2).2.2.1] at h2
   exact ho.inj r1 r2 cO h1 h2 h3 h4
theorem ql {X:Ctx} {μ:Mu} (ho:bc X μ) (r:Nat) (ob:Go.Obj) (es:List V) (EV:lq X μ ob es):
   let μ':Mu:=⟨μ.w.alloc ob,dg μ.φ r ⟨μ.w.heap.size,0,1⟩,dg μ.O r {gen:=(μ.O r).gen+1,sz:=0,arr:=false,fz:=false,es:=some es}⟩
   Le μ μ'∧bc X μ':=by
 intro μ'
 have ie: ∀b,b<μ.w.heap.size→μ'.w.heap[b]? =μ.w.heap[b]? :=fun b hb=>heap_alloc_old _ _ _ hb
 have zC:μ'.w.heap.size=μ.w.heap.size+1:=Array.size_push _
 have oP:μ'.w.heap[μ.w.heap.size]? =some ob:=heap_alloc_new _ _
 have le:Le μ μ':=by
   refine⟨by omega,fun b hb eh=> ⟨ie b hb,?_⟩,fun r'=> ?_,fun r' e=> ?_,rfl,rfl,rfl,fun a ha=> ?_⟩
   · rintro⟨r',h1,h2,h3,h4⟩
     by_cases e:r'=r
     · subst e
       simp only[μ',az] at h4
       omega
     · simp only[μ',aV _ _ e] at h1 h2 h3 h4
       exact eh ⟨r',h1,h2,h3,h4⟩
   · by_cases e:r'=r
     · subst e;simp[μ',az]
     · simp[μ',aV _ _ e]
   · by_cases e':r'=r
     · subst e';simp[μ',az] at e
     · simp[μ',aV _ _ e']
   · simp only[World.frozen?,ie a.block ha]
 refine⟨le,fun r' es' eS=> ?_,fun r1 r2 cO h1 h2 h3 h4=> ?_,fun r' h1 h2 hb=> ?_,fun b hb=>Nat.lt_of_lt_of_le (ho.blt b hb) le.size⟩
 rotate_left 2
 · by_cases e:r'=r
   · subst e
     simp only[μ',az] at hb
     have:=ho.blt _ hb
     omega
   · simp only[μ',aV _ _ e] at h1 h2 hb
     exact ho.qJ r' h1 h2 hb
 · by_cases e:r'=r
   · subst e
     simp only[μ',az] at eS
     injection eS with eS
     subst eS
     refine .inr ?_
     unfold qj
     simp only[μ',az]
     exact⟨trivial,by simp,ob,oP,EV.mono le⟩
   · have hO:μ'.O r'=μ.O r':=by simp[μ',aV _ _ e]
     have hφ:μ'.φ r'=μ.φ r':=by simp[μ',aV _ _ e]
     rw[hO] at eS
     exact eJ.bZ le (ho.ok r' es' eS) (by rw[hO]) hφ fun hc=>ie _ (eJ.cK (ho.ok r' es' eS) hc)
 · have hold: ∀r',r'≠r→(μ.O r').es.isSome=true→(μ.φ r').cap≠0→(μ.φ r').cK<μ.w.heap.size:=fun r' _ hs yK=>by
     obtain⟨es',he⟩:=Option.isSome_iff_exists.1 hs
     exact eJ.cK (ho.ok r' es' he) yK
   by_cases e1:r1=r
   · subst e1
     have e2:r2≠r1:=fun e=>cO e.symm
     simp only[μ',az,aV _ _ e2] at h1 h2 h3 h4 ⊢
     have:=hold r2 e2 h2 h4
     omega
   · by_cases e2:r2=r
     · subst e2
       simp only[μ',az,aV _ _ e1] at h1 h2 h3 h4 ⊢
       have:=hold r1 e1 h1 h3
       omega
     · simp only[μ',aV _ _ e1,aV _ _ e2] at h1 h2 h3 h4 ⊢
       exact ho.inj r1 r2 cO h1 h2 h3 h4
theorem oS {X:Ctx} {μ:Mu} (ho:bc X μ) (r:Nat) {es es':List V} {ob ob':Go.Obj} (bl: (μ.O r).es=some es) (fN: (μ.O r).fz=false) (ck: (μ.O r).sz=0)
   (hb:μ.w.heap[(μ.φ r).cK]? =some ob) (eB: (μ.φ r).cap≠0) (EV:lq X μ ob es) (Xo:lq X μ ob' es'):
   let μ':Mu:=⟨{μ.w with heap:=μ.w.heap.set! (μ.φ r).cK ob'},μ.φ,dg μ.O r {μ.O r with es:=some es'}⟩
   Le μ μ'∧bc X μ':=by
 intro μ'
 have bp: (μ.φ r).cK<μ.w.heap.size:=(Array.getElem?_eq_some_iff.1 hb).1
 have oP:μ'.w.heap[(μ.φ r).cK]? =some ob':=by simp[μ',Array.getElem?_setIfInBounds,bp]
 have oQ: ∀b,b≠(μ.φ r).cK→μ'.w.heap[b]? =μ.w.heap[b]? :=fun b cO=>by simp[μ',Array.getElem?_setIfInBounds,Ne.symm cO]
 have zC:μ'.w.heap.size=μ.w.heap.size:=by simp[μ']
 have fF:μ.own (μ.φ r).cK:=⟨r,by simp[bl],fN,eB,rfl⟩
 have r8: ∀x,(μ'.O x).gen=(μ.O x).gen∧(μ'.O x).sz=(μ.O x).sz∧(μ'.O x).fz=(μ.O x).fz∧(μ'.O x).es.isSome=(μ.O x).es.isSome:=fun x=>by
   by_cases e:x=r
   · subst e;simp[μ',az,bl]
   · simp[μ',aV _ _ e]
 have Gu: ∀b,μ'.own b→μ.own b:=by
   rintro b ⟨r',h1,h2,h3,h4⟩
   rw[(r8 r').2.2.2] at h1
   rw[(r8 r').2.2.1] at h2
   exact⟨r',h1,h2,h3,h4⟩
 have le:Le μ μ':=by
   refine⟨by omega,fun b ru eh=> ⟨oQ b (fun e=>eh (e ▸ fF)),fun h=>eh (Gu b h)⟩,fun r'=>by rw[(r8 r').1];exact Nat.le_refl _,fun r' _=> ⟨rfl,(r8 r').2.1⟩,rfl,rfl,rfl,fun a ha=> ?_⟩
   by_cases e:a.block=(μ.φ r).cK
   · rw[Xo.live a μ'.w (by rw[e];exact oP),EV.live a μ.w (by rw[e];exact hb)]
   · simp only[World.frozen?,oQ _ e]
 refine⟨le,fun r' Xn oR=> ?_,fun r1 r2 cO h1 h2 h3 h4=> ?_,fun r' h1 h2 hb=> ?_,fun b hb=>Nat.lt_of_lt_of_le (ho.blt b hb) le.size⟩
 · by_cases e:r'=r
   · subst e
     simp only[μ',az] at oR
     injection oR with oR
     subst oR
     refine .inr ?_
     unfold qj
     rw[(r8 r').2.1]
     exact⟨ck,eB,ob',oP,Xo.mono le⟩
   · have hO:μ'.O r'=μ.O r':=by simp[μ',aV _ _ e]
     rw[hO] at oR
     exact eJ.bZ le (ho.ok r' Xn oR) (by rw[hO]) rfl fun hcr=>oQ _ (ho.inj r' r e (by simp[oR]) (by simp[bl]) hcr eB)
 · rw[(r8 r1).2.2.2] at h1
   rw[(r8 r2).2.2.2] at h2
   exact ho.inj r1 r2 cO h1 h2 h3 h4
 · rw[(r8 r').2.2.2] at h1
   exact ho.qJ r' h1 h2 hb
end Go.AM
namespace Go.AM
open Go Go.RowKit
structure Rel (X:Ctx) (T:Nat→V) (a:Go.Act) (μ:Mu):Prop where
 tmps: ∀t,ak X μ (T t) (a.tmps.getD t undef)
 aY:bc X μ
def ca (X:Ctx) (o:Oper) (a:Go.Act) (μ:Mu) (O':Nat→Obj) (v:V):Prop:=
 ∃val w' φ',((execOp a.eval o).run X.P μ.w= .ok (.value val) w'∨((execOp a.eval o).run X.P μ.w= .ok .skip w'∧val=undef))∧
  ak X ⟨w',φ',O'⟩ v val∧Le μ ⟨w',φ',O'⟩∧bc X ⟨w',φ',O'⟩
theorem aF {X:Ctx} {o:Oper} {a:Go.Act} {μ:Mu} {v:V} {val:Value} (ho:bc X μ) (ag: (execOp a.eval o).run X.P μ.w= .ok (.value val) μ.w)
  (hv:ak X μ v val):ca X o a μ μ.O v:=
 ⟨val,μ.w,μ.φ,.inl ag,hv,Le.refl μ,ho⟩
theorem bS {P:Program} {s:Sem Value} {w w':World} {val:Value} (h:s.run P w= .ok val w'): (do pure (Next.value (←s)):Sem Next).run P w= .ok (.value val) w':=by
 simp[Sem.run_bind,h]
theorem GC {P:Program} {s:Sem Unit} {w w':World} (h:s.run P w= .ok () w'): (do s;pure Next.skip:Sem Next).run P w= .ok .skip w':=by
 simp[Sem.run_bind,h]
theorem bd (C:a9) (x:aQ) (k:V→Act) (σ:St): (ev x k).run C σ=(k (a8 σ x)).run C σ:=by cases x<;>rfl
theorem lz (C:a9): ∀ (xs:List aQ) (k:List V→Act) (σ:St),(fg xs k).run C σ=(k (xs.map (a8 σ))).run C σ
 | [],_,_=>rfl
 | x::xs,k,σ=>by simp only[fg,bd,lz C xs,List.map_cons]
theorem CQ (C:a9) (x:Option aQ) (k:Option V→Act) (σ:St): (vE x k).run C σ=(k (x.map (a8 σ))).run C σ:=by
 cases x with
 | none=>rfl
 | some x=>exact bd C x _ σ
theorem cY {C:a9} {r:Option V} {σ σ':St} {v:V} (h: (cz r).run C σ=some (v,σ')):r=some v∧σ'=σ:=by
 cases r with
 | none=>simp[cz,Act.run] at h
 | some u=>simp only[cz,Act.run,Option.some.injEq,Prod.mk.injEq] at h;exact⟨by rw[h.1],h.2.symm⟩
theorem aR {C:a9} {u v:V} {σ σ':St} (h: (Act.done u).run C σ=some (v,σ')):u=v∧σ'=σ:=by
 simp only[Act.run,Option.some.injEq,Prod.mk.injEq] at h;exact⟨h.1,h.2.symm⟩
theorem av {C:a9} {p:V×St} {σ:St}: (Act.fail).run C σ≠some p:=by simp[Act.run]
theorem n9 {X:Ctx} {μ:Mu} {v:Value} {c:V} (h:nC v=some c):ak X μ c v∧c.aK=true:=by
 unfold nC at h
 split at h<;>first
  | (injection h with h;subst h;simp[ak,V.aK,V.aq])
  | simp at h
theorem mD {X:Ctx} {μ:Mu}: ∀ {vs:List Value} {cs:List V},jk vs=some cs→aj X μ cs vs∧cs.all V.aK=true
 | [],cs,h=>by simp[jk] at h;subst h;simp[aj]
 | v::vs,cs,h=>by
   simp only[jk] at h
   split at h
   · rename_i c ct h1 h2
     injection h with h;subst h
     obtain⟨a1,a2⟩:=n9 (X:=X) (μ:=μ) h1
     obtain⟨b1,b2⟩:=mD (X:=X) (μ:=μ) h2
     simp[aj,a1,a2,b1,b2]
   · simp at h
theorem dE {X:Ctx} {μ:Mu} {v:Value} {c:V} (h:uw v=some c):ak X μ c v∧c.cJ=true:=by
 unfold uw at h
 split at h
 · rename_i cs
   simp only[Option.map_eq_some_iff] at h
   obtain⟨l,h1,rfl⟩:=h
   obtain⟨a1,a2⟩:=mD (X:=X) (μ:=μ) h1
   simp[ak,V.cJ,V.isAgg,a1,a2]
 · obtain⟨a1,a2⟩:=n9 (X:=X) (μ:=μ) h
   exact⟨a1,by simp[V.cJ,a2]⟩
theorem aL {X:Ctx} {μ:Mu} {T:Nat→V} {a:Go.Act} {x:Operand} {y:aQ} (hr:Rel X T a μ) (h:cr X x=some y) (O:Nat→Obj):ak X μ (a8 ⟨T,O⟩ y) (a.eval x):=by
 cases x with
 | tmp t=>simp[cr] at h;subst h;exact hr.tmps t
 | const v=>
   simp only[cr,Option.map_eq_some_iff] at h
   obtain⟨c,h1,rfl⟩:=h
   exact(dE h1).1
 | global g=>simp[cr] at h
 | func f=>
   simp only[cr,Option.map_eq_some_iff] at h
   obtain⟨n,h1,rfl⟩:=h
   simp only[a8,Go.Act.eval,ak]
   exact⟨f,#[],rfl,h1,by simp[aj]⟩
theorem ko {X:Ctx} {μ:Mu} {T:Nat→V} {a:Go.Act} (hr:Rel X T a μ) (O:Nat→Obj): ∀ {xs:List Operand} {ys:List aQ},km X xs=some ys→
   aj X μ (ys.map (a8 ⟨T,O⟩)) (xs.map a.eval)
 | [],ys,h=>by simp[km] at h;subst h;simp[aj]
 | x::xs,ys,h=>by
   simp only[km] at h
   split at h
   · rename_i b bs h1 h2
     injection h with h;subst h
     simp only[List.map_cons,aj]
     exact⟨aL hr h1 O,ko hr O h2⟩
   · simp at h
theorem lA {X:Ctx} {μ:Mu} {e u:V} {x:Value} {off sz:Nat} (h:ak X μ e x) (hp:part true off sz e=some u):
   ∃cs,x= .agg cs∧off+sz≤cs.size∧ak X μ u (.agg (cs.extract off (off+sz))):=by
 cases e<;>simp[part] at hp
 rename_i cs
 obtain⟨h1,h2⟩:=hp
 subst h2
 simp only[ak] at h
 obtain⟨h0,vs,rfl,hv⟩:=h
 have hl:=hv.length
 simp at hl
 refine⟨vs,rfl,by omega,?_⟩
 simp only[ak]
 refine⟨?_,_,rfl,?_⟩
 · simp only[List.all_eq_true] at h0 ⊢
   intro c hc
   exact h0 c (List.mem_of_mem_drop (List.mem_of_mem_take hc))
 · have:=aj.take sz (aj.drop off hv)
   simpa [Array.toList_extract,List.extract_eq_take_drop] using this
theorem j6 {X:Ctx} {μ:Mu} {e u:V} {x:Value} {off sz:Nat} (h:ak X μ e x) (hp:part false off sz e=some u):
   e.cJ=true∧ ∃c,x.cells[off]? =some c∧ak X μ u c:=by
 by_cases ha: ∃cs,e= .agg cs
 · obtain⟨cs,rfl⟩:=ha
   simp only[part] at hp
   simp only[ak] at h
   obtain⟨h0,vs,rfl,hv⟩:=h
   obtain⟨c,h1,h2⟩:=hv.get hp
   exact⟨by simp[V.cJ,V.isAgg],c,by simpa [Value.cells] using h1,h2⟩
 · have:part false off sz e=if e.aK∧off=0 then some e else none:=by
     cases e<;>first| rfl| exact absurd ⟨_,rfl⟩ ha
   rw[this] at hp
   split at hp
   · rename_i hc
     injection hp with hp;subst hp
     refine⟨by simp[V.cJ,hc.1],x,?_,h⟩
     rw[(h.lr hc.1).2,hc.2];simp
   · simp at hp
section
variable {X:Ctx} {h:Hints} {dst:Nat} {E:Env} {C:a9} {o:Oper} {a:Go.Act} {T:Nat→V} {μ:Mu} {v:V} {σ':St}
theorem aj.xO {X:Ctx} {μ:Mu}: ∀ (ks:List Nat) {cs:List V} {vs:List Value},aj X μ cs vs→aj X μ (AM.xO ks cs) vs
 | [],cs,vs,h=>by simpa [AM.xO] using h
 | k::ks,[],vs,h=>by simpa [AM.xO] using h
 | k::ks,c::cs,[],h=>by simp[aj] at h
 | k::ks,c::cs,v::vs,h=>by
   simp only[aj] at h
   simp only[AM.xO,aj]
   refine⟨?_,aj.xO ks h.2⟩
   split
   · obtain⟨a,rfl⟩:=by simpa [ak] using h.1
     simp only[ak]
     exact⟨rfl,rfl,a,0,[],rfl,Nat.le_refl _,by simp[aj],.inl trivial⟩
   · exact h.1
theorem oT: ∀ (ks:List Nat) {cs:List V},cs.all V.aK=true→(AM.xO ks cs).all V.aK=true
 | [],cs,h=>by simpa [AM.xO] using h
 | k::ks,[],h=>by simp[AM.xO]
 | k::ks,c::cs,h=>by
   simp only[List.all_cons,Bool.and_eq_true] at h
   simp only[AM.xO,List.all_cons,Bool.and_eq_true]
   refine⟨?_,oT ks h.2⟩
   split
   · rfl
   · exact h.1
theorem ak.AP {X:Ctx} {μ:Mu} (ks:List Nat) {v:V} {val:Value} (h:ak X μ v val):ak X μ (AM.AP ks v) val:=by
 unfold AM.AP
 split
 · simp only[ak] at h ⊢
   obtain⟨h1,vs,rfl,h2⟩:=h
   exact⟨oT ks h1,vs,rfl,h2.xO ks⟩
 · split
   · obtain⟨a,rfl⟩:=by simpa [ak] using h
     simp only[ak]
     exact⟨rfl,rfl,a,0,[],rfl,Nat.le_refl _,by simp[aj],.inl trivial⟩
   · exact h
 · exact h
theorem ak.Gz {X:Ctx} {μ:Mu} (ks:List Nat) {σ:St} {y:aQ} {val:Value} (h:ak X μ (a8 σ y) val):ak X μ (a8 σ (AM.Gz ks y)) val:=by
 cases y with
 | tmp t=>exact h
 | const v=>exact ak.AP ks h
theorem Mm {x:Operand} {y:aQ} (ks:List Nat) (hr:Rel X T a μ) (ho:o.op= .move x∨o.op= .assign x) (ht:cr X x=some y) (ag: (aw E (.move (Gz ks y))).run C ⟨T,μ.O⟩=some (v,σ')):
  σ'.T=T∧ca X o a μ σ'.O v:=by
 simp only[aw,bd] at ag
 obtain⟨rfl,rfl⟩:=aR ag
 refine⟨rfl,aF hr.aY ?_ (ak.Gz ks (aL hr ht _))⟩
 rcases ho with ho| ho<;>simp[execOp,ho]
theorem KP {h:Hints} {dst:Nat} {x:Operand} {nT:rP} (hr:Rel X T a μ) (ho:o.op= .move x∨o.op= .assign x) (ht:ux X h dst x=some nT) (ag: (aw E nT).run C ⟨T,μ.O⟩=some (v,σ')):
   σ'.T=T∧ca X o a μ σ'.O v:=by
 unfold ux at ht
 split at ht
 · rename_i r sz hn hb
   injection ht with ht;subst ht
   simp only[aw] at ag
   split at ag
   · rename_i ck
     simp only[Act.run,Option.some.injEq,Prod.mk.injEq] at ag
     obtain⟨rfl,rfl⟩:=ag
     have hx:x= .const (.slice none 0 0):=by
       unfold isNil at hn
       split at hn
       · rfl
       · simp at hn
     subst hx
     obtain⟨le,rR⟩:=DS hr.aY r sz ck
     refine⟨rfl,.slice none 0 0,μ.w,dg μ.φ r ⟨0,0,0⟩,.inl ?_,?_,le,rR⟩
     · rcases ho with ho| ho<;>simp[execOp,ho,Go.Act.eval]
     · simp only[ak,az]
       exact⟨_,0,rfl,Nat.le_refl _,Nat.le_refl _,fun _=> ⟨ck,rfl,.inl rfl⟩⟩
   · exact absurd ag av
 · split at ht
   · rename_i r hrn
     simp only[Option.map_eq_some_iff] at ht
     obtain⟨y,h1,rfl⟩:=ht
     simp only[aw,bd] at ag
     have bQ:=aL hr h1 μ.O
     have iF: (execOp a.eval o).run X.P μ.w= .ok (.value (a.eval x)) μ.w:=by rcases ho with ho| ho<;>simp[execOp,ho]
     split at ag
     · rename_i r1 g off len he
       rw[he] at bQ
       split at ag
       · obtain⟨rfl,rfl⟩:=aR ag
         exact⟨rfl,aF hr.aY iF bQ⟩
       · rename_i cO
         simp only[Act.run] at ag
         split at ag
         · rename_i hg
           simp only[Act.run,Option.some.injEq,Prod.mk.injEq] at ag
           obtain⟨rfl,rfl⟩:=ag
           obtain⟨le,rR⟩:=Ja hr.aY (r:=r) (r1:=r1) cO
           refine⟨rfl,a.eval x,μ.w,dg μ.φ r (μ.φ r1),.inl iF,?_,le,rR⟩
           simp only[ak] at bQ ⊢
           obtain⟨ad,cap,k1,k2,k3,k4⟩:=bQ
           obtain⟨k5,k6⟩:=k4 hg
           have uD:r≠r1:=fun e=>cO e.symm
           simp only[aV _ _ uD,az]
           exact⟨ad,cap,k1,k2,Nat.le_refl _,fun _=> ⟨k5,k6⟩⟩
         · simp[Act.run] at ag
     · obtain⟨rfl,rfl⟩:=aR ag
       exact⟨rfl,aF hr.aY iF bQ⟩
   · simp only[Option.map_eq_some_iff] at ht
     obtain⟨y,h1,rfl⟩:=ht
     exact Mm _ hr ho h1 ag
theorem Jb {c p q:Operand} {c' p' q':aQ} (hr:Rel X T a μ) (ho:o.op= .pick c p q) (h1:cr X c=some c') (h2:cr X p=some p') (h3:cr X q=some q')
   (ag: (aw E (.pick c' p' q')).run C ⟨T,μ.O⟩=some (v,σ')):σ'.T=T∧ca X o a μ σ'.O v:=by
 simp only[aw,bd] at ag
 have hc:=aL hr h1 μ.O
 split at ag
 · rename_i e
   rw[e] at hc
   simp only[ak] at hc
   rw[bd] at ag
   obtain⟨rfl,rfl⟩:=aR ag
   refine⟨rfl,aF hr.aY ?_ (aL hr h2 _)⟩
   simp[execOp,ho,hc,asBool,Sem.run_bind]
 · rename_i e
   rw[e] at hc
   simp only[ak] at hc
   rw[bd] at ag
   obtain⟨rfl,rfl⟩:=aR ag
   refine⟨rfl,aF hr.aY ?_ (aL hr h3 _)⟩
   simp[execOp,ho,hc,asBool,Sem.run_bind]
 · exact absurd ag av
theorem zD {x:Operand} {y:aQ} (hr:Rel X T a μ) (ho:o.op= .nilCheck x) (ht:cr X x=some y) (ag: (aw E (.nilCheck y)).run C ⟨T,μ.O⟩=some (v,σ')):
   σ'.T=T∧ca X o a μ σ'.O v:=by
 simp only[aw,bd] at ag
 have hx:=aL hr ht μ.O
 split at ag
 · rename_i e
   obtain⟨rfl,rfl⟩:=aR ag
   refine⟨rfl,aF hr.aY ?_ (e ▸ hx)⟩
   rw[e] at hx
   simp only[ak] at hx
   obtain⟨p,hp,_⟩:=hx
   simp[execOp,ho,hp]
 · rename_i e
   obtain⟨rfl,rfl⟩:=aR ag
   refine⟨rfl,aF hr.aY ?_ (e ▸ hx)⟩
   rw[e] at hx
   simp only[ak] at hx
   obtain⟨_,_,b,o',sz,q,hp,_⟩:=hx
   simp[execOp,ho,hp]
 · rename_i e
   obtain⟨rfl,rfl⟩:=aR ag
   refine⟨rfl,aF hr.aY ?_ (e ▸ hx)⟩
   rw[e] at hx
   simp only[ak] at hx
   obtain⟨_,_,q,hp,_⟩:=hx
   simp[execOp,ho,hp]
 · rename_i e
   obtain⟨rfl,rfl⟩:=aR ag
   refine⟨rfl,aF hr.aY ?_ (e ▸ hx)⟩
   rw[e] at hx
   simp only[ak] at hx
   obtain⟨F,cv,hp,_⟩:=hx
   simp[execOp,ho,hp]
 · rename_i e
   obtain⟨rfl,rfl⟩:=aR ag
   refine⟨rfl,aF hr.aY ?_ (e ▸ hx)⟩
   rw[e] at hx
   simp only[ak] at hx
   obtain⟨F,cv,hp,_⟩:=hx
   simp[execOp,ho,hp]
 · exact absurd ag av
theorem xX {s:TypeId} {x:Operand} {i:Nat} {y:aQ} {fs:Array Field} {f:Field} {n:Nat} (hr:Rel X T a μ) (ho:o.op= .fieldAddr s x i) (ht:cr X x=some y)
   (hd:aZ X s=some (.struct fs)) (hf:fs[i]? =some f) (hn:bq X f.type=some (n+1)) (ag: (aw E (.fieldAddr f.offset y)).run C ⟨T,μ.O⟩=some (v,σ')):
   σ'.T=T∧ca X o a μ σ'.O v:=by
 simp only[aw,bd] at ag
 have hx:=aL hr ht μ.O
 have hi: ∃inf,X.P.info? f.type=some inf∧inf.size=n+1:=by
   simpa [bq,info] using hn
 obtain⟨inf,sP,By⟩:=hi
 have ck:X.P.cellsOf f.type=n+1:=by simp[Program.cellsOf,sP,By]
 have key: ∀p:Addr,a.eval x= .pointer (some p)→(execOp a.eval o).run X.P μ.w= .ok (.value (.pointer (some (p.add f.offset)))) μ.w:=fun p hp=>by
   simp only[execOp,ho]
   refine bS ?_
   simp[Instr.fieldAt,Sem.run_bind,run_underlying hd,hf,Instr.sureAddr,hp,fieldPlace,run_sizeOf (w:=μ.w) sP,ck]
 have qg: ∀ (b q:Nat),(⟨b,q,none⟩:Addr).add f.offset=⟨b,q+f.offset,none⟩:=fun b q=>by unfold Addr.add;split<;>simp_all
 split at ag
 · rename_i e
   obtain⟨rfl,rfl⟩:=aR ag
   rw[e] at hx
   simp only[ak] at hx
   obtain⟨p,hp,h1,h2⟩:=hx
   refine⟨rfl,aF hr.aY (key p hp) ?_⟩
   simp only[ak]
   refine⟨_,rfl,h1,fun eg=> ⟨(h2 eg).1,?_⟩⟩
   rw[(h2 eg).2,qg];simp[Nat.add_assoc]
 · rename_i e
   obtain⟨rfl,rfl⟩:=aR ag
   rw[e] at hx
   simp only[ak] at hx
   obtain⟨h0,jC,b,o',sz,q,hp,h1,h2,h3,h4⟩:=hx
   refine⟨rfl,aF hr.aY (key _ hp) ?_⟩
   simp only[ak]
   exact⟨h0,jC,b,o',sz,q,by rw[qg];simp[Nat.add_assoc],h1,h2,h3,h4⟩
 · rename_i e
   obtain⟨rfl,rfl⟩:=aR ag
   rw[e] at hx
   simp only[ak] at hx
   obtain⟨h0,jC,q,hp,h1,h2,h3,h4⟩:=hx
   refine⟨rfl,aF hr.aY (key _ hp) ?_⟩
   simp only[ak]
   exact⟨h0,jC,q,by rw[qg];simp[Nat.add_assoc],h1,h2,h3,h4⟩
 · exact absurd ag av
theorem Bz {x:Operand} {i:Nat} {y:aQ} (hr:Rel X T a μ) (ho:o.op= .extract x i) (ht:cr X x=some y) (ag: (aw E (.extract y i)).run C ⟨T,μ.O⟩=some (v,σ')):
   σ'.T=T∧ca X o a μ σ'.O v:=by
 simp only[aw,bd] at ag
 have hx:=aL hr ht μ.O
 split at ag
 · rename_i vs e
   obtain⟨h1,rfl⟩:=cY ag
   rw[e] at hx
   simp only[ak] at hx
   obtain⟨us,hu,hv⟩:=hx
   obtain⟨c,h2,h3⟩:=hv.get h1
   refine⟨rfl,aF hr.aY ?_ h3⟩
   simp only[execOp,ho]
   refine bS ?_
   have GD:us[i]? =some c:=by simpa using h2
   simp[Instr.extract,hu,GD]
 · exact absurd ag av
theorem zE {f:FuncId} {first caps:Array Operand} {n:Nat} {cs:List aQ} (hr:Rel X T a μ) (ho:o.op= .makeFunc (.func f) first caps) (Xp:first.isEmpty=true)
   (hn:X.gq f=some n) (ht:km X caps.toList=some cs) (ag: (aw E (.tV n cs)).run C ⟨T,μ.O⟩=some (v,σ')):σ'.T=T∧ca X o a μ σ'.O v:=by
 simp only[aw,lz] at ag
 obtain⟨rfl,rfl⟩:=aR ag
 have hx:=ko hr μ.O ht
 obtain rfl:first= #[]:=by simpa using Xp
 refine⟨rfl,aF (val:= .func (.func f) #[] (caps.map a.eval)) hr.aY ?_ ?_⟩
 · simp[execOp,ho,Instr.makeFunc,Sem.run_bind]
 · simp only[ak]
   exact⟨f,_,rfl,hn,by simpa using hx⟩
theorem zF {X:Ctx} {μ:Mu} {a:Go.Act} (σ:St): ∀ (xs:List Operand),aj X μ ((xs.map fun _=>aQ.const .any).map (a8 σ)) (xs.map a.eval)
 | []=>by simp[aj]
 | x::xs=>by
   simp only[List.map_cons,aj]
   exact⟨by simp[a8,ak],zF σ xs⟩
theorem xY {f:FuncId} {first caps:Array Operand} {n:Nat} {cs:List aQ} {k:Bool} (hr:Rel X T a μ) (ho:o.op= .makeFunc (.func f) first caps) (Xp:caps.isEmpty=true)
   (hn:X.gq f=some n) (ht: (if k=true then some (first.toList.map fun _=>aQ.const .any) else km X first.toList)=some cs) (ag: (aw E (.pQ n cs)).run C ⟨T,μ.O⟩=some (v,σ')):σ'.T=T∧ca X o a μ σ'.O v:=by
 simp only[aw,lz] at ag
 obtain⟨rfl,rfl⟩:=aR ag
 have hx:aj X μ (cs.map (a8 ⟨T,μ.O⟩)) (first.toList.map a.eval):=by
   split at ht
   · injection ht with ht;subst ht
     exact zF _ _
   · exact ko hr μ.O ht
 obtain rfl:caps= #[]:=by simpa using Xp
 refine⟨rfl,aF (val:= .func (.func f) (first.map a.eval) #[]) hr.aY ?_ ?_⟩
 · simp[execOp,ho,Instr.makeFunc,Sem.run_bind]
 · simp only[ak]
   exact⟨f,_,rfl,hn,by simpa using hx⟩
theorem rv {t:TypeId} {x:Operand} {n:Nat} {y:aQ} (hr:Rel X T a μ) (ho:o.op= .makeInterface t x) (hn:X.iu t=some n) (ht:cr X x=some y)
   (hd: ∃d,aZ X t=some d∧ ∀ms,d≠ .interface ms) (ag: (aw E (.pM n y)).run C ⟨T,μ.O⟩=some (v,σ')):σ'.T=T∧ca X o a μ σ'.O v:=by
 simp only[aw,bd] at ag
 obtain⟨rfl,rfl⟩:=aR ag
 have hx:=aL hr ht μ.O
 obtain⟨d,EW,AR⟩:=hd
 refine⟨rfl,aF (val:= .iface t (a.eval x)) hr.aY ?_ ?_⟩
 · simp only[execOp,ho]
   refine bS ?_
   simp only[Instr.makeInterface,Sem.run_bind,run_underlying EW,Result.andThen_ok]
   cases d<;>first| rfl| exact absurd rfl (AR _)
 · simp only[ak]
   exact⟨t,_,rfl,hn,hx⟩
theorem GF {t:TypeId} {x:Operand} {i:Nat} {y:aQ} {fs:Array Field} {f:Field} {g:Bool} {sz:Nat} (hr:Rel X T a μ) (ho:o.op= .field t x i) (ht:cr X x=some y)
   (hd:aZ X t=some (.struct fs)) (hf:fs[i]? =some f) (hg:fY X f.type=some g) (hn:bq X f.type=some sz)
   (ag: (aw E (.field g f.offset sz y)).run C ⟨T,μ.O⟩=some (v,σ')):σ'.T=T∧ca X o a μ σ'.O v:=by
 simp only[aw,bd] at ag
 split at ag
 case isFalse=>exact absurd ag av
 rename_i DV
 obtain⟨hp,rfl⟩:=cY ag
 have hx:=aL hr ht μ.O
 obtain⟨inf,sP,By⟩: ∃inf,X.P.info? f.type=some inf∧inf.size=sz:=by simpa [bq,info] using hn
 have ck:X.P.cellsOf f.type=sz:=by simp[Program.cellsOf,sP,By]
 obtain⟨d,CR⟩: ∃d,X.P.underlying f.type=some d:=by
   simp only[fY,aZ,Option.map_eq_some_iff] at hg
   obtain⟨d,h1,_⟩:=hg;exact⟨d,h1⟩
 have GG: (isAgg f.type).run X.P μ.w= .ok g μ.w:=by
   simp only[fY,aZ,CR,Option.map_some,Option.some.injEq] at hg
   simp only[isAgg,Sem.run_bind,run_underlying CR,Result.andThen_ok]
   subst hg
   cases d<;>rfl
 cases g with
 | true=>
   obtain⟨cs,hc,hle,hv⟩:=lA hx hp
   refine⟨rfl,aF hr.aY ?_ hv⟩
   simp only[execOp,ho]
   refine bS ?_
   simp[Instr.field,Sem.run_bind,run_underlying hd,hf,part,GG,hc,asAgg,run_sizeOf (w:=μ.w) sP,ck,Go.part]
 | false=>
   obtain⟨_,c,hc,hv⟩:=j6 hx hp
   cases hy:a8 ⟨T,μ.O⟩ y<;>rw[hy] at DV<;>simp[V.isAgg] at DV
   rw[hy] at hx
   simp only[ak] at hx
   obtain⟨_,cs,kI,_⟩:=hx
   rw[kI] at hc
   refine⟨rfl,aF hr.aY ?_ hv⟩
   simp only[execOp,ho]
   refine bS ?_
   have yK:cs[f.offset]? =some c:=by simpa [Value.cells] using hc
   simp[Instr.field,Sem.run_bind,run_underlying hd,hf,GG,kI,asAgg,Go.part,yK]
end
end Go.AM
namespace Go.AM
open Go Go.RowKit
theorem nD {X:Ctx} {t:TypeId} {g:Bool} (hg:fY X t=some g) (w:World): (isAgg t).run X.P w= .ok g w:=by
 simp only[fY,aZ,Option.map_eq_some_iff] at hg
 obtain⟨d,CR,hg⟩:=hg
 simp only[isAgg,Sem.run_bind,run_underlying CR,Result.andThen_ok]
 subst hg
 cases d<;>rfl
theorem cN {X:Ctx} {t:TypeId} {sz:Nat} (hn:bq X t=some sz) (w:World): (sizeOf t).run X.P w= .ok sz w:=by
 obtain⟨inf,sP,By⟩: ∃inf,X.P.info? t=some inf∧inf.size=sz:=by simpa [bq,info] using hn
 have ck:X.P.cellsOf t=sz:=by simp[Program.cellsOf,sP,By]
 rw[run_sizeOf (w:=w) sP,ck]
theorem qm {X:Ctx} {t:TypeId} {sz:Nat} (hg:fY X t=some true) (hn:bq X t=some sz) (cs:Array Value) (off:Nat) (w:World):
  (Go.part t cs off).run X.P w= .ok (.agg (cs.extract off (off+sz))) w:=by
 simp[Go.part,Sem.run_bind,nD hg,cN hn]
theorem fj {X:Ctx} {t:TypeId} (hg:fY X t=some false) (cs:Array Value) (off:Nat) (c:Value) (hc:cs[off]? =some c) (w:World):
  (Go.part t cs off).run X.P w= .ok c w:=by
 simp[Go.part,Sem.run_bind,nD hg,hc]
theorem uE: ∀ (ks:List Nat) {I6:List Nat} {cs ds:List V} {b:Bool},ez (ks++I6) cs ds=some b→
   ∃b1 b2,ez ks (cs.take ks.length) (ds.take ks.length)=some b1∧ez I6 (cs.drop ks.length) (ds.drop ks.length)=some b2∧b=(b1 &&b2)
 | [],I6,cs,ds,b,h=> ⟨true,b,by simp[ez],by simpa using h,by simp⟩
 | k::ks,I6,[],_,b,h=>by simp[ez] at h
 | k::ks,I6,_::_,[],b,h=>by simp[ez] at h
 | k::ks,I6,c::cs,d::ds,b,h=>by
   simp only[List.cons_append,ez] at h
   split at h
   · rename_i x y hx hy
     injection h with h;subst h
     obtain⟨b1,b2,h1,h2,h3⟩:=uE ks hy
     refine⟨x &&b1,b2,?_,by simpa using h2,by rw[h3,Bool.and_assoc]⟩
     simp[ez,hx,h1]
   · simp at h
theorem r9: ∀ {ks:List Nat} {cs ds:List V} {b:Bool},ez ks cs ds=some b→cs.length=ks.length∧ds.length=ks.length
 | [],[],[],_,_=> ⟨rfl,rfl⟩
 | [],[],_::_,_,h=>by simp[ez] at h
 | [],_::_,_,_,h=>by simp[ez] at h
 | _::_,[],_,_,h=>by simp[ez] at h
 | _::_,_::_,[],_,h=>by simp[ez] at h
 | k::ks,c::cs,d::ds,b,h=>by
   simp only[ez] at h
   split at h
   · rename_i x y hx hy
     obtain⟨h1,h2⟩:=r9 hy
     simp[h1,h2]
   · simp at h
theorem CS {X:Ctx} {μ:Mu} {t:TypeId} {m k:Nat} {c e:V} {x y:Value} {b:Bool} {D:TypeDesc} (hd:aZ X t=some D)
   (hk: (k=0∧D= .bool)∨(k=1∧ ∃q,D= .int q)∨(k=2∧D= .string))
   (hc:ak X μ c x) (he:ak X μ e y) (hb:vM k c e=some b) (w:World): (Op.equalIn (m+1) t x y).run X.P w= .ok b w:=by
 unfold vM at hb
 split at hb
 · injection hb with hb;subst hb
   simp only[ak] at hc he
   subst hc;subst he
   rcases hk with⟨_,rfl⟩ | ⟨h,_⟩ | ⟨h,_⟩
   · exact run_equalIn_bool' w m t _ _ hd
   · cases h
   · cases h
 · split at hb
   · injection hb with hb;subst hb
     simp only[ak] at hc he
     subst hc;subst he
     rename_i hkk
     subst hkk
     rcases hk with⟨h,_⟩ | ⟨_,q,rfl⟩ | ⟨h,_⟩
     · cases h
     · exact run_equalIn_int w m t _ _ _ _ hd
     · cases h
   · simp at hb
 · injection hb with hb;subst hb
   simp only[ak] at hc he
   obtain⟨p,rfl,hp⟩:=hc
   obtain⟨q,rfl,hq⟩:=he
   rcases hk with⟨h,_⟩ | ⟨h,_⟩ | ⟨_,rfl⟩
   · cases h
   · cases h
   · rw[run_equalIn_string w m t _ _ hd]
     congr 1
     rw[ByteArray.toList_eq,ByteArray.toList_eq,hp,hq]
     rw[Bool.eq_iff_iff];simp
 · simp at hb
theorem sb {X:Ctx} {μ:Mu} (w:World) {e:TypeId} {k m:Nat} (hg:fY X e=some false) (h1:X.P.cellsOf e=1)
   (ih: ∀c f x y b,ak X μ c x→ak X μ f y→vM k c f=some b→(Op.equalIn m e x y).run X.P w= .ok b w):
   ∀ (n off:Nat) (cs ds:List V) (xs ys:List Value) (b:Bool),aj X μ cs xs→aj X μ ds ys→ez (List.replicate n k) (cs.drop off) (ds.drop off)=some b→
     (Op.eqItems m e (X.P.cellsOf e) xs.toArray ys.toArray (List.range' off n)).run X.P w= .ok b w
 | 0,off,cs,ds,xs,ys,b,hx,hy,hb=>by
   cases hc:cs.drop off<;>cases he:ds.drop off<;>rw[hc,he] at hb<;>simp[ez] at hb
   subst hb
   simp[Op.eqItems]
 | n+1,off,cs,ds,xs,ys,b,hx,hy,hb=>by
   rw[List.replicate_succ] at hb
   cases hc:cs.drop off with
   | nil=>rw[hc] at hb;simp[ez] at hb
   | cons c ct=>
     cases he:ds.drop off with
     | nil=>rw[hc,he] at hb;simp[ez] at hb
     | cons f ds'=>
       rw[hc,he] at hb
       simp only[ez] at hb
       split at hb
       · rename_i p q hp hq
         injection hb with hb;subst hb
         have gc:cs[off]? =some c:=by
          have:=congrArg (fun l=>l[0]?) hc
          simpa using this
         have gf:ds[off]? =some f:=by
          have:=congrArg (fun l=>l[0]?) he
          simpa using this
         obtain⟨x,gx,rx⟩:=hx.get gc
         obtain⟨y,gy,ry⟩:=hy.get gf
         have td:cs.drop (off+1)=ct:=by
          have:=congrArg (List.drop 1) hc
          simpa [List.drop_drop] using this
         have he2:ds.drop (off+1)=ds':=by
          have:=congrArg (List.drop 1) he
          simpa [List.drop_drop] using this
         have rest:=sb w hg h1 ih n (off+1) cs ds xs ys q hx hy (by rw[td,he2];exact hq)
         have px:xs.toArray[off*X.P.cellsOf e]? =some x:=by rw[h1];simpa using gx
         have py:ys.toArray[off*X.P.cellsOf e]? =some y:=by rw[h1];simpa using gy
         rw[List.range'_succ]
         simp only[Op.eqItems,Sem.run_bind,fj hg _ _ _ px,fj hg _ _ _ py,Result.andThen_ok,ih c f x y p rx ry hp]
         cases p
         · simp
         · simpa using rest
       · simp at hb
theorem Mn {   X:Ctx} {μ:Mu} (w:World): ∀d:Nat,
   (∀t ks cs ds xs ys b m,j5 X d t=some ks→d≤m→aj X μ cs xs→aj X μ ds ys→ez ks cs ds=some b→
     bq X t=some ks.length∧((fY X t=some true∧(Op.equalIn m t (.agg xs.toArray) (.agg ys.toArray)).run X.P w= .ok b w)∨
       (fY X t=some false∧ks.length=1∧ ∃x y,xs=[x]∧ys=[y]∧(Op.equalIn m t x y).run X.P w= .ok b w)))∧
   (∀fs off ks cs ds xs ys b m,rq X d fs off=some ks→d≤m→aj X μ cs xs→aj X μ ds ys→ez ks (cs.drop off) (ds.drop off)=some b→
     (Op.eqFields m xs.toArray ys.toArray fs).run X.P w= .ok b w):=by
 intro d
 induction d with
 | zero=>exact⟨fun _ _ _ _ _ _ _ _ h=>by simp[j5] at h,fun _ _ _ _ _ _ _ _ _ h=>by simp[rq] at h⟩
 | succ d ih=>
   refine⟨fun t ks cs ds xs ys b m hk hm hx hy hb=> ?_,fun fs off ks cs ds xs ys b m hk hm hx hy hb=> ?_⟩
   · obtain⟨ m,rfl⟩: ∃m',m=m'+1:=⟨m - 1,by omega⟩
     have scalar: ∀ (D:TypeDesc) (k:Nat),aZ X t=some D→((k=0∧D= .bool)∨(k=1∧ ∃q,D= .int q)∨(k=2∧D= .string))→bq X t=some 1→ks=[k]→
         bq X t=some ks.length∧((fY X t=some true∧(Op.equalIn (m+1) t (.agg xs.toArray) (.agg ys.toArray)).run X.P w= .ok b w)∨
       (fY X t=some false∧ks.length=1∧ ∃x y,xs=[x]∧ys=[y]∧(Op.equalIn (m+1) t x y).run X.P w= .ok b w)):=by
       intro D k hd hD hs e
       subst e
       obtain⟨l1,l2⟩:=r9 hb
       have lx:=hx.length
       have ly:=hy.length
       match cs,ds,xs,ys,l1,l2,lx,ly with
       | [c],[e],[x],[y],_,_,_,_=>
         simp only[aj,and_true] at hx hy
         simp only[ez,Bool.and_true] at hb
         have ru:vM k c e=some b:=by
           cases hq:vM k c e<;>rw[hq] at hb<;>simp at hb;rw[hb]
         refine⟨by simpa using hs,.inr ⟨?_,rfl,x,y,rfl,rfl,CS hd hD hx hy ru w⟩⟩
         simp only[fY,hd,Option.map_some]
         rcases hD with⟨_,rfl⟩ | ⟨_,q,rfl⟩ | ⟨_,rfl⟩ <;>rfl
     simp only[j5] at hk
     split at hk
     · split at hk<;>simp at hk
       rename_i hd hs
       exact scalar _ 0 hd (by simp) hs hk.symm
     · split at hk<;>simp at hk
       rename_i hd hs
       exact scalar _ 1 hd (by simp) hs hk.symm
     · split at hk<;>simp at hk
       rename_i hd hs
       exact scalar _ 2 hd (by simp) hs hk.symm
     · rename_i fs hd
       split at hk
       · rename_i nq
         split at hk
         · rename_i I6 hkf
           split at hk
           · rename_i hs
             injection hk with hk;subst hk
             refine⟨hs,.inl ⟨by simp[fY,hd],?_⟩⟩
             have EX:X.P.fieldsOf t=fs:=by
               have kJ:X.P.underlying t=some (.struct fs):=hd
               simp[Program.fieldsOf,kJ]
             rw[run_equalIn_struct w m t _ _ (by rw[EX];exact hd) nq,EX]
             exact ih.2 _ 0 _ cs ds xs ys b m hkf (by omega) hx hy (by simpa using hb)
           · simp at hk
         · simp at hk
       · simp at hk
     · rename_i n e hd
       split at hk
       · rename_i qK
         obtain⟨qK,ck⟩:=qK
         split at hk
         · rename_i k Mo
           injection hk with hk;subst hk
           refine⟨by rw[List.length_replicate];exact ck,.inl ⟨by simp[fY,hd],?_⟩⟩
           have nO:bq X e=some 1:=by
             cases d with
             | zero=>simp[j5] at Mo
             | succ d=>
               simp only[j5] at Mo
               split at Mo<;> (try (split at Mo<;>simp at Mo<;>assumption)) <;> (try (rename_i Xq;simp[fY,Xq] at qK)) <;>simp at Mo
           obtain⟨inf,sP,By⟩: ∃inf,X.P.info? e=some inf∧inf.size=1:=by simpa [bq,info] using nO
           have rk:X.P.cellsOf e=1:=by simp[Program.cellsOf,sP,By]
           rw[run_equalIn_array w m _ _ hd sP,List.range_eq_range']
           refine sb w qK rk (fun c f x y b' rx ry ru=> ?_) n 0 cs ds xs ys b hx hy (by simpa using hb)
           obtain⟨_,hq⟩:=ih.1 e [k] [c] [f] [x] [y] b' m Mo (by omega) (by simp only[aj,and_true];exact rx) (by simp only[aj,and_true];exact ry) (by simp[ez,ru])
           rcases hq with⟨hq,_⟩ | ⟨_,_,x',y',AS,KQ,hq⟩
           · rw[qK] at hq;cases hq
           · obtain rfl:x=x':=by simpa using AS
             obtain rfl:y=y':=by simpa using KQ
             exact hq
         · simp at hk
       · simp at hk
     · simp at hk
   · obtain⟨ m,rfl⟩: ∃m',m=m'+1:=⟨m - 1,by omega⟩
     cases fs with
     | nil=>
       simp only[rq,Option.some.injEq] at hk
       subst hk
       cases hc:cs.drop off<;>cases he:ds.drop off<;>rw[hc,he] at hb<;>simp[ez] at hb
       subst hb
       simp[Op.eqFields]
     | cons f fs=>
       simp only[rq] at hk
       split at hk
       · rename_i hn
         split at hk
         · rename_i k1 CM
           split at hk
           · rename_i k2 IZ
             injection hk with hk;subst hk
             obtain⟨b1,b2,e1,e2,e3⟩:=uE k1 hb
             obtain⟨hs,ha⟩:=ih.1 f.type k1 _ _ _ _ b1 (m+1) CM (by omega) (aj.take k1.length (aj.drop off hx)) (aj.take k1.length (aj.drop off hy)) e1
             have eK:=ih.2 fs (off+k1.length) k2 cs ds xs ys b2 (m+1) IZ (by omega) hx hy (by simpa [List.drop_drop] using e2)
             have Jc:=hn.2
             have head: (do let a ←Go.part f.type xs.toArray f.offset;let c ←Go.part f.type ys.toArray f.offset;Op.equalIn (m+1) f.type a c:Sem Bool).run X.P w= .ok b1 w:=by
               rcases ha with⟨hg,hq⟩ | ⟨hg,h1,x,y,YS,hy1,hq⟩
               · simp only[Sem.run_bind,qm hg hs,Result.andThen_ok,Jc]
                 rw[←hq]
                 congr 3 <;> (apply Array.ext';simp[Array.toList_extract,List.extract_eq_take_drop])
               · have gx:xs.toArray[f.offset]? =some x:=by
                  have:=congrArg (fun l=>l[0]?) YS
                  simpa [List.getElem?_take,h1,Jc] using this
                 have gy:ys.toArray[f.offset]? =some y:=by
                  have:=congrArg (fun l=>l[0]?) hy1
                  simpa [List.getElem?_take,h1,Jc] using this
                 simp only[Sem.run_bind,fj hg _ _ _ gx,fj hg _ _ _ gy,Result.andThen_ok]
                 exact hq
             simp only[Op.eqFields,Sem.run_ite,if_pos hn.1]
             simp only[Sem.run_bind] at head ⊢
             generalize (Go.part f.type xs.toArray f.offset).run X.P w=r1 at head ⊢
             cases r1 with
             | halt _ _=>simp[Result.andThen] at head
             | ok a1 w1=>
               simp only[Result.andThen_ok] at head ⊢
               generalize (Go.part f.type ys.toArray f.offset).run X.P w1=r2 at head ⊢
               cases r2 with
               | halt _ _=>simp[Result.andThen] at head
               | ok a2 w2=>
                 simp only[Result.andThen_ok] at head ⊢
                 rw[head]
                 simp only[Result.andThen_ok,Sem.run_ite]
                 subst e3
                 cases b1
                 · simp
                 · simpa using eK
           · simp at hk
         · simp at hk
       · simp at hk
end Go.AM
namespace Go.AM
open Go Go.RowKit
theorem GH {X:Ctx} {μ:Mu} {T:Nat→V} {a:Go.Act} {x:Option Operand} {y:Option aQ} (hr:Rel X T a μ) (h:rp X x=some y) (O:Nat→Obj):
   (x=none∧y=none)∨ ∃x' y',x=some x'∧y=some y'∧ak X μ (a8 ⟨T,O⟩ y') (a.eval x'):=by
 cases x with
 | none=>simp[rp] at h;exact .inl ⟨rfl,h.symm⟩
 | some x=>
   simp only[rp,Option.map_eq_some_iff] at h
   obtain⟨c,h1,rfl⟩:=h
   exact .inr ⟨x,c,rfl,rfl,aL hr h1 O⟩
section
variable {X:Ctx} {E:Env} {C:a9} {o:Oper} {a:Go.Act} {T:Nat→V} {μ:Mu} {v:V} {σ':St}
theorem GI {op:BinOp} {t:TypeId} {x y:V} {xv yv:Value} {u:V} (hx:ak X μ x xv) (hy:ak X μ y yv) (h:bU op x y=some u) (p q:Operand):
   ∃val,(do eqGuard op t p q xv yv;Go.binOp op t xv yv:Sem Value).run X.P μ.w= .ok val μ.w∧ak X μ u val:=by
 unfold bU at h
 split at h
 · rename_i k n k' n'
   simp only[ak] at hx hy
   subst hx;subst hy
   have hg: (eqGuard op t p q (.int k n) (.int k' n')).run X.P μ.w= .ok () μ.w:=by
     cases op<;>simp[eqGuard]
   simp only[Sem.run_bind,hg,Result.andThen_ok]
   cases op with
   | shl=>
     simp only at h
     split at h<;>simp at h
     subst h
     rename_i hb
     exact⟨.int k (k.wrap (n*2 ^ min n'.toNat k.bits)),by simp[Go.binOp,Op.shift,hb],by simp[ak]⟩
   | shr=>
     simp only at h
     split at h<;>simp at h
     subst h
     rename_i hb
     exact⟨.int k (n.fdiv (2 ^ min n'.toNat k.bits)),by simp[Go.binOp,Op.shift,hb],by simp[ak]⟩
   | quo=>
     simp only at h
     split at h
     · rename_i hk;subst hk
       split at h<;>simp at h
       subst h
       rename_i hb
       exact⟨.int k (k.wrap (n.tdiv n')),by simp[Go.binOp,Op.intDiv,hb],by simp[ak]⟩
     · simp at h
   | rem=>
     simp only at h
     split at h
     · rename_i hk;subst hk
       split at h<;>simp at h
       subst h
       rename_i hb
       exact⟨.int k (n.tmod n'),by simp[Go.binOp,Op.intDiv,hb],by simp[ak]⟩
     · simp at h
   | _=>
     simp only at h
     split at h
     · rename_i hk;subst hk
       simp only[jH,cZ,Option.some.injEq] at h
       subst h
       exact⟨_,by simp[Go.binOp,Op.intArith,Op.intBits,Op.intCmp];rfl,by simp[ak]⟩
     · simp at h
 · rename_i s s'
   simp only[ak] at hx hy
   obtain⟨bs,rfl,rfl⟩:=hx
   obtain⟨cs,rfl,rfl⟩:=hy
   have hg: (eqGuard op t p q (.string bs) (.string cs)).run X.P μ.w= .ok () μ.w:=by
     cases op<;>simp[eqGuard]
   simp only[Sem.run_bind,hg,Result.andThen_ok]
   have he: (bs.toList==cs.toList)=decide (bs.data.toList=cs.data.toList):=by
     rw[ByteArray.toList_eq,ByteArray.toList_eq,Bool.eq_iff_iff];simp
   cases op with
   | add=>
     simp only at h
     split at h<;>simp at h
     subst h
     rename_i hl
     have xQ: ¬ ((bs.size+cs.size:Nat):Int) >IntKind.i64.max:=by
       have hm:IntKind.i64.max=9223372036854775807:=by decide
       have h1:bs.data.toList.length=bs.size:=by rw[Array.length_toList];rfl
       have h2:cs.data.toList.length=cs.size:=by rw[Array.length_toList];rfl
       rw[hm];rw[h1,h2] at hl;omega
     refine⟨.string (bs++cs),by simp only[Go.binOp,Op.stringOp];rw[if_neg xQ];rfl,?_⟩
     simp[ak,ByteArray.data_append]
   | _=>
     simp only[Option.some.injEq,reduceCtorEq] at h
     try (subst h;refine⟨_,by simp only[Go.binOp,Op.stringOp];rfl,?_⟩;simp only[ak,he] <;>simp only[ByteArray.toList_eq])
 · simp at h
theorem BA {op:BinOp} {t t2:TypeId} {x y:Operand} {x' y':aQ} (hr:Rel X T a μ) (ho:o.op= .binOp op t x y t2) (h1:cr X x=some x') (h2:cr X y=some y')
  (ag: (aw E (.bin op x' y')).run C ⟨T,μ.O⟩=some (v,σ')):σ'.T=T∧ca X o a μ σ'.O v:=by
 simp only[aw,bd] at ag
 obtain⟨hb,rfl⟩:=cY ag
 obtain⟨val,hv,bQ⟩:=GI (t:=t) (aL hr h1 μ.O) (aL hr h2 μ.O) hb x y
 refine⟨rfl,aF hr.aY ?_ bQ⟩
 simp only[execOp,ho]
 exact bS hv
theorem Mp {op:BinOp} {t t2:TypeId} {x y:Operand} {x' y':aQ} (hr:Rel X T a μ) (ho:o.op= .binOp op t x y t2) (dj:op= .eql∨op= .neq) (hd:aZ X t=some .bool)
   (h1:cr X x=some x') (h2:cr X y=some y') {neg:Bool} (hn:neg=fM op)
   (ag: (aw E (.NO neg x' y')).run C ⟨T,μ.O⟩=some (v,σ')):σ'.T=T∧ca X o a μ σ'.O v:=by
 simp only[aw,bd] at ag
 have hx:=aL hr h1 μ.O
 have hy:=aL hr h2 μ.O
 split at ag
 · rename_i p q e1 e2
   obtain⟨rfl,rfl⟩:=aR ag
   rw[e1] at hx;rw[e2] at hy
   simp only[ak] at hx hy
   refine⟨rfl,aF (val:= .bool ((p==q) !=neg)) hr.aY ?_ (by simp[ak])⟩
   simp only[execOp,ho]
   refine bS ?_
   have heq: (Op.equal t (.bool p) (.bool q)).run X.P μ.w= .ok (p==q) μ.w:=run_equalIn_bool' μ.w 9999 t p q hd
   rcases dj with rfl| rfl
   · subst hn
     simp[eqGuard,hx,hy,Go.binOp,Sem.run_bind,heq,fM]
   · subst hn
     simp[eqGuard,hx,hy,Go.binOp,Sem.run_bind,heq,fM]
 · exact absurd ag av
theorem GJ {op:BinOp} {t t2:TypeId} {x y:Operand} {x' y':aQ} {ks:List Nat} (hr:Rel X T a μ) (ho:o.op= .binOp op t x y t2) (dj:op= .eql∨op= .neq)
   (hg:X.P.eqGuardType X.P.depth t=false) (hk:j5 X 100 t=some ks) (DV:fY X t=some true)
   (h1:cr X x=some x') (h2:cr X y=some y') {neg:Bool} (hn:neg=fM op)
   (ag: (aw E (.Nl neg ks x' y')).run C ⟨T,μ.O⟩=some (v,σ')):σ'.T=T∧ca X o a μ σ'.O v:=by
 simp only[aw,bd] at ag
 have hx:=aL hr h1 μ.O
 have hy:=aL hr h2 μ.O
 split at ag
 · rename_i p q e1 e2
   split at ag
   · rename_i b hb
     obtain⟨rfl,rfl⟩:=aR ag
     rw[e1] at hx;rw[e2] at hy
     simp only[ak] at hx hy
     obtain⟨_,xs,Cm,hvx⟩:=hx
     obtain⟨_,ys,YT,hvy⟩:=hy
     refine⟨rfl,aF (val:= .bool (b !=neg)) hr.aY ?_ (by simp[ak])⟩
     simp only[execOp,ho]
     refine bS ?_
     obtain⟨_,hh⟩:=(Mn (X:=X) (μ:=μ) μ.w 100).1 t ks p q _ _ b 10000 hk (by omega) hvx hvy hb
     rcases hh with⟨_,hh⟩ | ⟨hh,_⟩
     · have heq: (Op.equal t (.agg xs) (.agg ys)).run X.P μ.w= .ok b μ.w:=by simpa [Op.equal,Op.maxDepth] using hh
       have BB: (eqGuard op t x y (.agg xs) (.agg ys)).run X.P μ.w= .ok () μ.w:=run_eqGuard_agg μ.w op t x y xs ys hg
       rw[Cm,YT]
       rcases dj with rfl| rfl
       · subst hn
         simp only[Sem.run_bind,BB,Result.andThen_ok,Go.binOp,heq,fM];simp
       · subst hn
         simp only[Sem.run_bind,BB,Result.andThen_ok,Go.binOp,heq,fM];simp
     · rw[DV] at hh;cases hh
   · exact absurd ag av
 · exact absurd ag av
theorem uF {t k:Nat}: ∀ {ks:List (Nat×Nat)},oI t ks=some k→(t,k) ∈ ks
 | [],h=>by simp[oI] at h
 | (t',k')::ks,h=>by
   simp only[oI] at h
   cases hb:Nat.beq t' t with
   | true=>
     have:=Nat.eq_of_beq_eq_true hb
     rw[hb] at h
     simp at h;subst h;subst this;simp
   | false=>
     rw[hb] at h
     exact List.mem_cons_of_mem _ (uF h)
theorem zG {X:TrEnv} {t k:Nat} (h: (t,k) ∈ tn X): ∃T i D,X.iu T=some t∧X.P.info? T=some i∧i.comparable=true∧aZ X T=some D∧
   ((k=0∧D= .bool)∨(k=1∧ ∃q,D= .int q)∨(k=2∧D= .string)):=by
 simp only[tn,List.mem_filterMap] at h
 obtain⟨T,_,h⟩:=h
 split at h
 · rename_i h1 h2 h3
   simp only[Option.map_eq_some_iff] at h2
   obtain⟨i,hi,hc⟩:=h2
   simp at h;obtain⟨rfl,rfl⟩:=h
   exact⟨T,i,_,h1,hi,hc,h3,.inl ⟨rfl,rfl⟩⟩
 · rename_i h1 h2 h3
   simp only[Option.map_eq_some_iff] at h2
   obtain⟨i,hi,hc⟩:=h2
   simp at h;obtain⟨rfl,rfl⟩:=h
   exact⟨T,i,_,h1,hi,hc,h3,.inr (.inl ⟨rfl,_,rfl⟩)⟩
 · rename_i h1 h2 h3
   simp only[Option.map_eq_some_iff] at h2
   obtain⟨i,hi,hc⟩:=h2
   simp at h;obtain⟨rfl,rfl⟩:=h
   exact⟨T,i,_,h1,hi,hc,h3,.inr (.inr ⟨rfl,rfl⟩)⟩
 · simp at h
theorem qn {P:Program} {w:World} (d:Nat) {ti tp:TypeId} {ms:Array (String×TypeId)} {i:TypeInfo} {u v:Value} {b:Bool} (hi:P.underlying ti=some (.interface ms)) (Xr:P.info? tp=some i) (Xs:i.comparable=true)
  (h: (Op.equalIn d tp u v).run P w= .ok b w): (Op.equalIn (d+1) ti (.iface tp u) (.iface tp v)).run P w= .ok b w:=by
 simp[Op.equalIn,run_underlying hi,typeInfo,Xr,Xs,h]
theorem uG {P:Program} {w:World} (d:Nat) {ti tp:TypeId} {ms:Array (String×TypeId)} {u:Value} (hi:P.underlying ti=some (.interface ms)):
  (Op.equalIn (d+1) ti .nilIface (.iface tp u)).run P w= .ok false w:=by
 simp[Op.equalIn,run_underlying hi]
theorem uH {P:Program} {w:World} (d:Nat) {ti tp:TypeId} {ms:Array (String×TypeId)} {u:Value} (hi:P.underlying ti=some (.interface ms)):
  (Op.equalIn (d+1) ti (.iface tp u) .nilIface).run P w= .ok false w:=by
 simp[Op.equalIn,run_underlying hi]
theorem Mq {op:BinOp} {t t2:TypeId} {x y:Operand} {x' y':aQ} (hr:Rel X T a μ) (ho:o.op= .binOp op t x y t2) (dj:op= .eql∨op= .neq) (hd: ∃ms,aZ X t=some (.interface ms))
   (lW: ∀t1 t2 k,X.iu t1=some k→X.iu t2=some k→t1=t2)
   (h1:cr X x=some x') (h2:cr X y=some y') {neg:Bool} (hn:neg=fM op)
   (ag: (aw E (.NP neg (tn X) x' y')).run C ⟨T,μ.O⟩=some (v,σ')):σ'.T=T∧ca X o a μ σ'.O v:=by
 simp only[aw,bd] at ag
 have hx:=aL hr h1 μ.O
 have hy:=aL hr h2 μ.O
 obtain⟨ms,hd⟩:=hd
 have fin: ∀b,(Op.equal t (a.eval x) (a.eval y)).run X.P μ.w= .ok b μ.w→(eqGuard op t x y (a.eval x) (a.eval y)).run X.P μ.w= .ok () μ.w→
     (∀k1 k2 m1 m2,¬ (a.eval x= .int k1 m1∧a.eval y= .int k2 m2))→
     (Go.binOp op t (a.eval x) (a.eval y)).run X.P μ.w= .ok (.bool (b !=neg)) μ.w→ca X o a μ μ.O (.bool (b !=neg)):=fun b heq BB _ hb=>by
   refine aF (val:= .bool (b !=neg)) hr.aY ?_ (by simp[ak])
   simp only[execOp,ho]
   refine bS ?_
   simp only[Sem.run_bind,BB,Result.andThen_ok,hb]
 split at ag
 · rename_i s p s' q e1 e2
   rw[e1] at hx;rw[e2] at hy
   simp only[ak] at hx hy
   obtain⟨T1,u1,hx,Bt,hp⟩:=hx
   obtain⟨T2,u2,hy,Gw,hq⟩:=hy
   split at ag
   · rename_i hss
     subst hss
     split at ag
     · rename_i k hk
       split at ag
       · rename_i b hb
         obtain⟨rfl,rfl⟩:=aR ag
         obtain⟨T0,i,D,k1,k2,k3,k4,k5⟩:=zG (uF hk)
         obtain rfl:=lW T1 T0 _ Bt k1
         obtain rfl:=lW T2 T1 _ Gw k1
         have heq: (Op.equal t (.iface T2 u1) (.iface T2 u2)).run X.P μ.w= .ok b μ.w:=
           qn 9999 hd k2 k3 (CS (m:=9998) k4 k5 hp hq hb μ.w)
         refine⟨rfl,fin b (by rw[hx,hy];exact heq) (by rw[hx,hy];rcases dj with rfl| rfl<;>simp[eqGuard]) (by simp[hx]) ?_⟩
         rw[hx,hy]
         rcases dj with rfl| rfl
         · subst hn
           simp[Go.binOp,Sem.run_bind,heq,fM]
         · subst hn
           simp[Go.binOp,Sem.run_bind,heq,fM]
       · exact absurd ag av
     · exact absurd ag av
   · exact absurd ag av
 · rename_i s p e1 e2
   rw[e1] at hx;rw[e2] at hy
   simp only[ak] at hx hy
   obtain⟨T2,u2,hy,Gw,hq⟩:=hy
   obtain⟨rfl,rfl⟩:=aR ag
   have heq: (Op.equal t .nilIface (.iface T2 u2)).run X.P μ.w= .ok false μ.w:=uG 9999 hd
   refine⟨rfl,?_⟩
   have:=fin false (by rw[hx,hy];exact heq) (by rw[hx,hy];rcases dj with rfl| rfl<;>simp[eqGuard]) (by simp[hx]) (by
     rw[hx,hy]
     rcases dj with rfl| rfl
     · subst hn
       simp[Go.binOp,Sem.run_bind,heq,fM]
     · subst hn
       simp[Go.binOp,Sem.run_bind,heq,fM])
   simpa using this
 · rename_i s p e1 e2
   rw[e1] at hx;rw[e2] at hy
   simp only[ak] at hx hy
   obtain⟨T2,u2,hx,Gw,hq⟩:=hx
   obtain⟨rfl,rfl⟩:=aR ag
   have heq: (Op.equal t (.iface T2 u2) .nilIface).run X.P μ.w= .ok false μ.w:=uH 9999 hd
   refine⟨rfl,?_⟩
   have:=fin false (by rw[hx,hy];exact heq) (by rw[hx,hy];rcases dj with rfl| rfl<;>simp[eqGuard]) (by simp[hx]) (by
     rw[hx,hy]
     rcases dj with rfl| rfl
     · subst hn
       simp[Go.binOp,Sem.run_bind,heq,fM]
     · subst hn
       simp[Go.binOp,Sem.run_bind,heq,fM])
   simpa using this
 · exact absurd ag av
theorem jl {P:Program} {w:World} (d:Nat) {t e:TypeId} (q:Option Addr) (hi:P.underlying t=some (.pointer e)):
  (Op.equalIn (d+1) t (.pointer none) (.pointer q)).run P w= .ok q.isNone w:=by
 simp[Op.equalIn,run_underlying hi]
theorem mE {P:Program} {w:World} (d:Nat) {t e:TypeId} (p:Addr) (hi:P.underlying t=some (.pointer e)):
  (Op.equalIn (d+1) t (.pointer (some p)) (.pointer none)).run P w= .ok false w:=by
 simp[Op.equalIn,run_underlying hi]
theorem uI {P:Program} {w:World} (d:Nat) {t e:TypeId} {inf:TypeInfo} {n:Nat} {b o o':Nat} (hi:P.underlying t=some (.pointer e)) (sP:P.info? e=some inf) (hse:P.cellsOf e=n+1):
  (Op.equalIn (d+1) t (.pointer (some ⟨b,o,none⟩)) (.pointer (some ⟨b,o',none⟩))).run P w= .ok (o==o') w:=by
 have hq: ((⟨b,o,none⟩:Addr)==⟨b,o',none⟩)=(o==o'):=by
  rw[Bool.eq_iff_iff]
  simp only[beq_iff_eq,Addr.mk.injEq,true_and,and_true]
 simp[Op.equalIn,run_underlying hi,Sem.run_bind,run_sizeOf (w:=w) sP,hse,sameAddr,hq]
theorem Mr {op:BinOp} {t e t2:TypeId} {n:Nat} {x y:Operand} {x' y':aQ} (hr:Rel X T a μ) (ho:o.op= .binOp op t x y t2) (dj:op= .eql∨op= .neq) (hd:aZ X t=some (.pointer e)) (ck:bq X e=some (n+1))
  (h1:cr X x=some x') (h2:cr X y=some y') {neg:Bool} (hn:neg=fM op)
  (ag: (aw E (.Lm neg x' y')).run C ⟨T,μ.O⟩=some (v,σ')):σ'.T=T∧ca X o a μ σ'.O v:=by
 simp only[aw,bd] at ag
 have hx:=aL hr h1 μ.O
 have hy:=aL hr h2 μ.O
 obtain⟨hb,rfl⟩:=cY ag
 rw[Option.map_eq_some_iff] at hb
 obtain⟨b,hb,rfl⟩:=hb
 have kJ:X.P.underlying t=some (.pointer e):=hd
 obtain⟨inf,sP,By⟩: ∃inf,X.P.info? e=some inf∧inf.size=n+1:=by simpa [bq,info] using ck
 have hse:X.P.cellsOf e=n+1:=by simp[Program.cellsOf,sP,By]
 have key: ∃p q,a.eval x= .pointer p∧a.eval y= .pointer q∧(Op.equal t (.pointer p) (.pointer q)).run X.P μ.w= .ok b μ.w:=by
  unfold Co at hb
  split at hb
  · rename_i e1 e2
    rw[e1] at hx;rw[e2] at hy
    simp only[ak] at hx hy
    simp only[Option.some.injEq] at hb;subst hb
    exact⟨_,_,hx,hy,jl 9999 none kJ⟩
  · rename_i e1 e2
    rw[e1] at hx;rw[e2] at hy
    simp only[ak] at hx hy
    simp only[Option.some.injEq] at hb;subst hb
    obtain⟨_,_,_,_,_,_,hy,_⟩:=hy
    exact⟨_,_,hx,hy,jl 9999 _ kJ⟩
  · rename_i e1 e2
    rw[e1] at hx;rw[e2] at hy
    simp only[ak] at hx hy
    simp only[Option.some.injEq] at hb;subst hb
    obtain⟨_,_,_,hy,_⟩:=hy
    exact⟨_,_,hx,hy,jl 9999 _ kJ⟩
  · rename_i e1 e2
    rw[e1] at hx;rw[e2] at hy
    simp only[ak] at hx hy
    simp only[Option.some.injEq] at hb;subst hb
    obtain⟨_,_,_,_,_,_,hx,_⟩:=hx
    exact⟨_,_,hx,hy,mE 9999 _ kJ⟩
  · rename_i e1 e2
    rw[e1] at hx;rw[e2] at hy
    simp only[ak] at hx hy
    simp only[Option.some.injEq] at hb;subst hb
    obtain⟨_,_,_,hx,_⟩:=hx
    exact⟨_,_,hx,hy,mE 9999 _ kJ⟩
  · rename_i i z e0 i' z' e0' e1 e2
    rw[e1] at hx;rw[e2] at hy
    simp only[ak] at hx hy
    split at hb<;>simp only[Option.some.injEq,reduceCtorEq] at hb
    rename_i hz
    obtain⟨rfl,Nr⟩:=hz
    subst hb
    obtain⟨_,_,_,hx,_⟩:=hx
    obtain⟨_,_,_,hy,_⟩:=hy
    refine⟨_,_,hx,hy,?_⟩
    have hq: (X.tok.2+i*z+0==X.tok.2+i'*z+0)=(i==i'):=by
     rw[Bool.eq_iff_iff]
     simp only[beq_iff_eq]
     constructor
     · intro h
       have:i*z=i'*z:=by omega
       exact Nat.eq_of_mul_eq_mul_right Nr this
     · rintro rfl;rfl
    exact(uI 9999 kJ sP hse).trans (by rw[hq])
  · simp at hb
 obtain⟨p,q,hp,hq,heq⟩:=key
 refine⟨rfl,aF (val:= .bool (b !=neg)) hr.aY ?_ (by simp[ak])⟩
 simp only[execOp,ho,hp,hq]
 refine bS ?_
 subst hn
 rcases dj with rfl| rfl<;>simp[eqGuard,Go.binOp,Sem.run_bind,heq,fM]
theorem Xt {op:UnOp} {t:TypeId} {x:Operand} {x':aQ} (hr:Rel X T a μ) (ho:o.op= .unOp op t x) (h1:cr X x=some x')
  (ag: (aw E (.un op x')).run C ⟨T,μ.O⟩=some (v,σ')):σ'.T=T∧ca X o a μ σ'.O v:=by
 simp only[aw,bd] at ag
 obtain⟨hb,rfl⟩:=cY ag
 have hx:=aL hr h1 μ.O
 have: ∃val,(Op.unary op (a.eval x)).run X.P μ.w= .ok val μ.w∧ak X μ v val:=by
  unfold A0 at hb
  split at hb
  · rename_i k n e
    simp at hb;subst hb
    rw[e] at hx;simp only[ak] at hx
    exact⟨.int k (k.wrap (0 - n)),by simp[hx,Op.unary,Op.intArith],by simp[ak]⟩
  · rename_i b e
    simp at hb;subst hb
    rw[e] at hx;simp only[ak] at hx
    exact⟨.bool (!b),by simp[hx,Op.unary],by simp[ak]⟩
  · rename_i k n e
    simp only[jH,Option.some.injEq] at hb;subst hb
    rw[e] at hx;simp only[ak] at hx
    exact⟨_,by simp[hx,Op.unary,Op.intBits];rfl,by simp[ak]⟩
  · simp at hb
 obtain⟨val,h2,h3⟩:=this
 refine⟨rfl,aF hr.aY ?_ h3⟩
 simp only[execOp,ho]
 exact bS h2
theorem BC {s d:TypeId} {x:Operand} {x':aQ} {k k0:IntKind} (hr:Rel X T a μ) (ho:o.op= .convert s d x) (hs:aZ X s=some (.int k0)) (hd:aZ X d=some (.int k))
   (h1:cr X x=some x') (ag: (aw E (.pK k x')).run C ⟨T,μ.O⟩=some (v,σ')):σ'.T=T∧ca X o a μ σ'.O v:=by
 simp only[aw,bd] at ag
 have hx:=aL hr h1 μ.O
 split at ag
 · rename_i k1 n1 e
   obtain⟨rfl,rfl⟩:=aR ag
   rw[e] at hx;simp only[ak] at hx
   refine⟨rfl,aF (val:= .int k (k.wrap n1)) hr.aY ?_ (by simp[ak])⟩
   simp only[execOp,ho]
   refine bS ?_
   simp[convert,Sem.run_bind,run_underlying hs,run_underlying hd,hx,Conv.intToInt]
 · exact absurd ag av
theorem DW {s d:TypeId} {x:Operand} {x':aQ} {k0:IntKind} (hr:Rel X T a μ) (ho:o.op= .convert s d x) (hs:aZ X s=some (.int k0)) (hd:aZ X d=some (.float .f64))
   (h1:cr X x=some x') (ag: (aw E (.tT x')).run C ⟨T,μ.O⟩=some (v,σ')):σ'.T=T∧ca X o a μ σ'.O v:=by
 simp only[aw,bd] at ag
 have hx:=aL hr h1 μ.O
 split at ag
 · rename_i k1 n1 e
   obtain⟨rfl,rfl⟩:=aR ag
   rw[e] at hx;simp only[ak] at hx
   refine⟨rfl,aF (val:= .float .f64 (FloatKind.f64.nearest n1)) hr.aY ?_ (by simp[ak])⟩
   simp only[execOp,ho]
   refine bS ?_
   simp[convert,Sem.run_bind,run_underlying hs,run_underlying hd,hx,Conv.intToFloat]
 · exact absurd ag av
theorem DX {s d:TypeId} {x:Operand} {x':aQ} {k:IntKind} (hr:Rel X T a μ) (ho:o.op= .convert s d x) (hs:aZ X s=some (.float .f64)) (hd:aZ X d=some (.int k))
   (h1:cr X x=some x') (ag: (aw E (.tU k x')).run C ⟨T,μ.O⟩=some (v,σ')):σ'.T=T∧ca X o a μ σ'.O v:=by
 simp only[aw,bd] at ag
 have hx:=aL hr h1 μ.O
 split at ag
 · rename_i b e
   split at ag
   · rename_i n hn
     split at ag
     · rename_i hle
       obtain⟨rfl,rfl⟩:=aR ag
       rw[e] at hx;simp only[ak] at hx
       refine⟨rfl,aF (val:= .int k n) hr.aY ?_ (by simp[ak])⟩
       simp only[execOp,ho]
       refine bS ?_
       simp[convert,Sem.run_bind,run_underlying hs,run_underlying hd,hx,Conv.floatToInt,hn,hle]
     · exact absurd ag av
   · exact absurd ag av
 · exact absurd ag av
theorem BD {s d:TypeId} {x:Operand} {x':aQ} (hr:Rel X T a μ) (ho:o.op= .convert s d x) (hs:aZ X s=some .string) (hd:aZ X d=some .string)
   (h1:cr X x=some x') (ag: (aw E (.pL x')).run C ⟨T,μ.O⟩=some (v,σ')):σ'.T=T∧ca X o a μ σ'.O v:=by
 simp only[aw,bd] at ag
 have hx:=aL hr h1 μ.O
 split at ag
 · rename_i b e
   obtain⟨rfl,rfl⟩:=aR ag
   rw[e] at hx;simp only[ak] at hx
   obtain⟨bs,zH,rfl⟩:=hx
   refine⟨rfl,aF (val:= .string bs) hr.aY ?_ (by simp[ak])⟩
   simp only[execOp,ho]
   refine bS ?_
   simp[convert,Sem.run_bind,run_underlying hs,run_underlying hd,zH]
 · exact absurd ag av
theorem da {c:Call} {b:Builtin} {val:Value} {w w':World} (ho:o.op= .call c) (hc:c.callee= .builtin b)
  (h: (builtin b c.argTypes o.type (c.args.map fun| .const _=>true| _=>false) (c.args.map a.eval)).run X.P w= .ok (.value val) w'):
  (execOp a.eval o).run X.P w= .ok (.value val) w':=by
 simp only[execOp,ho,resolve,hc,Sem.run_bind,Sem.run_pure,Result.andThen_ok,invoke]
 exact h
theorem Ms {c:Call} {x:Operand} {t e:TypeId} {x':aQ} (hr:Rel X T a μ) (ho:o.op= .call c) (hc:c.callee= .builtin .len) (ha:c.args= #[x]) (ht:c.argTypes= #[t])
  (hd:aZ X t=some (.slice e)) (h1:cr X x=some x') (ag: (aw E (.len x')).run C ⟨T,μ.O⟩=some (v,σ')):
  σ'.T=T∧ca X o a μ σ'.O v:=by
 simp only[aw,bd] at ag
 obtain⟨hb,rfl⟩:=cY ag
 have hx:=aL hr h1 μ.O
 have key: ∃n:Nat,(Builtin.len_ #[t] o.type #[a.eval x]).run X.P μ.w= .ok (goInt n) μ.w∧v= .int .i64 n:=by
  cases hy:a8 ⟨T,μ.O⟩ x'<;>rw[hy] at hb hx<;>simp[nM] at hb
  · simp only[ak] at hx
    obtain⟨p,hp⟩:=hx
    exact⟨0,by simp[Builtin.len_,Sem.run_bind,run_underlying hd,hp],hb.symm⟩
  · simp only[ak] at hx
    obtain⟨_,_,p,cap,vs,hp,_⟩:=hx
    exact⟨_,by simp[Builtin.len_,Sem.run_bind,run_underlying hd,hp],hb.symm⟩
  · simp only[ak] at hx
    obtain⟨p,cap,hp,_⟩:=hx
    exact⟨_,by simp[Builtin.len_,Sem.run_bind,run_underlying hd,hp],hb.symm⟩
  · simp only[ak] at hx
    obtain⟨_,_,p,cap,vs,hp,_⟩:=hx
    exact⟨_,by simp[Builtin.len_,Sem.run_bind,run_underlying hd,hp],hb.symm⟩
 obtain⟨n,h2,rfl⟩:=key
 refine⟨rfl,aF (val:=goInt n) hr.aY ?_ (by simp[ak,goInt])⟩
 refine da ho hc ?_
 simp only[builtin,ha,ht]
 refine bS ?_
 simpa using h2
theorem DY {c:Call} {x:Operand} {t:TypeId} {x':aQ} (hr:Rel X T a μ) (ho:o.op= .call c) (hc:c.callee= .builtin .len) (ha:c.args= #[x]) (ht:c.argTypes= #[t])
   (hd:aZ X t=some .string) (h1:cr X x=some x') (ag: (aw E (.tW x')).run C ⟨T,μ.O⟩=some (v,σ')):
   σ'.T=T∧ca X o a μ σ'.O v:=by
 simp only[aw,bd] at ag
 have hx:=aL hr h1 μ.O
 split at ag
 · rename_i s e
   obtain⟨rfl,rfl⟩:=aR ag
   rw[e] at hx;simp only[ak] at hx
   obtain⟨bs,zH,rfl⟩:=hx
   refine⟨rfl,aF (val:=goInt bs.size) hr.aY ?_ (by simp only[ak,goInt];rw[Array.length_toList];rfl)⟩
   refine da ho hc ?_
   simp only[builtin,ha,ht]
   refine bS ?_
   simp[Builtin.len_,Sem.run_bind,run_underlying hd,zH]
 · exact absurd ag av
theorem DZ {c:Call} {x:Operand} {t e:TypeId} {n:Nat} (hr:Rel X T a μ) (ho:o.op= .call c) (hc:c.callee= .builtin .len) (ha:c.args= #[x]) (ht:c.argTypes= #[t])
  (hd:aZ X t=some (.array n e)) (ag: (aw E (.move (.const (.int .i64 n)))).run C ⟨T,μ.O⟩=some (v,σ')):
  σ'.T=T∧ca X o a μ σ'.O v:=by
 simp only[aw,bd,a8] at ag
 obtain⟨rfl,rfl⟩:=aR ag
 refine⟨rfl,aF (val:=goInt n) hr.aY ?_ (by simp[ak,goInt])⟩
 refine da ho hc ?_
 simp only[builtin,ha,ht]
 refine bS ?_
 simp[Builtin.len_,Sem.run_bind,run_underlying hd]
theorem wJ {w:World}: ∀ {xs:List V} {x:V} {u:V} {xv:Value} {vs:List Value},ak X μ x xv→aj X μ xs vs→gu min2 (x::xs)=some u→
   ∃val,(vs.foldlM Builtin.min2 xv).run X.P w= .ok val w∧ak X μ u val
 | [],x,u,xv,[],hx,_,h=>by simp[gu,fS] at h;subst h;exact⟨xv,by simp,hx⟩
 | [],_,_,_,_::_,_,hv,_=>by simp[aj] at hv
 | _::_,_,_,_,[],_,hv,_=>by simp[aj] at hv
 | y::ys,x,u,xv,yv::vs,hx,hv,h=>by
   simp only[aj] at hv
   simp only[gu,fS] at h
   split at h
   · rename_i z hz
     have: ∃zv,(Builtin.min2 xv yv).run X.P w= .ok zv w∧ak X μ z zv:=by
      unfold min2 at hz
      split at hz
      · split at hz<;>simp at hz
        rename_i hk;subst hk;subst hz
        have h1:=hv.1
        simp only[ak] at hx h1
        subst hx;subst h1
        exact⟨_,by simp[Builtin.min2];rfl,by simp[ak]⟩
      · simp at hz
     obtain⟨zv,h1,h2⟩:=this
     obtain⟨val,h3,h4⟩:=wJ (w:=w) h2 hv.2 h
     exact⟨val,by simp[List.foldlM_cons,Sem.run_bind,h1,h3],h4⟩
   · simp at h
theorem wK {w:World}: ∀ {xs:List V} {x:V} {u:V} {xv:Value} {vs:List Value},ak X μ x xv→aj X μ xs vs→gu max2 (x::xs)=some u→
   ∃val,(vs.foldlM Builtin.max2 xv).run X.P w= .ok val w∧ak X μ u val
 | [],x,u,xv,[],hx,_,h=>by simp[gu,fS] at h;subst h;exact⟨xv,by simp,hx⟩
 | [],_,_,_,_::_,_,hv,_=>by simp[aj] at hv
 | _::_,_,_,_,[],_,hv,_=>by simp[aj] at hv
 | y::ys,x,u,xv,yv::vs,hx,hv,h=>by
   simp only[aj] at hv
   simp only[gu,fS] at h
   split at h
   · rename_i z hz
     have: ∃zv,(Builtin.max2 xv yv).run X.P w= .ok zv w∧ak X μ z zv:=by
      unfold max2 at hz
      split at hz
      · split at hz<;>simp at hz
        rename_i hk;subst hk;subst hz
        have h1:=hv.1
        simp only[ak] at hx h1
        subst hx;subst h1
        exact⟨_,by simp[Builtin.max2];rfl,by simp[ak]⟩
      · simp at hz
     obtain⟨zv,h1,h2⟩:=this
     obtain⟨val,h3,h4⟩:=wK (w:=w) h2 hv.2 h
     exact⟨val,by simp[List.foldlM_cons,Sem.run_bind,h1,h3],h4⟩
   · simp at h
theorem Mt {c:Call} {xs:List aQ} (hr:Rel X T a μ) (ho:o.op= .call c) (hc:c.callee= .builtin .min) (h1:km X c.args.toList=some xs)
   (ag: (aw E (.min xs)).run C ⟨T,μ.O⟩=some (v,σ')):σ'.T=T∧ca X o a μ σ'.O v:=by
 simp only[aw,lz] at ag
 obtain⟨hb,rfl⟩:=cY ag
 have hx:=ko hr μ.O h1
 generalize hq:xs.map (a8 ⟨T,μ.O⟩)=us at hb hx
 generalize hp:c.args.toList.map a.eval=vs at hx
 match us,vs,hx,hb with
 | [],_,_,hb=>simp[gu,fS] at hb
 | u::us,[],hx,_=>simp[aj] at hx
 | u::us,y::vs,hx,hb=>
   simp only[aj] at hx
   obtain⟨val,h2,h3⟩:=wJ (w:=μ.w) hx.1 hx.2 hb
   refine⟨rfl,aF (val:=val) hr.aY (da ho hc ?_) h3⟩
   simp only[builtin]
   refine bS ?_
   simp only[Builtin.min_,Array.toList_map,hp]
   exact h2
theorem Mv {c:Call} {xs:List aQ} (hr:Rel X T a μ) (ho:o.op= .call c) (hc:c.callee= .builtin .max) (h1:km X c.args.toList=some xs)
   (ag: (aw E (.max xs)).run C ⟨T,μ.O⟩=some (v,σ')):σ'.T=T∧ca X o a μ σ'.O v:=by
 simp only[aw,lz] at ag
 obtain⟨hb,rfl⟩:=cY ag
 have hx:=ko hr μ.O h1
 generalize hq:xs.map (a8 ⟨T,μ.O⟩)=us at hb hx
 generalize hp:c.args.toList.map a.eval=vs at hx
 match us,vs,hx,hb with
 | [],_,_,hb=>simp[gu,fS] at hb
 | u::us,[],hx,_=>simp[aj] at hx
 | u::us,y::vs,hx,hb=>
   simp only[aj] at hx
   obtain⟨val,h2,h3⟩:=wK (w:=μ.w) hx.1 hx.2 hb
   refine⟨rfl,aF (val:=val) hr.aY (da ho hc ?_) h3⟩
   simp only[builtin]
   refine bS ?_
   simp only[Builtin.max_,Array.toList_map,hp]
   exact h2
end
end Go.AM
namespace Go.AM
open Go Go.RowKit
theorem ep (b q n:Nat): (⟨b,q,none⟩:Addr).add n=⟨b,q+n,none⟩:=by unfold Addr.add;split<;>simp_all
theorem mF: ∀ {xs:List V} {i:Nat} {x:V},V.aq xs=true→xs[i]? =some x→V.aB x=true
 | [],_,_,_,h=>by simp at h
 | y::ys,0,x,hp,h=>by simp[V.aq] at hp;simp at h;rw[←h];exact hp.1
 | y::ys,i+1,x,hp,h=>by simp[V.aq] at hp;simp at h;exact mF hp.2 h
theorem qo: ∀ {xs:List V} (n:Nat),V.aq xs=true→V.aq (xs.take n)=true
 | _,0,_=>by simp[V.aq]
 | [],n+1,_=>by simp[V.aq]
 | y::ys,n+1,h=>by simp[V.aq] at h ⊢;exact⟨h.1,qo n h.2⟩
theorem qp: ∀ {xs:List V} (n:Nat),V.aq xs=true→V.aq (xs.drop n)=true
 | _,0,h=>by simpa using h
 | [],n+1,_=>by simp[V.aq]
 | y::ys,n+1,h=>by simp[V.aq] at h;simpa using qp n h.2
theorem iU {p:V→Bool} {xs:List V} (n:Nat) (h:xs.all p=true): (xs.take n).all p=true:=by
 simp only[List.all_eq_true] at h ⊢
 exact fun x hx=>h x (List.mem_of_mem_take hx)
theorem kp {p:V→Bool} {xs:List V} (n:Nat) (h:xs.all p=true): (xs.drop n).all p=true:=by
 simp only[List.all_eq_true] at h ⊢
 exact fun x hx=>h x (List.mem_of_mem_drop hx)
theorem dA.drop {w:World} {b off sz:Nat} {vs:List Value} (h:dA w b off sz vs) (n:Nat):dA w b (off+n*sz) sz (vs.drop n):=by
 intro i v hv
 simp only[List.getElem?_drop] at hv
 obtain⟨h1,h2⟩:=h (n+i) v hv
 refine⟨h1,fun j c hc=> ?_⟩
 rw[←h2 j c hc]
 congr 2
 rw[Nat.add_mul];omega
theorem dA.take {w:World} {b off sz:Nat} {vs:List Value} (h:dA w b off sz vs) (n:Nat):dA w b off sz (vs.take n):=by
 intro i v hv
 rw[List.getElem?_take] at hv
 split at hv
 · exact h i v hv
 · simp at hv
section
variable {X:Ctx} {E:Env} {C:a9} {o:Oper} {a:Go.Act} {T:Nat→V} {μ:Mu} {v:V} {σ':St}
theorem nE {t:TypeId} {e u:V} {x:Value} {off sz:Nat} {agg:Bool} {w:World} {b q:Nat} (hx:ak X μ e x) (hp:part agg off sz e=some u)
   (hg:fY X t=some agg) (hn:bq X t=some sz) (hm: ∀j c,x.cells[j]? =some c→w.cell? ⟨b,q+j,none⟩=some c):
   ∃val,(loadVar t ⟨b,q+off,none⟩).run X.P w= .ok val w∧ak X μ u val:=by
 cases agg with
 | true=>
   obtain⟨cs,rfl,hle,hv⟩:=lA hx hp
   refine⟨_,?_,hv⟩
   have hl: (cs.extract off (off+sz)).toList.length=sz:=by simp;omega
   have:=run_loadCells_list (P:=X.P) w ⟨b,q+off,none⟩ (cs.extract off (off+sz)).toList (fun j c hc=>by
    rw[ep]
    have yK:cs[off+j]? =some c:=by
     rw[Array.toList_extract,List.extract_eq_take_drop,List.getElem?_take] at hc
     split at hc
     · simpa using hc
     · simp at hc
    have:=hm (off+j) c (by simpa [Value.cells] using yK)
    rwa [←Nat.add_assoc] at this)
   rw[hl,Array.toArray_toList] at this
   simp[loadVar,Sem.run_bind,nD hg,cN hn,this]
 | false=>
   obtain⟨_,c,hc,hv⟩:=j6 hx hp
   refine⟨c,?_,hv⟩
   have:=hm off c hc
   simp[loadVar,Sem.run_bind,nD hg,this]
theorem zI (ho:bc X μ) {r idx:Nat} {es:List V} {e:V} (bl: (μ.O r).es=some es) (he:es[idx]? =some e) (h0:0 < (μ.O r).sz):
   ∃x,ak X μ e x∧(μ.φ r).cap≠0∧ ∀j c,x.cells[j]? =some c→μ.w.cell? ⟨(μ.φ r).cK,(μ.φ r).base+idx*(μ.O r).sz+j,none⟩=some c:=by
 obtain⟨_,h2,_,h4⟩:=ho.row r es bl h0
 have bp:idx<es.length:=(List.getElem?_eq_some_iff.1 he).1
 have hc: (μ.φ r).cap≠0:=by omega
 rcases h4 with h4| ⟨c,T',vs,_,_,hv,fR⟩
 · exact absurd h4 hc
 · obtain⟨x,hx,hr⟩:=hv.get he
   exact⟨x,hr,hc,(fR idx x hx).2⟩
theorem CT {t:TypeId} {x:Operand} {x':aQ} {agg:Bool} {sz:Nat} (hr:Rel X T a μ) (ho:o.op= .load t x) (h1:cr X x=some x') (hg:fY X t=some agg) (hn:bq X t=some sz)
   (ag: (aw E (.load agg sz x')).run C ⟨T,μ.O⟩=some (v,σ')):σ'.T=T∧ca X o a μ σ'.O v:=by
 simp only[aw,bd] at ag
 have hx:=aL hr h1 μ.O
 have fin: ∀ (p:Addr),a.eval x= .pointer (some p)→ ∀val,(loadVar t p).run X.P μ.w= .ok val μ.w→(execOp a.eval o).run X.P μ.w= .ok (.value val) μ.w:=fun p hp val hv=>by
   simp only[execOp,ho]
   refine bS ?_
   simp[Instr.loadAt,Instr.sureAddr,Sem.run_bind,hp,hv]
 split at ag
 · rename_i r g idx off e
   simp only[Act.run] at ag
   split at ag
   · rename_i es bl
     split at ag
     · rename_i b5
       split at ag
       · rename_i el te
         obtain⟨hp,rfl⟩:=cY ag
         rw[e] at hx
         simp only[ak] at hx
         obtain⟨p,KR,_,bY⟩:=hx
         obtain⟨xv,qL,_,jm⟩:=zI hr.aY bl te (bY b5).1
         obtain⟨val,hl,bQ⟩:=nE qL hp hg hn jm
         refine⟨rfl,aF hr.aY (fin p KR val ?_) bQ⟩
         rw[(bY b5).2];exact hl
       · exact absurd ag av
     · exact absurd ag av
   · exact absurd ag av
 · rename_i el off e
   obtain⟨hp,rfl⟩:=cY ag
   rw[e] at hx
   simp only[ak] at hx
   obtain⟨_,_,b,q,sz',xv,KR,_,_,qL,fR⟩:=hx
   obtain⟨val,hl,bQ⟩:=nE (w:=μ.w) (b:=b) (q:=q) qL hp hg hn (fun j c hc=>by simpa using (fR 0 xv (by simp)).2 j c hc)
   exact⟨rfl,aF hr.aY (fin _ KR val hl) bQ⟩
 · rename_i i z el off e
   obtain⟨hp,rfl⟩:=cY ag
   rw[e] at hx
   simp only[ak] at hx
   obtain⟨_,_,xv,KR,_,_,qL,fR⟩:=hx
   obtain⟨val,hl,bQ⟩:=nE (w:=μ.w) (b:=X.tok.1) (q:=X.tok.2+i*z) qL hp hg hn (fun j c hc=>by simpa using (fR 0 xv (by simp)).2 j c hc)
   exact⟨rfl,aF hr.aY (fin _ KR val hl) bQ⟩
 · exact absurd ag av
theorem D0 {ks:List Nat} {agg:Bool} {sz:Nat} {x:aQ} {σ:St} (h: (aw E (.we ks agg sz x)).run C σ=some (v,σ')): ∃v0,(aw E (.load agg sz x)).run C σ=some (v0,σ')∧v=AM.AP ks v0:=by
 simp only[aw,bd] at h ⊢
 have fin: ∀ (p:Option V),(cz (p.map (AM.AP ks))).run C σ=some (v,σ')→ ∃v0,(cz p).run C σ=some (v0,σ')∧v=AM.AP ks v0:=by
   intro p hp
   cases p with
   | none=>exact absurd hp av
   | some v0=>
     obtain⟨h1,h2⟩:=cY hp
     simp only[Option.map_some,Option.some.injEq] at h1
     exact⟨v0,by simp only[cz,Act.run,h2],h1.symm⟩
 split at h
 · rename_i r g idx off e
   simp only[Act.run] at h ⊢
   split at h
   · rename_i es bl
     split at h
     · rename_i hg
       split at h
       · rename_i el te
         rw[if_pos hg]
         exact fin _ h
       · exact absurd h av
     · exact absurd h av
   · exact absurd h av
 · exact fin _ h
 · exact fin _ h
 · exact absurd h av
theorem GK {t:TypeId} {x:Operand} {x':aQ} {agg:Bool} {sz:Nat} (ks:List Nat) (hr:Rel X T a μ) (ho:o.op= .load t x) (h1:cr X x=some x') (hg:fY X t=some agg) (hn:bq X t=some sz)
  (ag: (aw E (.we ks agg sz x')).run C ⟨T,μ.O⟩=some (v,σ')):σ'.T=T∧ca X o a μ σ'.O v:=by
 obtain⟨v0,h2,rfl⟩:=D0 ag
 obtain⟨h3,val,w',φ',h4,h5,h6,h7⟩:=CT hr ho h1 hg hn h2
 exact⟨h3,val,w',φ',h4,ak.AP ks h5,h6,h7⟩
theorem xZ { t e:TypeId} {x i:Operand} {x' i':aQ} {sz:Nat} (hr:Rel X T a μ) (ho:o.op= .indexAddr t x i) (hd:aZ X t=some (.slice e)) (hn:bq X e=some sz)
   (h1:cr X x=some x') (h2:cr X i=some i') (ag: (aw E (.indexAddr sz x' i')).run C ⟨T,μ.O⟩=some (v,σ')):σ'.T=T∧ca X o a μ σ'.O v:=by
 simp only[aw,bd] at ag
 have hx:=aL hr h1 μ.O
 have hi:=aL hr h2 μ.O
 have fin: ∀ (p:Addr) (len cap:Nat) (k:IntKind) (n:Int),a.eval x= .slice (some p) len cap→a.eval i= .int k n→0≤n→n<len→
     (execOp a.eval o).run X.P μ.w= .ok (.value (.pointer (some (p.add (n.toNat*sz))))) μ.w:=fun p len cap k n hp hq KS Jd=>by
   simp only[execOp,ho]
   refine bS ?_
   simp[Instr.indexAt,Sem.run_bind,hp,hq,asIntOf,run_underlying hd,KS,Jd,cN hn]
 split at ag
 · rename_i r g off len k n e1 e2
   simp only[Act.run] at ag
   split at ag
   · rename_i hc
     obtain⟨rfl,rfl⟩:=aR ag
     rw[e1] at hx;rw[e2] at hi
     simp only[ak] at hx hi
     obtain⟨p,cap,hp,YU,qK,bY⟩:=hx
     obtain⟨q0,q1,q2⟩:=bY hc.2.2.2
     have cE:cap≠0:=by omega
     have tu:=q2.resolve_left cE
     rw[tu] at hp
     refine⟨rfl,aF hr.aY (fin _ len cap k n hp hi hc.1 hc.2.1) ?_⟩
     simp only[ak]
     refine⟨_,rfl,qK,fun _=> ⟨q0,?_⟩⟩
     rw[ep,hc.2.2.1]
     simp only[Addr.mk.injEq,true_and,and_true]
     rw[Nat.add_mul];omega
   · exact absurd ag av
 · rename_i sz' xs k n e1 e2
   split at ag
   · rename_i hc
     split at ag
     · rename_i el te
       obtain⟨rfl,rfl⟩:=aR ag
       rw[e1] at hx;rw[e2] at hi
       simp only[ak] at hx hi
       obtain⟨kb,Cx,p,cap,vs,hp,YU,vH,jm⟩:=hx
       have bp:n.toNat<xs.length:=(List.getElem?_eq_some_iff.1 te).1
       rcases jm with jm| ⟨b,q,Xu,eh,zH,fR⟩
       · subst jm;simp at bp
       · rw[Xu] at hp
         obtain⟨xv,qL,bQ⟩:=vH.get te
         refine⟨rfl,aF hr.aY (fin _ xs.length cap k n hp hi hc.1 (by omega)) ?_⟩
         simp only[ak]
         refine⟨mF kb te,?_,b,q+n.toNat*sz,sz,xv,by rw[ep];simp,eh,zH,bQ,?_⟩
         · simp only[List.all_eq_true] at Cx
           exact Cx el (List.mem_of_getElem? te)
         · have:=(fR.drop n.toNat).take 1
           rw[hc.2] at this
           have EW: (vs.drop n.toNat).take 1=[xv]:=by
            have Bg:n.toNat<vs.length:=(List.getElem?_eq_some_iff.1 qL).1
            rw[List.drop_eq_getElem_cons Bg,List.take_succ_cons,List.take_zero]
            rw[List.getElem?_eq_getElem Bg] at qL
            injection qL with qL;rw[qL]
           rwa [EW] at this
     · exact absurd ag av
   · exact absurd ag av
 · rename_i sz' xs k n e1 e2
   split at ag
   · rename_i hc
     split at ag
     · rename_i el te
       obtain⟨rfl,rfl⟩:=aR ag
       rw[e1] at hx;rw[e2] at hi
       simp only[ak] at hx hi
       obtain⟨kb,Cx,p,cap,vs,hp,YU,vH,jm⟩:=hx
       have bp:n.toNat<xs.length:=(List.getElem?_eq_some_iff.1 te).1
       rcases jm with jm| ⟨Xu,eh,zH,fR⟩
       · subst jm;simp at bp
       · rw[Xu] at hp
         obtain⟨xv,qL,bQ⟩:=vH.get te
         refine⟨rfl,aF hr.aY (fin _ xs.length cap k n hp hi hc.1 (by omega)) ?_⟩
         simp only[ak]
         refine⟨mF kb te,?_,xv,by rw[ep];simp,eh,zH,bQ,?_⟩
         · simp only[List.all_eq_true] at Cx
           exact Cx el (List.mem_of_getElem? te)
         · have:=(fR.drop n.toNat).take 1
           rw[hc.2.1] at this
           have EW: (vs.drop n.toNat).take 1=[xv]:=by
            have Bg:n.toNat<vs.length:=(List.getElem?_eq_some_iff.1 qL).1
            rw[List.drop_eq_getElem_cons Bg,List.take_succ_cons,List.take_zero]
            rw[List.getElem?_eq_getElem Bg] at qL
            injection qL with qL;rw[qL]
           rwa [EW] at this
     · exact absurd ag av
   · exact absurd ag av
 · exact absurd ag av
theorem zJ {t e:TypeId} {x i:Operand} {x' i':aQ} {n sz:Nat} (hr:Rel X T a μ) (ho:o.op= .indexAddr t x i) (hd:aZ X t=some (.array n e)) (hn:bq X e=some sz)
   (h1:cr X x=some x') (h2:cr X i=some i') (ag: (aw E (.mc n sz x' i')).run C ⟨T,μ.O⟩=some (v,σ')):σ'.T=T∧ca X o a μ σ'.O v:=by
 simp only[aw,bd] at ag
 have hx:=aL hr h1 μ.O
 have hi:=aL hr h2 μ.O
 have fin: ∀ (p:Addr) (k:IntKind) (j:Int),a.eval x= .pointer (some p)→a.eval i= .int k j→0≤j→j<n→
     (execOp a.eval o).run X.P μ.w= .ok (.value (.pointer (some (p.add (j.toNat*sz))))) μ.w:=fun p k j hp hq KS Jd=>by
   simp only[execOp,ho]
   refine bS ?_
   simp[Instr.indexAt,Sem.run_bind,hp,hq,asIntOf,run_underlying hd,KS,Jd,cN hn,Instr.sureAddr]
 split at ag
 · rename_i r g idx off k j e1 e2
   split at ag
   · rename_i hc
     obtain⟨rfl,rfl⟩:=aR ag
     rw[e1] at hx;rw[e2] at hi
     simp only[ak] at hx hi
     obtain⟨p,hp,qK,bY⟩:=hx
     refine⟨rfl,aF hr.aY (fin p k j hp hi hc.1 hc.2) ?_⟩
     simp only[ak]
     refine⟨_,rfl,qK,fun hg=> ⟨(bY hg).1,?_⟩⟩
     rw[(bY hg).2,ep];simp[Nat.add_assoc]
   · exact absurd ag av
 · rename_i el off k j e1 e2
   split at ag
   · rename_i hc
     obtain⟨rfl,rfl⟩:=aR ag
     rw[e1] at hx;rw[e2] at hi
     simp only[ak] at hx hi
     obtain⟨zK,yM,b,q,sz',xv,hp,eK⟩:=hx
     refine⟨rfl,aF hr.aY (fin _ k j hp hi hc.1 hc.2) ?_⟩
     simp only[ak]
     exact⟨zK,yM,b,q,sz',xv,by rw[ep];simp[Nat.add_assoc],eK⟩
   · exact absurd ag av
 · exact absurd ag av
theorem zL {t:TypeId} {x i:Operand} {x' i':aQ} (hr:Rel X T a μ) (ho:o.op= .index t x i) (hd:aZ X t=some .string)
   (h1:cr X x=some x') (h2:cr X i=some i') (ag: (aw E (.mf x' i')).run C ⟨T,μ.O⟩=some (v,σ')):σ'.T=T∧ca X o a μ σ'.O v:=by
 simp only[aw,bd] at ag
 have hx:=aL hr h1 μ.O
 have hi:=aL hr h2 μ.O
 split at ag
 · rename_i s k n e1 e2
   split at ag
   · rename_i hc
     split at ag
     · rename_i b hb
       obtain⟨rfl,rfl⟩:=aR ag
       rw[e1] at hx;rw[e2] at hi
       simp only[ak] at hx hi
       obtain⟨bs,zH,rfl⟩:=hx
       refine⟨rfl,aF (val:= .int .u8 b.toNat) hr.aY ?_ (by simp[ak])⟩
       simp only[execOp,ho]
       refine bS ?_
       have ru:bs[n.toNat]? =some b:=by
        have bp:=(List.getElem?_eq_some_iff.1 hb).1
        have hv:=(List.getElem?_eq_some_iff.1 hb).2
        have ck:n.toNat<bs.size:=by rw[Array.length_toList] at bp;exact bp
        rw[getElem?_pos bs n.toNat ck]
        congr 1
       simp[Instr.index,Sem.run_bind,zH,hi,asIntOf,run_underlying hd,hc,ru]
     · exact absurd ag av
   · exact absurd ag av
 · exact absurd ag av
theorem zM {t e:TypeId} {x i:Operand} {x' i':aQ} {agg:Bool} {n sz:Nat} (hr:Rel X T a μ) (ho:o.op= .index t x i) (hd:aZ X t=some (.array n e)) (hg:fY X e=some agg)
   (hn:bq X e=some sz) (h1:cr X x=some x') (h2:cr X i=some i') (ag: (aw E (.mg agg n sz x' i')).run C ⟨T,μ.O⟩=some (v,σ')):σ'.T=T∧ca X o a μ σ'.O v:=by
 simp only[aw,bd] at ag
 have hx:=aL hr h1 μ.O
 have hi:=aL hr h2 μ.O
 split at ag
 · rename_i k j e2
   split at ag
   · rename_i hc
     obtain⟨hp,rfl⟩:=cY ag
     rw[e2] at hi
     simp only[ak] at hi
     cases hy:a8 ⟨T,μ.O⟩ x'<;>rw[hy] at hc hx hp<;>simp[V.isAgg] at hc
     cases agg with
     | true=>
       obtain⟨cs,kI,hle,hv⟩:=lA hx hp
       refine⟨rfl,aF hr.aY ?_ hv⟩
       simp only[execOp,ho]
       refine bS ?_
       simp[Instr.index,Sem.run_bind,kI,hi,asIntOf,run_underlying hd,hc,cN hn,qm hg hn]
     | false=>
       obtain⟨_,c,Ns,hv⟩:=j6 hx hp
       simp only[ak] at hx
       obtain⟨_,cs,kI,_⟩:=hx
       rw[kI] at Ns
       refine⟨rfl,aF hr.aY ?_ hv⟩
       simp only[execOp,ho]
       refine bS ?_
       simp[Instr.index,Sem.run_bind,kI,hi,asIntOf,run_underlying hd,hc,cN hn,fj hg cs _ c (by simpa [Value.cells] using Ns)]
   · exact absurd ag av
 · exact absurd ag av
end
end Go.AM
namespace Go.AM
open Go Go.RowKit
def Je (X:Ctx) (μ:Mu) (x:Option V) (v:Option Value):Prop:=(x=none∧v=none)∨ ∃x' v',x=some x'∧v=some v'∧ak X μ x' v'
theorem kq {X:Ctx} {μ:Mu} {T:Nat→V} {a:Go.Act} {x:Option Operand} {y:Option aQ} (hr:Rel X T a μ) (h:rp X x=some y) (O:Nat→Obj):
  Je X μ (y.map (a8 ⟨T,O⟩)) (x.map a.eval):=by
 rcases GH hr h O with⟨rfl,rfl⟩ | ⟨x',y',rfl,rfl,bQ⟩
 · exact .inl ⟨rfl,rfl⟩
 · exact .inr ⟨_,_,rfl,rfl,bQ⟩
section
variable {X:Ctx} {E:Env} {C:a9} {o:Oper} {a:Go.Act} {T:Nat→V} {μ:Mu} {v:V} {σ':St}
theorem run_sliceBound {d l y:Nat} {x:V} {xv:Value} {code:BoundsCode} {w:World} (h:ak X μ x xv) (hb:bC d (some x)=some l) (hle:l≤y):
  (Instr.sliceBound xv y code).run X.P w= .ok l w:=by
 cases x<;>simp[bC] at hb
 obtain⟨h0,rfl⟩:=hb
 simp only[ak] at h
 subst h
 rename_i k n
 have:n≤(y:Int):=by omega
 simp[Instr.sliceBound,asIntOf,Sem.run_bind,h0,this]
theorem eY {isSlice:Bool} {len cap l h:Nat} {lo hi:Option V} {Nt Nu:Option Value} {w:World} (h1:Je X μ lo Nt) (h2:Je X μ hi Nu)
   (hl:bC 0 lo=some l) (hh:bC len hi=some h) (Nv:l≤h) (cE:h≤cap):
   (Instr.sliceBounds isSlice len cap Nt Nu none).run X.P w= .ok (l,h,cap) w:=by
 rcases h1 with⟨rfl,rfl⟩ | ⟨lx,lv,rfl,rfl,YV⟩ <;>rcases h2 with⟨rfl,rfl⟩ | ⟨hx,hv,rfl,rfl,hhr⟩
 · simp[bC] at hl hh;subst hl;subst hh
   simp[Instr.sliceBounds,Sem.run_bind]
 · simp[bC] at hl;subst hl
   simp[Instr.sliceBounds,Sem.run_bind,run_sliceBound hhr hh cE]
 · have hh':=hh
   simp[bC] at hh';subst hh'
   simp[Instr.sliceBounds,Sem.run_bind,run_sliceBound YV hl Nv]
 · simp[Instr.sliceBounds,Sem.run_bind,run_sliceBound YV hl Nv,run_sliceBound hhr hh cE]
theorem gK {isSlice:Bool} {len cap l h m:Nat} {lo:Option V} {hi mx:V} {Nt:Option Value} {Nu mxv:Value} {w:World} (h1:Je X μ lo Nt) (h2:ak X μ hi Nu) (h3:ak X μ mx mxv)
   (hl:bC 0 lo=some l) (hh:bC len (some hi)=some h) (hm:bC 0 (some mx)=some m) (Nv:l≤h) (hhm:h≤m) (cE:m≤cap):
   (Instr.sliceBounds isSlice len cap Nt (some Nu) (some mxv)).run X.P w= .ok (l,h,m) w:=by
 rcases h1 with⟨rfl,rfl⟩ | ⟨lx,lv,rfl,rfl,YV⟩
 · simp[bC] at hl;subst hl
   simp[Instr.sliceBounds,Sem.run_bind,run_sliceBound h3 hm cE,run_sliceBound h2 hh hhm]
 · simp[Instr.sliceBounds,Sem.run_bind,run_sliceBound h3 hm cE,run_sliceBound h2 hh hhm,run_sliceBound YV hl Nv]
theorem zN {t:TypeId} {x:Operand} {lo hi:Option Operand} {x':aQ} {KT AT:Option aQ} (hr:Rel X T a μ) (ho:o.op= .slice t x lo hi none) (hd:aZ X t=some .string)
   (h1:cr X x=some x') (h2:rp X lo=some KT) (h3:rp X hi=some AT) (ag: (aw E (.je x' KT AT)).run C ⟨T,μ.O⟩=some (v,σ')):σ'.T=T∧ca X o a μ σ'.O v:=by
 simp only[aw,bd,CQ] at ag
 obtain⟨hb,rfl⟩:=cY ag
 have hx:=aL hr h1 μ.O
 cases hy:a8 ⟨T,μ.O⟩ x'<;>rw[hy] at hb hx<;>simp only[eu,reduceCtorEq] at hb
 rename_i s
 split at hb
 · rename_i l h hl hh
   split at hb<;>simp at hb
   rename_i hle
   subst hb
   simp only[ak] at hx
   obtain⟨bs,zH,hbd⟩:=hx
   have ck:s.length=bs.size:=by rw[←hbd,Array.length_toList];rfl
   have aai:=eY (isSlice:=false) (len:=bs.size) (cap:=bs.size) (w:=μ.w) (kq hr h2 μ.O) (kq hr h3 μ.O) hl (by rw[←ck];exact hh) hle.1 (by omega)
   refine⟨rfl,aF (val:= .string (bs.extract l h)) hr.aY ?_ ?_⟩
   · simp only[execOp,ho]
     refine bS ?_
     have kJ:X.P.underlying t=some .string:=hd
     simp only[Instr.sliceAt,Sem.run_bind,run_underlying kJ,Result.andThen_ok,Instr.slice,zH]
     have hn: (Option.map a.eval (none:Option Operand))=none:=rfl
     simp only[hn,Option.isSome_none,Bool.false_eq_true,if_false,Sem.run_bind,aai,Result.andThen_ok,Sem.run_pure]
   · simp only[ak]
     refine⟨_,rfl,?_⟩
     rw[ByteArray.data_extract,Array.toList_extract,List.extract_eq_take_drop,hbd]
 · simp at hb
theorem GL {     t e:TypeId} {x:Operand} {lo hi mx:Option Operand} {x':aQ} {KT AT YW:Option aQ} {sz:Nat} (hr:Rel X T a μ) (ho:o.op= .slice t x lo hi mx) (hd:aZ X t=some (.slice e))
   (hn:bq X e=some sz) (h1:cr X x=some x') (h2:rp X lo=some KT) (h3:rp X hi=some AT) (h4:rp X mx=some YW)
   (ag: (aw E (.slice sz x' KT AT YW)).run C ⟨T,μ.O⟩=some (v,σ')):σ'.T=T∧ca X o a μ σ'.O v:=by
 simp only[aw,bd,CQ] at ag
 have hx:=aL hr h1 μ.O
 have rl:=kq hr h2 μ.O
 have rh:=kq hr h3 μ.O
 have rm:=kq hr h4 μ.O
 generalize KT.map (a8 ⟨T,μ.O⟩)=Nt at ag rl
 generalize AT.map (a8 ⟨T,μ.O⟩)=Nu at ag rh
 generalize YW.map (a8 ⟨T,μ.O⟩)=mxv at ag rm
 have kJ:X.P.underlying t=some (.slice e):=hd
 have fin: ∀ (p:Option Addr) (len cap l h m:Nat),a.eval x= .slice p len cap→(Instr.sliceBounds true len cap (lo.map a.eval) (hi.map a.eval) (mx.map a.eval)).run X.P μ.w= .ok (l,h,m) μ.w→
     (execOp a.eval o).run X.P μ.w= .ok (.value (.slice (if m=l then p else p.map (·.add (l*sz))) (h - l) (m - l))) μ.w:=fun p len cap l h m hp hb=>by
   simp only[execOp,ho]
   refine bS ?_
   simp only[Instr.sliceAt,Sem.run_bind,run_underlying kJ,Result.andThen_ok,Instr.slice,hp,hb,cN hn,Sem.run_pure]
 split at ag
 · rename_i r g off len ey
   rw[ey] at hx
   simp only[ak] at hx
   obtain⟨p,cap,hp,YU,qK,bY⟩:=hx
   simp only[Act.run] at ag
   split at ag
   · rename_i es bl
     split at ag
     · rename_i zO
       obtain⟨q0,q1,q2⟩:=bY zO.1
       have aaj:es.length≤(μ.φ r).cap:=(hr.aY.row r es bl q0).2.1
       split at ag
       ·
         rename_i _ l h hl hh
         split at ag
         · rename_i hle
           obtain⟨rfl,rfl⟩:=aR ag
           have hmv:mx.map a.eval=none:=by
             rcases rm with⟨h5,h6⟩ | ⟨_,_,h5,_⟩
             · exact h6
             · cases h5
           have hb:=eY (isSlice:=true) (len:=len) (cap:=cap) (w:=μ.w) rl rh hl hh hle.1 (by omega)
           refine⟨rfl,aF hr.aY (fin p len cap l h cap hp (by rw[hmv];exact hb)) ?_⟩
           simp only[ak]
           refine⟨_,_,rfl,by omega,qK,fun _=> ⟨q0,by omega,?_⟩⟩
           by_cases BE:cap=l
           · left;omega
           · right
             rw[if_neg BE]
             have:cap≠0:=by omega
             rw[q2.resolve_left this,Option.map_some,ep,zO.2]
             congr 2
             rw[Nat.add_mul];omega
         · exact absurd ag av
       ·
         rename_i _ l h' m hl hh
         split at ag
         · rename_i _ _ h m' Xv
           split at ag
           · rename_i hle
             obtain⟨rfl,rfl⟩:=aR ag
             rcases rm with⟨h5,_⟩ | ⟨mxx,Xw,h5,h6,zQ⟩
             · cases h5
             · injection h5 with h5;subst h5
               rcases rh with⟨h7,_⟩ | ⟨hix,Xx,h7,h8,zR⟩
               · cases h7
               · injection h7 with h7;subst h7
                 have hb:=gK (isSlice:=true) (len:=len) (cap:=cap) (w:=μ.w) rl zR zQ hl hh Xv hle.1 hle.2.1 (by omega)
                 refine⟨rfl,aF hr.aY (fin p len cap l h' m' hp (by rw[h6,h8];exact hb)) ?_⟩
                 split
                 · rename_i GM
                   simp only[ak]
                   have e1:h' - l=0:=by omega
                   have e2:m' - l=0:=by omega
                   exact⟨_,by rw[e1,e2]⟩
                 · simp[ak]
           · exact absurd ag av
         · exact absurd ag av
       · exact absurd ag av
     · exact absurd ag av
   · exact absurd ag av
 · obtain⟨ vO,rfl⟩:=cY ag
   refine⟨rfl,?_⟩
   generalize a8 ⟨T,μ.O⟩ x'=y at vO hx
   cases y<;>simp only[ja,reduceCtorEq] at vO
   ·
     simp only[ak] at hx
     obtain⟨p,hp⟩:=hx
     split at vO
     · rename_i l h m hl hh hm
       split at vO<;>simp at vO
       rename_i hle
       subst vO
       have e1:l=0:=by omega
       have e2:h=0:=by omega
       have e3:m=0:=by omega
       subst e1;subst e2;subst e3
       have hb: ∃m',(Instr.sliceBounds true 0 0 (lo.map a.eval) (hi.map a.eval) (mx.map a.eval)).run X.P μ.w= .ok (0,0,m') μ.w∧m'=0:=by
         rcases rm with⟨rfl,h6⟩ | ⟨mxx,Xw,rfl,h6,zQ⟩
         · rw[h6];exact⟨_,eY (isSlice:=true) (len:=0) (cap:=0) (w:=μ.w) rl rh hl hh (Nat.le_refl _) (Nat.le_refl _),rfl⟩
         · rcases rh with⟨rfl,h8⟩ | ⟨hix,Xx,rfl,h8,zR⟩
           · simp at hle
           · rw[h6,h8];exact⟨_,gK (isSlice:=true) (len:=0) (cap:=0) (w:=μ.w) rl zR zQ hl hh hm (Nat.le_refl _) (Nat.le_refl _) (Nat.le_refl _),rfl⟩
       obtain⟨m',hb,rfl⟩:=hb
       refine aF hr.aY (fin p 0 0 0 0 0 hp hb) ?_
       simp[ak]
     · simp at vO
   ·
     rename_i sz' xs
     simp only[ak] at hx
     obtain⟨kb,Cx,p,cap,vs,hp,YU,vH,jm⟩:=hx
     split at vO
     · rename_i Xy
       subst Xy
       split at vO
       · rename_i l h hl hh
         split at vO<;>simp at vO
         rename_i hle
         subst vO
         obtain⟨_,hmv⟩: (none:Option V)=none∧mx.map a.eval=none:=by
           rcases rm with⟨h5,h6⟩ | ⟨_,_,h5,_⟩
           · exact⟨rfl,h6⟩
           · cases h5
         have hb:=eY (isSlice:=true) (len:=xs.length) (cap:=cap) (w:=μ.w) rl rh hl hh hle.1 (by omega)
         refine aF hr.aY (fin p xs.length cap l h cap hp (by rw[hmv];exact hb)) ?_
         have lV: (aJ xs l (h - l)).length=h - l:=by simp[aJ];omega
         simp only[ak]
         refine⟨qo _ (qp _ kb),iU _ (kp _ Cx),_,_,(vs.drop l).take (h - l),by rw[lV],by rw[lV];omega,aj.take _ (aj.drop _ vH),?_⟩
         by_cases Nv:l=h
         · left;simp[aJ,Nv]
         · right
           rcases jm with jm| ⟨b,q,Xu,eh,zH,fR⟩
           · subst jm;simp at hle;omega
           · have: ¬cap=l:=by omega
             rw[if_neg this,Xu,Option.map_some,ep]
             exact⟨b,q+l*sz',rfl,eh,zH,(fR.drop l).take _⟩
       · rename_i l h m hl hh
         split at vO
         · rename_i hi0 m' Xv
           split at vO<;>simp at vO
           rename_i hle
           subst vO
           rcases rm with⟨h5,_⟩ | ⟨mxx,Xw,h5,h6,zQ⟩
           · cases h5
           · injection h5 with h5;subst h5
             rcases rh with⟨h7,_⟩ | ⟨hix,Xx,h7,h8,zR⟩
             · cases h7
             · injection h7 with h7;subst h7
               have hb:=gK (isSlice:=true) (len:=xs.length) (cap:=cap) (w:=μ.w) rl zR zQ hl hh Xv hle.1 hle.2.1 (by omega)
               refine aF hr.aY (fin p xs.length cap l h m' hp (by rw[h6,h8];exact hb)) ?_
               split
               · simp only[ak]
                 have e1:h - l=0:=by omega
                 have e2:m' - l=0:=by omega
                 exact⟨_,by rw[e1,e2]⟩
               · simp[ak]
         · simp at vO
       · simp at vO
     · simp at vO
end
end Go.AM
namespace Go.AM
open Go Go.RowKit
def cf {α:Type} (L:List α) (p:Nat) (m:List α):List α:=L.take p++m++L.drop (p+m.length)
theorem dF {α:Type} {L m:List α} {p:Nat} (h:p+m.length≤L.length): (cf L p m).length=L.length:=by
 simp[cf];omega
theorem ed {α:Type} {L m:List α} {p:Nat} (h:p+m.length≤L.length) (q:Nat):
   (cf L p m)[q]? =if q<p then L[q]? else if q<p+m.length then m[q - p]? else L[q]? :=by
 unfold cf
 rw[List.append_assoc,List.getElem?_append]
 have hl: (L.take p).length=p:=by simp;omega
 rw[hl]
 split
 · rename_i hq
   rw[List.getElem?_take];simp[hq]
 · rename_i hq
   rw[List.getElem?_append]
   split
   · rename_i hm
     rw[if_pos (by omega)]
   · rename_i hm
     rw[if_neg (by omega),List.getElem?_drop]
     congr 1;omega
def cW (c:List Value) (base sz:Nat) (vs:List Value):Prop:=
 ∀i v,vs[i]? =some v→v.cells.size=sz∧ ∀j x,v.cells[j]? =some x→c[base+i*sz+j]? =some x
def flat (us:List Value):List Value:=us.flatMap fun v=>v.cells.toList
theorem dW {us:List Value} {sz:Nat} (h: ∀v ∈ us,v.cells.size=sz): (flat us).length=us.length*sz:=by
 induction us with
 | nil=>simp[flat]
 | cons u us ih=>
   have h1:=h u (by simp)
   have h2:=ih fun v hv=>h v (by simp[hv])
   simp only[flat,List.flatMap_cons,List.length_append,List.length_cons] at h2 ⊢
   rw[h2,Array.length_toList,h1,Nat.add_mul];omega
theorem qq {us:List Value} {sz:Nat} (h: ∀v ∈ us,v.cells.size=sz) {i j:Nat} {v x:Value} (hv:us[i]? =some v) (hx:v.cells[j]? =some x):
   (flat us)[i*sz+j]? =some x:=by
 induction us generalizing i with
 | nil=>simp at hv
 | cons u us ih=>
   have h1:=h u (by simp)
   simp only[flat,List.flatMap_cons]
   cases i with
   | zero=>
     simp at hv;subst hv
     have hj:j<u.cells.size:=(Array.getElem?_eq_some_iff.1 hx).1
     rw[List.getElem?_append_left (by rw[Array.length_toList];omega)]
     simpa using hx
   | succ i=>
     simp at hv
     have:=ih (fun v hv=>h v (by simp[hv])) hv
     rw[List.getElem?_append_right (by rw[Array.length_toList,h1,Nat.add_mul];omega)]
     rw[Array.length_toList,h1]
     have e: (i+1)*sz+j - sz=i*sz+j:=by rw[Nat.add_mul];omega
     rw[e];exact this
theorem tw {sz i j k:Nat} (hj:j<sz) (D1:i<k):i*sz+j<k*sz:=by
 have: (i+1)*sz≤k*sz:=Nat.mul_le_mul_right _ (by omega)
 rw[Nat.add_mul] at this;omega
theorem ya {sz i j k:Nat} (D1:k≤i):k*sz≤i*sz+j:=by
 have:k*sz≤i*sz:=Nat.mul_le_mul_right _ D1
 omega
theorem cW.write {c:List Value} {base sz k:Nat} {vs us:List Value} (h:cW c base sz vs) (hk:k≤vs.length) (yN: ∀v ∈ us,v.cells.size=sz)
   (r7:base+k*sz+us.length*sz≤c.length):
   cW (cf c (base+k*sz) (flat us)) base sz (vs.take k++us++vs.drop (k+us.length)):=by
 have vS:=dW yN
 intro i v hv
 have bp: (vs.take k).length=k:=by simp;omega
 rw[List.append_assoc,List.getElem?_append,bp] at hv
 split at hv
 · rename_i hi
   rw[List.getElem?_take] at hv
   simp only[hi,if_true] at hv
   obtain⟨h1,h2⟩:=h i v hv
   refine⟨h1,fun j x hx=> ?_⟩
   have hj:j<sz:=h1 ▸ (Array.getElem?_eq_some_iff.1 hx).1
   rw[ed (by rw[vS];omega),if_pos (by have:=tw hj hi;omega)]
   exact h2 j x hx
 · rename_i hi
   rw[List.getElem?_append] at hv
   split at hv
   · rename_i By
     have hvm:=List.mem_of_getElem? hv
     refine⟨yN v hvm,fun j x hx=> ?_⟩
     have hj:j<sz:=yN v hvm ▸ (Array.getElem?_eq_some_iff.1 hx).1
     have qK:=ya (sz:=sz) (j:=j) (show k≤i by omega)
     have kl:=tw (k:=k+us.length) hj (show i<k+us.length by omega)
     rw[Nat.add_mul] at kl
     rw[ed (by rw[vS];omega),if_neg (by omega),if_pos (by rw[vS];omega)]
     have e:base+i*sz+j - (base+k*sz)=(i - k)*sz+j:=by
      rw[Nat.sub_mul]
      have:=Nat.mul_le_mul_right sz (show k≤i by omega)
      omega
     rw[e]
     exact qq yN hv hx
   · rename_i By
     rw[List.getElem?_drop] at hv
     have e:k+us.length+(i - k - us.length)=i:=by omega
     rw[e] at hv
     obtain⟨h1,h2⟩:=h i v hv
     refine⟨h1,fun j x hx=> ?_⟩
     have qK:=ya (sz:=sz) (j:=j) (show k+us.length≤i by omega)
     rw[Nat.add_mul] at qK
     rw[ed (by rw[vS];omega),if_neg (by omega),if_neg (by rw[vS];omega)]
     exact h2 j x hx
theorem cW.take {c:List Value} {base sz:Nat} {vs:List Value} (h:cW c base sz vs) (n:Nat):cW c base sz (vs.take n):=by
 intro i v hv
 rw[List.getElem?_take] at hv
 split at hv
 · exact h i v hv
 · simp at hv
theorem cW.drop {c:List Value} {base sz:Nat} {vs:List Value} (h:cW c base sz vs) (n:Nat):cW c (base+n*sz) sz (vs.drop n):=by
 intro i v hv
 rw[List.getElem?_drop] at hv
 obtain⟨h1,h2⟩:=h (n+i) v hv
 refine⟨h1,fun j x hx=> ?_⟩
 rw[←h2 j x hx,Nat.add_mul]
 congr 1;omega
theorem cW.put {c:List Value} {base sz idx off:Nat} {vs m:List Value} {x x':Value} (h:cW c base sz vs) (hx:vs[idx]? =some x)
   (r7:base+(idx+1)*sz≤c.length) (hm:off+m.length≤sz) (AS:x'.cells.toList=cf x.cells.toList off m):
   cW (cf c (base+idx*sz+off) m) base sz (vs.set idx x'):=by
 have ck:=(h idx x hx).1
 rw[Nat.add_mul] at r7
 have gm:base+idx*sz+off+m.length≤c.length:=by omega
 have Mw:off+m.length≤x.cells.toList.length:=by have:x.cells.toList.length=x.cells.size:=Array.length_toList;omega
 intro i v hv
 rw[List.getElem?_set] at hv
 split at hv
 · rename_i e;subst e
   have bp:idx<vs.length:=(List.getElem?_eq_some_iff.1 hx).1
   simp only[bp,if_true,Option.some.injEq] at hv
   subst hv
   have Jf:x'.cells.size=sz:=by rw[←Array.length_toList,AS,dF Mw,Array.length_toList];exact ck
   refine⟨Jf,fun j y hy=> ?_⟩
   have hj:j<sz:=Jf ▸ (Array.getElem?_eq_some_iff.1 hy).1
   have KQ: (cf x.cells.toList off m)[j]? =some y:=by rw[←AS];simpa using hy
   rw[ed Mw] at KQ
   rw[ed gm]
   have e2:base+idx*sz+j - (base+idx*sz+off)=j - off:=by omega
   split at KQ
   · rw[if_pos (by omega)]
     exact(h idx x hx).2 j y (by simpa using KQ)
   · split at KQ
     · rw[if_neg (by omega),if_pos (by omega),e2];exact KQ
     · rw[if_neg (by omega),if_neg (by omega)]
       exact(h idx x hx).2 j y (by simpa using KQ)
 · rename_i cO
   obtain⟨h1,h2⟩:=h i v hv
   refine⟨h1,fun j y hy=> ?_⟩
   have hj:j<sz:=h1 ▸ (Array.getElem?_eq_some_iff.1 hy).1
   rw[ed gm]
   by_cases bp:i<idx
   · have:=tw hj bp
     rw[if_pos (by omega)];exact h2 j y hy
   · have:=ya (sz:=sz) (j:=j) (show idx+1≤i by omega)
     rw[Nat.add_mul] at this
     rw[if_neg (by omega),if_neg (by omega)];exact h2 j y hy
theorem fk {w:World} {b base sz:Nat} {vs:List Value} {c:Array Value} {T:TypeId} {fr:Nat×Nat} (hb:w.heap[b]? =some (.cells c T fr))
  (h:dA w b base sz vs):cW c.toList base sz vs:=by
 intro i v hv
 obtain⟨h1,h2⟩:=h.GB hb i v hv
 exact⟨h1,fun j x hx=>by simpa using h2 j x hx⟩
theorem nF {P:Program} {w:World} {b q sz n:Nat} {vs:List Value} (h:dA w b q sz vs) (hn:n≤vs.length):
  (loadCells ⟨b,q,none⟩ (n*sz)).run P w= .ok (flat (vs.take n)).toArray w:=by
 have hs: ∀v ∈ vs.take n,v.cells.size=sz:=fun v hv=>by
  obtain⟨i,hi⟩:=List.getElem?_of_mem (List.mem_of_mem_take hv)
  exact(h i v hi).1
 have hl: (flat (vs.take n)).length=n*sz:=by rw[dW hs,List.length_take,Nat.min_eq_left hn]
 rw[←hl]
 refine run_loadCells_list w ⟨b,q,none⟩ _ fun p x hx=> ?_
 rw[ep]
 have hp:p<n*sz:=by rw[←hl];exact(List.getElem?_eq_some_iff.1 hx).1
 have ck:0 <sz:=by
  rcases Nat.eq_zero_or_pos sz with e| e
  · subst e;simp at hp
  · exact e
 have hi:p / sz<n:=Nat.div_lt_of_lt_mul (by rw[Nat.mul_comm];exact hp)
 have tu:p / sz*sz+p % sz=p:=by rw[Nat.mul_comm];exact Nat.div_add_mod p sz
 have aak:p / sz<vs.length:=by omega
 have hv:vs[p / sz]? =some vs[p / sz]:=List.getElem?_eq_getElem aak
 have hvt: (vs.take n)[p / sz]? =some vs[p / sz]:=by rw[List.getElem?_take];simp[hi,hv]
 obtain⟨h1,h2⟩:=h _ _ hv
 have hm:p % sz< (vs[p / sz]).cells.size:=by rw[h1];exact Nat.mod_lt _ ck
 have hc: (vs[p / sz]).cells[p % sz]? =some (vs[p / sz]).cells[p % sz]:=Array.getElem?_eq_getElem hm
 have g1:=qq hs hvt hc
 rw[tu,hx] at g1
 injection g1 with g1
 have g2:=h2 _ _ hc
 rw[Nat.add_assoc,tu,←g1] at g2
 exact g2
end Go.AM
namespace Go.AM
open Go Go.RowKit
theorem bE {v:V} {sz:Nat} (h:aO v sz=true):v.cJ=true∧v.cells.length=sz:=by
 simp[aO] at h;exact⟨h.2,h.1⟩
theorem eT {X:Ctx} {t:TypeId} {z:V} (h:dH X t=some z) (w:World): ∃zv,(zeroValue t).run X.P w= .ok zv w∧uw zv=some z:=by
 simp only[dH,info,Option.bind_eq_some_iff] at h
 obtain⟨i,h1,zv,h2,h3⟩:=h
 exact⟨zv,by simp[zeroValue,Sem.run_bind,run_typeInfo w h1,h2],h3⟩
theorem aj.kr {X:Ctx} {μ:Mu} {ys:List V} {us:List Value} {sz:Nat} (h:aj X μ ys us) (hb:ys.all (aO · sz)=true):
   (∀u ∈ us,u.cells.size=sz)∧ ∀c ∈ flat us,c.oneCell'=true:=by
 have hh: ∀u ∈ us,∃y,y ∈ ys∧ak X μ y u:=fun u hu=>by
   obtain⟨i,hi⟩:=List.getElem?_of_mem hu
   have bp:i<ys.length:=by rw[h.length];exact(List.getElem?_eq_some_iff.1 hi).1
   obtain⟨u',h1,h2⟩:=h.get (List.getElem?_eq_getElem bp)
   rw[hi] at h1;injection h1 with h1;subst h1
   exact⟨_,List.getElem_mem bp,h2⟩
 simp only[List.all_eq_true] at hb
 refine⟨fun u hu=> ?_,fun c hc=> ?_⟩
 · obtain⟨y,hy,hr⟩:=hh u hu
   obtain⟨h1,h2⟩:=bE (hb y hy)
   rw[hr.cV h1,h2]
 · simp only[flat,List.mem_flatMap] at hc
   obtain⟨u,hu,hcu⟩:=hc
   obtain⟨y,hy,hr⟩:=hh u hu
   obtain⟨h1,h2⟩:=bE (hb y hy)
   obtain⟨j,hj⟩:=List.getElem?_of_mem hcu
   have kI:=hr.cells h1
   have bp:j<y.cells.length:=by rw[kI.length];exact(List.getElem?_eq_some_iff.1 hj).1
   obtain⟨u',g1,g2⟩:=kI.get (List.getElem?_eq_getElem bp)
   rw[hj] at g1;injection g1 with g1;subst g1
   have KU:=hr.qk h1
   simp only[List.all_eq_true] at KU
   exact(g2.lr (KU _ (List.getElem_mem bp))).1
theorem fm {P:Program} {w:World} {g q:Nat} {cur:Array Value} {T:TypeId} (hg:w.heap[g]? =some (.cells cur T (0,0))) (m:List Value) (hl:q+m.length≤cur.size)
  (h1: ∀v ∈ m,v.oneCell'=true): (storeCells ⟨g,q,none⟩ m).run P w= .ok () (w.setRow g (cf cur.toList q m).toArray):=by
 have:=run_storeCells_at (P:=P) g q T m 0 cur w hg (by simpa using hl) h1
 simpa [cf] using this
section
variable {X:Ctx} {E:Env} {C:a9} {o:Oper} {a:Go.Act} {T:Nat→V} {μ:Mu} {v:V} {σ':St}
theorem uJ (hr:Rel X T a μ) {r sz:Nat} {arr:Bool} {es:List V} {vs:List Value} {c:Array Value} {t:TypeId} {val:Value} (ck:0 <sz) (cap:Nat)
  (cE:es.length≤cap) (nS:es.all (aO · sz)=true) (bQ:aj X μ es vs) (hc:cap*sz≤c.size) (fR:cW c.toList 0 sz vs)
  (ag: (execOp a.eval o).run X.P μ.w= .ok (.value val) (μ.w.alloc (.cells c t (0,0))))
  (hv:let μ':Mu:=⟨μ.w.alloc (.cells c t (0,0)),dg μ.φ r ⟨μ.w.heap.size,0,cap⟩,dg μ.O r {gen:=(μ.O r).gen+1,sz:=sz,arr:=arr,fz:=false,es:=some es}⟩;ak X μ' v val):
  ca X o a μ (dg μ.O r {gen:=(μ.O r).gen+1,sz:=sz,arr:=arr,fz:=false,es:=some es}) v:=by
 obtain⟨h1,h2⟩:=xW (X:=X) hr.aY r sz cap arr (es:=es) (vs:=vs) (c:=c) t ck cE nS bQ hc (fun i u hu=>by
  obtain⟨k1,k2⟩:=fR i u hu
  exact⟨k1,fun j x hx=>by simpa using k2 j x hx⟩)
 exact⟨val,_,_,.inl ag,hv,h1,h2⟩
theorem uK {x:Value}:cW x.cells.toList 0 x.cells.size [x]:=by
 intro i v hv
 cases i with
 | zero=>simp at hv;subst hv;exact⟨rfl,fun j y hy=>by simpa using hy⟩
 | succ i=>simp at hv
theorem GN {t:TypeId} {x':aQ} {r sz:Nat} {xv:Value} (hr:Rel X T a μ) (hx:ak X μ (a8 ⟨T,μ.O⟩ x') xv)
   (CU: (execOp a.eval o).run X.P μ.w= .ok (.value (.pointer (some ⟨μ.w.heap.size,0,none⟩))) (μ.w.alloc (.cells xv.cells t (0,0))))
   (ag: (aw E (.new r sz x')).run C ⟨T,μ.O⟩=some (v,σ')):σ'.T=T∧ca X o a μ σ'.O v:=by
 simp only[aw,bd] at ag
 split at ag
 · rename_i hb
   simp only[Bool.and_eq_true,decide_eq_true_eq] at hb
   simp only[Act.run,Option.some.injEq,Prod.mk.injEq] at ag
   obtain⟨rfl,rfl⟩:=ag
   obtain⟨hl,BE⟩:=bE hb.1
   have ck:xv.cells.size=sz:=by rw[hx.cV hl,BE]
   refine⟨rfl,uJ hr (cap:=1) (es:=[a8 ⟨T,μ.O⟩ x']) (vs:=[xv]) (c:=xv.cells) hb.2 (by simp) (by simp[hb.1]) (by simp[aj,hx]) (by omega) (ck ▸ uK) CU ?_⟩
   simp only[ak,az]
   exact⟨_,rfl,Nat.le_refl _,fun _=> ⟨hb.2,by simp⟩⟩
 · exact absurd ag av
theorem GO {t:TypeId} {r sz:Nat} {z:V} (ks:List Nat) (hr:Rel X T a μ) (ho:o.op= .alloc t) (hz:dH X t=some z)
  (ag: (aw E (.new r sz (.const (AP ks z)))).run C ⟨T,μ.O⟩=some (v,σ')):σ'.T=T∧ca X o a μ σ'.O v:=by
 obtain⟨zv,h1,h2⟩:=eT hz μ.w
 refine GN (t:=t) (xv:=zv) hr (ak.AP ks (dE h2).1) ?_ ag
 simp only[execOp,ho]
 refine bS ?_
 simp[Instr.alloc,Sem.run_bind,h1,newVar,newRow]
theorem Mx {t:TypeId} {r sz:Nat} {x:Operand} {x':aQ} (ks:List Nat) (hr:Rel X T a μ) (ho:o.op= .box t x) (h1:cr X x=some x')
  (ag: (aw E (.new r sz (Gz ks x'))).run C ⟨T,μ.O⟩=some (v,σ')):σ'.T=T∧ca X o a μ σ'.O v:=by
 refine GN (t:=t) (xv:=a.eval x) hr (ak.Gz ks (aL hr h1 μ.O)) ?_ ag
 simp only[execOp,ho]
 refine bS ?_
 simp[Instr.box,Sem.run_bind,newVar,newRow]
theorem se {zv:Value} {sz n:Nat} (hz:zv.cells.size=sz):
  ((Array.range (n*sz)).map (fun i=>zv.cells[i % zv.cells.size]!)).size=n*sz∧
    cW ((Array.range (n*sz)).map (fun i=>zv.cells[i % zv.cells.size]!)).toList 0 sz (List.replicate n zv):=by
 refine⟨by simp,fun i v hv=> ?_⟩
 rw[List.getElem?_replicate] at hv
 split at hv<;>simp at hv
 rename_i hi
 subst hv
 refine⟨hz,fun j x hx=> ?_⟩
 have hj:j<sz:=hz ▸ (Array.getElem?_eq_some_iff.1 hx).1
 have bp:=tw hj hi
 have hm: (i*sz+j) % sz=j:=by rw[Nat.mul_comm,Nat.mul_add_mod];exact Nat.mod_eq_of_lt hj
 have hr: (Array.range (n*sz))[i*sz+j]? =some (i*sz+j):=by simp[bp]
 simp only[Nat.zero_add,Array.toList_map,List.getElem?_map]
 rw[Array.getElem?_toList,hr]
 simp only[Option.map_some,hz,hm]
 rw[getElem!_def,hx]
theorem aj.replicate {z:V} {zv:Value} (h:ak X μ z zv): ∀n,aj X μ (List.replicate n z) (List.replicate n zv)
 | 0=>by simp[aj]
 | n+1=>by simp only[List.replicate_succ,aj];exact⟨h,aj.replicate h n⟩
theorem yb {t e:TypeId} {x y:Operand} {x' y':aQ} {r sz:Nat} {i:TypeInfo} {z:V} (hr:Rel X T a μ) (ho:o.op= .makeSlice t x y) (hd:aZ X t=some (.slice e)) (hn:bq X e=some sz)
   (hi:info X e=some i) (hz:dH X e=some z) (h1:cr X x=some x') (h2:cr X y=some y')
   (ag: (aw E (.makeSlice r sz i.bytes z x' y')).run C ⟨T,μ.O⟩=some (v,σ')):σ'.T=T∧ca X o a μ σ'.O v:=by
 simp only[aw,bd] at ag
 have hx:=aL hr h1 μ.O
 have hy:=aL hr h2 μ.O
 split at ag
 · rename_i k n k' m e1 e2
   split at ag
   · rename_i hc
     obtain⟨rk,td,KV,EY,hc5,hc6⟩:=hc
     simp only[Act.run,Option.some.injEq,Prod.mk.injEq] at ag
     obtain⟨rfl,rfl⟩:=ag
     rw[e1] at hx;rw[e2] at hy
     simp only[ak] at hx hy
     obtain⟨zv,rz,vI⟩:=eT hz μ.w
     obtain⟨sQ,Ig⟩:=dE (X:=X) (μ:=μ) vI
     have GP:zv.cells.size=sz:=by rw[sQ.cV Ig,(bE EY).2]
     obtain⟨aal,sO⟩:=se (n:=m.toNat) GP
     have NY:IntKind.i64.wrap n=n:=IntWalk.i64_in _ (by omega)
     have AQ:IntKind.i64.wrap m=m:=IntWalk.i64_in _ (by omega)
     have CR:X.P.underlying t=some (.slice e):=hd
     have hii:X.P.info? e=some i:=hi
     have htl: ¬ (((decide (m< 0) || decide ((i.bytes:Int)*m >2 ^ 48)) || decide (n< 0) || decide (n >m))=true):=by
       simp only[Bool.or_eq_true,decide_eq_true_eq,not_or]
       have: (i.bytes:Int)*m=m*i.bytes:=Int.mul_comm _ _
       have h48: (2:Int) ^ 48=281474976710656:=by decide
       refine⟨⟨⟨by omega,by omega⟩,by omega⟩,by omega⟩
     refine⟨rfl,uJ hr (cap:=m.toNat) (es:=List.replicate m.toNat z) (vs:=List.replicate m.toNat zv) (val:= .slice (some ⟨μ.w.heap.size,0,none⟩) n.toNat m.toNat) hc5 (by simp) ?_ (aj.replicate sQ _) (by rw[aal];exact Nat.le_refl _) sO (t:=e) ?_ ?_⟩
     · simp only[List.all_eq_true,List.mem_replicate]
       rintro q ⟨_,rfl⟩;exact EY
     · simp only[execOp,ho]
       refine bS ?_
       simp only[Instr.makeSlice,Sem.run_bind,run_underlying CR,Result.andThen_ok,hx,hy,asInt,asIntOf,Sem.run_pure,run_typeInfo μ.w hii,NY,AQ]
       rw[if_neg htl]
       simp only[Sem.run_bind,run_askRoom,Result.andThen_ok,cN hn]
       by_cases Du:m.toNat*sz=0
       · rw[if_pos Du]
         simp only[Sem.run_pure,Result.andThen_ok,newRow,Sem.run_bind,run_newObj]
         have hr0:Array.range 0= #[]:=rfl
         rw[Du,hr0]
         simp
       · rw[if_neg Du]
         simp only[Sem.run_bind,rz,Result.andThen_ok,Sem.run_pure,newRow,run_newObj]
         simp
     · simp only[ak,az]
       exact⟨_,_,rfl,by omega,Nat.le_refl _,fun _=> ⟨by omega,by simp,by simp⟩⟩
   · exact absurd ag av
 · exact absurd ag av
theorem oc {      c:V} {k:V→Act} {val:Value} {O:Nat→Obj} {p:V×St} (ho:bc X ⟨μ.w,μ.φ,O⟩) (hv:ak X ⟨μ.w,μ.φ,O⟩ c val) (ag: (b8 c k).run C ⟨T,O⟩=some p):
   ∃c' O',(k c').run C ⟨T,O'⟩=some p∧ak X ⟨μ.w,μ.φ,O'⟩ c' val∧Le ⟨μ.w,μ.φ,O⟩ ⟨μ.w,μ.φ,O'⟩∧bc X ⟨μ.w,μ.φ,O'⟩∧(c.aK=true→c'.aK=true):=by
 have same: (b8 c k).run C ⟨T,O⟩=(k c).run C ⟨T,O⟩→_:=fun e=> (⟨c,O,e ▸ ag,hv,Le.refl _,ho,id⟩: ∃c' O',(k c').run C ⟨T,O'⟩=some p∧ak X ⟨μ.w,μ.φ,O'⟩ c' val∧Le ⟨μ.w,μ.φ,O⟩ ⟨μ.w,μ.φ,O'⟩∧bc X ⟨μ.w,μ.φ,O'⟩∧(c.aK=true→c'.aK=true))
 cases c with
 | mp r g=>
   simp only[b8,Act.run] at ag
   split at ag
   · rename_i es bl
     split at ag
     · rename_i hc
       obtain⟨rk,td,KV,EY⟩:=hc
       simp only[Act.run] at ag
       obtain⟨le,rR⟩:=lu (μ:=⟨μ.w,μ.φ,O⟩) ho r
       refine⟨_,_,ag,?_,le,rR,fun _=>rfl⟩
       simp only[ak] at hv
       obtain⟨a,rfl,h1,h2⟩:=hv
       obtain⟨k0,rfl⟩:=h2 rk
       have eU:=rR.ents r es (by simp[az,bl]) (by simp[az,td])
       rcases eU with⟨cE,ents,clock,hm,bQ,ku⟩ | ⟨_,s,pos,_,rfl⟩ | ⟨nA,rfl⟩
       rotate_left
       · simp[V.isTuple] at EY
       · simp[V.isTuple] at EY
       simp only[ak]
       refine⟨KV,.inr ⟨_,ents,clock,rfl,?_,(Array.getElem?_eq_some_iff.1 hm).1,⟨hm,ku⟩,bQ⟩⟩
       rintro(⟨r',h1,h2,h3,h4⟩ | BF)
       · by_cases e:r'=r
         · subst e;simp[az] at h2
         · exact rR.inj r' r e h1 (by simp[az,bl]) h3 cE h4
       · exact rR.qJ r (by simp[az,bl]) cE BF
     · exact absurd ag av
   · exact absurd ag av
 | sl r g off len=>
   simp only[b8,Act.run] at ag
   split at ag
   · rename_i es bl
     split at ag
     · rename_i hc
       obtain⟨rk,td,KV,EY⟩:=hc
       simp only[Act.run] at ag
       obtain⟨le,rR⟩:=lu (μ:=⟨μ.w,μ.φ,O⟩) ho r
       refine⟨_,_,ag,?_,le,rR,fun _=>rfl⟩
       have lV: (aJ es off len).length=len:=by simp[aJ];omega
       have yc:=ak.mono le hv
       simp only[ak,az] at yc
       obtain⟨a0,cap,rfl,hle,_,bY⟩:=yc
       obtain⟨k0,k1,k2⟩:=bY rk
       obtain⟨q1,q2,q3,q4⟩:=rR.row r es (by simp[az,bl]) (by simpa [az] using k0)
       simp only[az] at q1 q2 q3 q4
       simp only[ak]
       refine⟨EY,?_,a0,cap,?_⟩
       · simp only[List.all_eq_true] at q3 ⊢
         exact fun x hx=> (bE (q3 x (List.mem_of_mem_drop (List.mem_of_mem_take hx)))).1
       · by_cases cE:cap=0
         · have:len=0:=by omega
           subst this
           refine⟨[],by rw[lV],by rw[lV];omega,?_,.inl ?_⟩
           · simp[aJ,aj]
           · simp[aJ]
         · have eB: (μ.φ r).cap≠0:=by omega
           rcases q4 with q4| ⟨cc,TT,vs,p1,p2,p3,p4⟩
           · exact absurd q4 eB
           · refine⟨(vs.drop off).take len,by rw[lV],by rw[lV];omega,aj.take _ (aj.drop _ p3),.inr ⟨_,_,k2.resolve_left cE,?_,(Array.getElem?_eq_some_iff.1 p1).1,(p4.drop off).take len⟩⟩
             rintro(⟨r',h1,h2,h3,h4⟩ | BF)
             · by_cases e:r'=r
               · subst e;simp[az] at h2
               · have:=rR.inj r' r e h1 (by simp[az,bl]) h3 eB
                 exact this h4
             · exact rR.qJ r (by simp[az,bl]) eB BF
     · exact absurd ag av
   · exact absurd ag av
 | own _ _=>exact absurd ag av
 | msl _ _ _ _=>exact absurd ag av
 | mptr _ _ _ _=>exact absurd ag av
 | any=>exact absurd ag av
 | it _ _=>exact absurd ag av
 | _=>exact same rfl
theorem mG: ∀ {cs:List V} {k:List V→Act} {vals:List Value} {O:Nat→Obj} {p:V×St},bc X ⟨μ.w,μ.φ,O⟩→aj X ⟨μ.w,μ.φ,O⟩ cs vals→(dN cs k).run C ⟨T,O⟩=some p→
   ∃ct O',(k ct).run C ⟨T,O'⟩=some p∧aj X ⟨μ.w,μ.φ,O'⟩ ct vals∧Le ⟨μ.w,μ.φ,O⟩ ⟨μ.w,μ.φ,O'⟩∧bc X ⟨μ.w,μ.φ,O'⟩∧(cs.all V.aK=true→ct.all V.aK=true)
 | [],k,[],O,p,ho,_,ag=> ⟨[],O,ag,by simp[aj],Le.refl _,ho,id⟩
 | [],_,_::_,_,_,_,h,_=>by simp[aj] at h
 | _::_,_,[],_,_,_,h,_=>by simp[aj] at h
 | c::cs,k,v::vals,O,p,ho,h,ag=>by
   simp only[aj] at h
   obtain⟨c',O1,h1,h2,h3,h4,h5⟩:=oc ho h.1 ag
   obtain⟨ct,O2,k1,k2,k3,k4,k5⟩:=mG h4 (aj.mono h3 h.2) h1
   refine⟨c'::ct,O2,k1,?_,h3.trans k3,k4,?_⟩
   · simp only[aj];exact⟨ak.mono k3 h2,k2⟩
   · intro hh
     simp only[List.all_cons,Bool.and_eq_true] at hh ⊢
     exact⟨h5 hh.1,k5 hh.2⟩
theorem iV {c:V} {k:V→Act} {val:Value} {O:Nat→Obj} {p:V×St} (ho:bc X ⟨μ.w,μ.φ,O⟩) (hv:ak X ⟨μ.w,μ.φ,O⟩ c val) (ag: (sM c k).run C ⟨T,O⟩=some p):
   ∃c' O',(k c').run C ⟨T,O'⟩=some p∧ak X ⟨μ.w,μ.φ,O'⟩ c' val∧Le ⟨μ.w,μ.φ,O⟩ ⟨μ.w,μ.φ,O'⟩∧bc X ⟨μ.w,μ.φ,O'⟩:=by
 unfold sM at ag
 split at ag
 · exact⟨c,O,ag,hv,Le.refl _,ho⟩
 · split at ag
   · simp only[ak] at hv
     obtain⟨h0,vs,rfl,vH⟩:=hv
     obtain⟨ct,O',h1,h2,h3,h4,h5⟩:=mG ho vH ag
     exact⟨_,O',h1,by simp only[ak];exact⟨h5 h0,vs,rfl,h2⟩,h3,h4⟩
   · obtain⟨c',O',h1,h2,h3,h4,_⟩:=oc ho hv ag
     exact⟨c',O',h1,h2,h3,h4⟩
theorem od: ∀ {cs:List V} {k:List V→Act} {vals:List Value} {O:Nat→Obj} {p:V×St},bc X ⟨μ.w,μ.φ,O⟩→aj X ⟨μ.w,μ.φ,O⟩ cs vals→(iH.go cs k).run C ⟨T,O⟩=some p→
   ∃ct O',(k ct).run C ⟨T,O'⟩=some p∧aj X ⟨μ.w,μ.φ,O'⟩ ct vals∧Le ⟨μ.w,μ.φ,O⟩ ⟨μ.w,μ.φ,O'⟩∧bc X ⟨μ.w,μ.φ,O'⟩
 | [],k,[],O,p,ho,_,ag=> ⟨[],O,ag,by simp[aj],Le.refl _,ho⟩
 | [],_,_::_,_,_,_,h,_=>by simp[aj] at h
 | _::_,_,[],_,_,_,h,_=>by simp[aj] at h
 | c::cs,k,v::vals,O,p,ho,h,ag=>by
   simp only[aj] at h
   obtain⟨c',O1,h1,h2,h3,h4⟩:=iV ho h.1 ag
   obtain⟨ct,O2,k1,k2,k3,k4⟩:=od h4 (aj.mono h3 h.2) h1
   refine⟨c'::ct,O2,k1,?_,h3.trans k3,k4⟩
   simp only[aj];exact⟨ak.mono k3 h2,k2⟩
theorem uL {cs:List V} {k:List V→Act} {vals:List Value} {O:Nat→Obj} {p:V×St} (ho:bc X ⟨μ.w,μ.φ,O⟩) (hv:aj X ⟨μ.w,μ.φ,O⟩ cs vals) (ag: (iH cs k).run C ⟨T,O⟩=some p):
  ∃ct O',(k ct).run C ⟨T,O'⟩=some p∧aj X ⟨μ.w,μ.φ,O'⟩ ct vals∧Le ⟨μ.w,μ.φ,O⟩ ⟨μ.w,μ.φ,O'⟩∧bc X ⟨μ.w,μ.φ,O'⟩:=by
 unfold iH at ag
 split at ag
 · exact⟨cs,O,ag,hv,Le.refl _,ho⟩
 · exact od ho hv ag
theorem yd {b:Bool} {c:V} {k:V→Act} {val:Value} {O:Nat→Obj} {p:V×St} (ho:bc X ⟨μ.w,μ.φ,O⟩) (hv:ak X ⟨μ.w,μ.φ,O⟩ c val) (ag: (oF b c k).run C ⟨T,O⟩=some p):
   ∃c' O',(k c').run C ⟨T,O'⟩=some p∧ak X ⟨μ.w,μ.φ,O'⟩ c' val∧Le ⟨μ.w,μ.φ,O⟩ ⟨μ.w,μ.φ,O'⟩∧bc X ⟨μ.w,μ.φ,O'⟩:=by
 unfold oF at ag
 split at ag
 · rename_i r g off
   simp only[Act.run] at ag
   split at ag
   · rename_i e bl
     split at ag
     · rename_i hc
       obtain⟨rk,td,KV⟩:=hc
       simp only[Act.run] at ag
       obtain⟨le,rR⟩:=lu (μ:=⟨μ.w,μ.φ,O⟩) ho r
       refine⟨_,_,ag,?_,le,rR⟩
       have yc:=ak.mono le hv
       simp only[ak,az] at yc
       obtain⟨a0,rfl,_,bY⟩:=yc
       obtain⟨k0,rfl⟩:=bY rk
       obtain⟨q1,q2,q3,q4⟩:=rR.row r [e] (by simp[az,bl]) (by simpa [az] using k0)
       simp only[az] at q1 q2 q3 q4
       simp only[List.length_cons,List.length_nil] at q2
       have hb:aO e (O r).sz=true:=by simpa using q3
       have cE: (μ.φ r).cap≠0:=by omega
       rcases q4 with q4| ⟨cc,TT,vs,p1,p2,p3,p4⟩
       · omega
       match vs,p3,p4 with
       | [x],p3,p4=>
         simp only[aj,and_true] at p3
         simp only[ak]
         refine⟨KV,(bE hb).1,_,_,_,x,?_,?_,(Array.getElem?_eq_some_iff.1 p1).1,p3,p4⟩
         · simp
         rintro(⟨r',h1,h2,h3,h4⟩ | BF)
         · by_cases e:r'=r
           · subst e;simp[az] at h2
           · exact rR.inj r' r e h1 (by simp[az,bl]) h3 cE h4
         · exact rR.qJ r (by simp[az,bl]) cE BF
       | [],p3,_=>simp[aj] at p3
       | _::_::_,p3,_=>simp[aj] at p3
     · exact absurd ag av
   · exact absurd ag av
 · exact⟨c,O,ag,hv,Le.refl _,ho⟩
theorem oe {a:Go.Act} (ht: ∀t,ak X μ (T t) (a.tmps.getD t undef)): ∀ {xs:List Operand} {ys:List aQ} {bs:List Bool} {k:List V→Act} {O:Nat→Obj} {p:V×St},km X xs=some ys→bs.length=ys.length→
   bc X ⟨μ.w,μ.φ,O⟩→Le μ ⟨μ.w,μ.φ,O⟩→(iI (bs.zip ys) k).run C ⟨T,O⟩=some p→
   ∃cs O',(k cs).run C ⟨T,O'⟩=some p∧aj X ⟨μ.w,μ.φ,O'⟩ cs (xs.map a.eval)∧Le ⟨μ.w,μ.φ,O⟩ ⟨μ.w,μ.φ,O'⟩∧bc X ⟨μ.w,μ.φ,O'⟩
 | [],ys,bs,k,O,p,h,hl,ho,le,ag=>by
   simp[km] at h;subst h
   simp only[List.zip_nil_right,iI] at ag
   exact⟨[],O,ag,by simp[aj],Le.refl _,ho⟩
 | x::xs,ys,bs,k,O,p,h,hl,ho,le,ag=>by
   simp only[km] at h
   split at h
   · rename_i y ZQ h1 h2
     injection h with h;subst h
     match bs,hl with
     | b::bs,hl=>
       simp only[List.zip_cons_cons,iI,bd] at ag
       have hx:=aL (μ:=⟨μ.w,μ.φ,O⟩) ⟨fun t=>ak.mono le (ht t),ho⟩ h1 O
       obtain⟨c',O1,k1,k2,k3,k4⟩:=yd ho hx ag
       obtain⟨cs,O2,g1,g2,g3,g4⟩:=oe ht h2 (by simpa using hl) k4 (le.trans k3) k1
       refine⟨c'::cs,O2,g1,?_,k3.trans g3,g4⟩
       simp only[List.map_cons,aj]
       exact⟨ak.mono g3 k2,g2⟩
   · simp at h
theorem ye {f:FuncId} {first caps:Array Operand} {n:Nat} {cs:List aQ} {b:Operand→Bool} (hr:Rel X T a μ) (ho:o.op= .makeFunc (.func f) first caps) (Xp:first.isEmpty=true)
   (hn:X.gq f=some n) (ht:km X caps.toList=some cs) (ag: (aw E (.pR n ((caps.toList.map b).zip cs))).run C ⟨T,μ.O⟩=some (v,σ')):σ'.T=T∧ca X o a μ σ'.O v:=by
 simp only[aw] at ag
 have hl: (caps.toList.map b).length=cs.length:=by
   have:=(ko hr μ.O ht).length
   simpa using this.symm
 obtain⟨vs,O',h1,h2,h3,h4⟩:=oe hr.tmps ht hl hr.aY (Le.refl _) ag
 obtain⟨rfl,rfl⟩:=aR h1
 obtain rfl:first= #[]:=by simpa using Xp
 refine⟨rfl,.func (.func f) #[] (caps.map a.eval),μ.w,μ.φ,.inl ?_,?_,h3,h4⟩
 · simp[execOp,ho,Instr.makeFunc,Sem.run_bind]
 · simp only[ak]
   exact⟨f,_,rfl,hn,by simpa using h2⟩
theorem Jg {t:TypeId} {r sz:Nat} {x:Operand} {x':aQ} (ks:List Nat) (hr:Rel X T a μ) (ho:o.op= .box t x) (h1:cr X x=some x')
   (ag: (aw E (.Fi r sz (Gz ks x'))).run C ⟨T,μ.O⟩=some (v,σ')):σ'.T=T∧ca X o a μ σ'.O v:=by
 have hx:=ak.Gz ks (aL hr h1 μ.O)
 have CU: (execOp a.eval o).run X.P μ.w= .ok (.value (.pointer (some ⟨μ.w.heap.size,0,none⟩))) (μ.w.alloc (.cells (a.eval x).cells t (0,0))):=by
   simp only[execOp,ho]
   refine bS ?_
   simp[Instr.box,Sem.run_bind,newVar,newRow]
 generalize a.eval x=xv at hx CU
 simp only[aw,bd] at ag
 obtain⟨c',O',h2,h3,h4,h5⟩:=iV (μ:=μ) hr.aY hx ag
 have qM:Rel X T a ⟨μ.w,μ.φ,O'⟩:=⟨fun t=>ak.mono h4 (hr.tmps t),h5⟩
 split at h2
 · rename_i hb
   simp only[Bool.and_eq_true,decide_eq_true_eq] at hb
   simp only[Act.run,Option.some.injEq,Prod.mk.injEq] at h2
   obtain⟨rfl,rfl⟩:=h2
   obtain⟨hl,BE⟩:=bE hb.1
   have ck:xv.cells.size=sz:=by rw[h3.cV hl,BE]
   obtain⟨val,w',φ',k1,k2,k3,k4⟩:=uJ (o:=o) (a:=a) qM (cap:=1) (es:=[c']) (vs:=[xv]) (c:=xv.cells) (arr:=false) (r:=r) (v:= .ptr r ((O' r).gen+1) 0 0) hb.2 (by simp) (by simp[hb.1]) (by simp[aj,h3]) (by omega) (ck ▸ uK) CU (by
    simp only[ak,az]
    exact⟨_,rfl,Nat.le_refl _,fun _=> ⟨hb.2,by simp⟩⟩)
   exact⟨rfl,val,w',φ',k1,k2,Le.trans h4 k3,k4⟩
 · exact absurd h2 av
end
end Go.AM
namespace Go.AM
open Go Go.RowKit
theorem oh {α:Type} (L:List α) (p:Nat) (x:α) (h:p<L.length):L.set p x=cf L p [x]:=by
 apply List.ext_getElem?
 intro q
 rw[ed (by simp;omega),List.getElem?_set]
 by_cases hq:q<p
 · simp[hq];omega
 · by_cases YN:p=q
   · subst YN;simp[h]
   · have: ¬q<p+1:=by omega
     simp[hq,YN,this]
theorem bM {α:Type} (xs:Array α):xs.toList.length=xs.size:=Array.length_toList
section
variable {X:Ctx} {E:Env} {C:a9} {o:Oper} {a:Go.Act} {T:Nat→V} {μ:Mu} {v:V} {σ':St}
theorem zS {agg:Bool} {off sz:Nat} {e u e':V} {x val:Value} (he:ak X μ e x) (hl:e.cJ=true) (hu:ak X μ u val) (h:cP agg off sz e u=some e'):
   ∃x',ak X μ e' x'∧e'.cJ=true∧e'.cells.length=e.cells.length∧val.cells.size=sz∧off+sz≤x.cells.size∧x'.cells.toList=cf x.cells.toList off val.cells.toList∧
     ∀c ∈ val.cells.toList,c.oneCell'=true:=by
 unfold cP at h
 split at h
 · split at h
   · rename_i cs vs
     split at h<;>simp at h
     rename_i hc
     subst h
     simp only[ak] at he hu
     obtain⟨h0,xs,rfl,hx⟩:=he
     obtain⟨k0,ys,rfl,hy⟩:=hu
     have l1:=hx.length
     have l2:=hy.length
     rw[bM xs] at l1
     rw[bM ys] at l2
     refine⟨.agg (cf xs.toList off ys.toList).toArray,?_,rfl,?_,?_,?_,?_,?_⟩
     · simp only[ak]
       refine⟨?_,_,rfl,?_⟩
       · have t1:=iU (p:=V.aK) off h0
         have t2:=kp (p:=V.aK) (off+sz) h0
         simp only[List.all_append,t1,k0,t2,Bool.and_self]
       · have:=((aj.take off hx).append hy).append (aj.drop (off+sz) hx)
         simpa [cf,←l2,hc.1] using this
     · simp[V.cells];omega
     · simp only[Value.cells];omega
     · simp only[Value.cells];omega
     · simp[Value.cells]
     · intro c YX
       simp only[Value.cells] at YX
       obtain⟨j,hj⟩:=List.getElem?_of_mem YX
       have bp:j<vs.length:=by rw[hy.length];exact(List.getElem?_eq_some_iff.1 hj).1
       obtain⟨c',g1,g2⟩:=hy.get (List.getElem?_eq_getElem bp)
       rw[hj] at g1;injection g1 with g1;subst g1
       simp only[List.all_eq_true] at k0
       exact(g2.lr (k0 _ (List.getElem_mem bp))).1
   · simp at h
 · split at h
   · rename_i oi
     obtain⟨yf,kI⟩:=hu.lr oi.1
     have CV: ∀c ∈ val.cells.toList,c.oneCell'=true:=by rw[kI];simpa using yf
     split at h
     · rename_i cs
       split at h<;>simp at h
       rename_i Jc
       subst h
       simp only[ak] at he
       obtain⟨h0,xs,rfl,hx⟩:=he
       have l1:=hx.length
       rw[bM xs] at l1
       refine⟨.agg (xs.toList.set off val).toArray,?_,rfl,?_,?_,?_,?_,CV⟩
       · simp only[ak]
         refine⟨?_,_,rfl,by simpa using aj.set hx off hu⟩
         simp only[List.all_eq_true] at h0 ⊢
         intro c YX
         rcases List.mem_or_eq_of_mem_set YX with hm| rfl
         · exact h0 c hm
         · exact oi.1
       · simp[V.cells]
       · rw[kI,oi.2];rfl
       · simp only[Value.cells];omega
       · rw[kI]
         simp only[Value.cells]
         rw[oh _ _ _ (by rw[Array.length_toList];omega)]
     · split at h<;>simp at h
       rename_i cO eB
       subst h
       obtain⟨_,hcx⟩:=he.lr eB.1
       refine⟨val,hu,by simp[V.cJ,oi.1],?_,?_,?_,?_,CV⟩
       · rw[V.fA oi.1,V.fA eB.1];rfl
       · rw[kI,oi.2];rfl
       · rw[hcx,oi.2,eB.2];simp
       · rw[kI,hcx,eB.2];simp[cf]
   · simp at h
theorem yg {t:TypeId} {w:World} {g q sz:Nat} {cur:Array Value} {T0:TypeId} {val:Value} (hn:bq X t=some sz) (hg:w.heap[g]? =some (.cells cur T0 (0,0)))
  (hs:val.cells.size=sz) (hl:q+sz≤cur.size) (h1: ∀c ∈ val.cells.toList,c.oneCell'=true):
  (storeVar t ⟨g,q,none⟩ val).run X.P w= .ok () (w.setRow g (cf cur.toList q val.cells.toList).toArray):=by
 have:=fm (P:=X.P) hg val.cells.toList (by rw[Array.length_toList,hs];exact hl) h1
 simp[storeVar,Sem.run_bind,cN hn,hs,this]
theorem zT {    t:TypeId} {agg:Bool} {sz r g idx off:Nat} {u:V} {val:Value} {O:Nat→Obj} (ho:bc X ⟨μ.w,μ.φ,O⟩) (hu:ak X ⟨μ.w,μ.φ,O⟩ u val) (hn:bq X t=some sz) (h0:0 < (O r).sz)
   (ag: (aw.jE agg sz r g idx off u).run C ⟨T,O⟩=some (v,σ')):
   σ'.T=T∧v= .tuple []∧ ∃w' φ',(storeVar t ⟨(μ.φ r).cK,(μ.φ r).base+idx*(O r).sz+off,none⟩ val).run X.P μ.w= .ok () w'∧Le ⟨μ.w,μ.φ,O⟩ ⟨w',φ',σ'.O⟩∧bc X ⟨w',φ',σ'.O⟩:=by
 simp only[aw.jE,Act.run] at ag
 split at ag
 · rename_i es bl
   split at ag
   · rename_i hc
     split at ag
     · rename_i e he
       split at ag
       · rename_i e' hp
         simp only[Act.run,Option.some.injEq,Prod.mk.injEq] at ag
         obtain⟨rfl,rfl⟩:=ag
         obtain⟨k1,k2,k3,k4⟩:=ho.row r es bl h0
         simp only at k1 k2 k3 k4
         have bp:idx<es.length:=(List.getElem?_eq_some_iff.1 he).1
         have eB: (μ.φ r).cap≠0:=by omega
         rcases k4 with k4| ⟨c,T0,vs,hb,r7,vH,fR⟩
         · exact absurd k4 eB
         · obtain⟨x,hx,bQ⟩:=vH.get he
           have nS:aO e (O r).sz=true:=by
            simp only[List.all_eq_true] at k3
            exact k3 e (List.mem_of_getElem? he)
           obtain⟨kx,BE⟩:=bE nS
           obtain⟨x',p1,p2,p3,p4,p5,p6,p7⟩:=zS bQ kx hu hp
           have Cm:x.cells.size=(O r).sz:=by rw[bQ.cV kx,BE]
           have sO:cW c.toList (μ.φ r).base (O r).sz vs:=fk hb fR
           have hmul: (idx+1)*(O r).sz≤(μ.φ r).cap*(O r).sz:=Nat.mul_le_mul_right _ (by omega)
           have My: (μ.φ r).base+(idx+1)*(O r).sz≤c.toList.length:=by rw[Array.length_toList];omega
           have sR:=sO.put (x':=x') hx My (m:=val.cells.toList) (by rw[Array.length_toList,p4];omega) p6
           have nq:=yg (X:=X) (t:=t) (q:=(μ.φ r).base+idx*(O r).sz+off) (val:=val) hn hb p4 (by rw[Nat.add_mul] at hmul;omega) p7
           have hw:=kn (μ:=⟨μ.w,μ.φ,O⟩) ho r bl hc.2 hb eB (c':=(cf c.toList ((μ.φ r).base+idx*(O r).sz+off) val.cells.toList).toArray)
            (by
              have: (cf c.toList ((μ.φ r).base+idx*(O r).sz+off) val.cells.toList).length=c.toList.length:=dF (by
               rw[Array.length_toList,Array.length_toList,p4];rw[Nat.add_mul] at hmul;omega)
              simpa using this)
            (O r).gen (μ.φ r).base (μ.φ r).cap (es':=es.set idx e') (vs':=vs.set idx x') (.inl ⟨rfl,rfl,rfl⟩) eB (by simpa using k2)
            (by
              simp only[List.all_eq_true] at k3 ⊢
              intro y hy
              rcases List.mem_or_eq_of_mem_set hy with hm| rfl
              · exact k3 y hm
              · simp[aO,p2,p3,BE])
            (aj.set vH idx p1) r7 (fun i y hy=>by
              obtain⟨q1,q2⟩:=sR i y hy
              exact⟨q1,fun j z hz=>by simpa using q2 j z hz⟩)
           refine⟨rfl,rfl,_,_,nq,hw.1,hw.2⟩
       · exact absurd ag av
     · exact absurd ag av
   · exact absurd ag av
 · exact absurd ag av
theorem GQ {t:TypeId} {x y:Operand} {x' y':aQ} {agg:Bool} {sz:Nat} (hr:Rel X T a μ) (ho:o.op= .store t x y) (h1:cr X x=some x') (h2:cr X y=some y')
   (hn:bq X t=some sz) (ag: (aw E (.store agg sz x' y')).run C ⟨T,μ.O⟩=some (v,σ')):σ'.T=T∧ca X o a μ σ'.O v:=by
 simp only[aw,bd] at ag
 have hx:=aL hr h1 μ.O
 have hy:=aL hr h2 μ.O
 split at ag
 · rename_i r g idx off e
   rw[e] at hx
   simp only[ak] at hx
   obtain⟨p,hp,qK,bY⟩:=hx
   have fin: ∀w',(storeVar t p (a.eval y)).run X.P μ.w= .ok () w'→(execOp a.eval o).run X.P μ.w= .ok .skip w':=fun w' hw=>by
     simp only[execOp,ho]
     refine GC ?_
     simp[Instr.storeAt,Instr.sureAddr,Sem.run_bind,hp,hw]
   have main: ∀ {O:Nat→Obj} {u:V},Le μ ⟨μ.w,μ.φ,O⟩→bc X ⟨μ.w,μ.φ,O⟩→ak X ⟨μ.w,μ.φ,O⟩ u (a.eval y)→(aw.jE agg sz r g idx off u).run C ⟨T,O⟩=some (v,σ')→
       σ'.T=T∧ca X o a μ σ'.O v:=by
     intro O u le fo hu sR
     have hgO: (O r).gen=g:=by
       simp only[aw.jE,Act.run] at sR
       split at sR
       · split at sR
         · rename_i hc;exact hc.1
         · exact absurd sR av
       · exact absurd sR av
     have aam:=le.gen r
     simp only at aam
     have hgm: (μ.O r).gen=g:=by omega
     obtain⟨_,Jh⟩:=le.row r (by simp only;omega)
     obtain⟨q1,q2,w',φ',q3,q4,q5⟩:=zT (t:=t) fo hu hn (by simp only at Jh;rw[Jh];exact(bY hgm).1) sR
     refine⟨q1,undef,w',φ',.inr ⟨fin w' ?_,rfl⟩,?_,le.trans q4,q5⟩
     · rw[(bY hgm).2]
       simp only at Jh
       rw[←Jh];exact q3
     · rw[q2];simp only[ak];exact⟨#[],rfl,by simp[aj]⟩
   simp only[Act.run] at ag
   split at ag
   · rw[bd] at ag
     obtain⟨u,O1,k1,k2,k3,k4⟩:=iV (μ:=μ) hr.aY hy ag
     exact main k3 k4 k2 k1
   · rw[bd] at ag
     exact main (Le.refl μ) hr.aY hy ag
 · exact absurd ag av
theorem wL {off:Nat}: ∀ (m:List Value) (k:Nat) (cs:Array Value),off+k+m.length≤cs.size→
   ((m.zipIdx k).foldl (fun cs (p:Value×Nat)=>cs.setIfInBounds (off+p.2) p.1) cs).toList=cf cs.toList (off+k) m
 | [],k,cs,_=>by simp[cf]
 | x::m,k,cs,h=>by
   simp only[List.zipIdx_cons,List.foldl_cons]
   simp at h
   rw[wL m (k+1) _ (by simp;omega)]
   rw[Array.toList_setIfInBounds]
   apply List.ext_getElem?
   intro q
   rw[ed (by simp;omega),ed (by simp;omega),List.getElem?_set]
   by_cases h1:q<off+k
   · have:q<off+(k+1):=by omega
     have h2: ¬off+k=q:=by omega
     simp[h1,this,h2]
   · by_cases h2:q=off+k
     · subst h2
       have h3:off+k<off+(k+1):=by omega
       have h4:off+k<cs.size:=by omega
       simp[h3,h4]
     · by_cases h3:q<off+k+(m.length+1)
       · have h4: ¬q<off+(k+1):=by omega
         have h5:q<off+(k+1)+m.length:=by omega
         have h6:q - (off+k)=(q - (off+(k+1)))+1:=by omega
         simp[h1,h4,h3,h5,h6]
       · have h4: ¬q<off+(k+1):=by omega
         have h5: ¬q<off+(k+1)+m.length:=by omega
         have h6: ¬off+k=q:=by omega
         simp[h1,h4,h3,h5,h6]
theorem wM {off:Nat} {x:Value} {cs:Array Value} (h:off+x.cells.size≤cs.size):
  (x.cells.zipIdx.foldl (fun cs (p:Value×Nat)=>cs.setIfInBounds (off+p.2) p.1) cs).toList=cf cs.toList off x.cells.toList:=by
 rw[←Array.foldl_toList,Array.toList_zipIdx]
 have:=wL (off:=off) x.cells.toList 0 cs (by rw[Array.length_toList];omega)
 simpa using this
theorem zU {place:Nat→Option (Nat×Nat)}: ∀ {ps:List (Nat×Nat×V)} {qs:List (Nat×Value)} {cs ct:List V} {xs:Array Value},
   (ps.length=qs.length)→(∀ (i:Nat) p q,ps[i]? =some p→qs[i]? =some q→place q.1=some (p.1,p.2.1)∧ak X μ p.2.2 q.2)→aj X μ cs xs.toList→cs.all V.aK=true→
   de cs ps=some ct→ ∃Ji,Instr.fill place xs qs=some Ji∧aj X μ ct Ji.toList∧ct.all V.aK=true
 | [],[],cs,ct,xs,_,_,hv,hc,h=>by
   simp[de] at h;subst h
   exact⟨xs,rfl,hv,hc⟩
 | [],_::_,_,_,_,h,_,_,_,_=>by simp at h
 | _::_,[],_,_,_,h,_,_,_,_=>by simp at h
 | (off,sz,u)::ps,(i,q)::qs,cs,ct,xs,hl,hp,hv,hc,h=>by
   simp only[de] at h
   split at h
   · rename_i qt
     obtain⟨h1,h2,h3⟩:=qt
     obtain⟨rf,bQ⟩:=hp 0 _ _ rfl rfl
     simp only at rf bQ
     have Xz:q.cells.size=sz:=by rw[bQ.cV h3,h1]
     have hlen:=hv.length
     rw[bM xs] at hlen
     have gm:off+q.cells.size≤xs.size:=by omega
     have wN:=wM (x:=q) (cs:=xs) gm
     have EZ:aj X μ (cs.take off++u.cells++cs.drop (off+sz)) (q.cells.zipIdx.foldl (fun cs (p:Value×Nat)=>cs.setIfInBounds (off+p.2) p.1) xs).toList:=by
      rw[wN]
      have:=((aj.take off hv).append (bQ.cells h3)).append (aj.drop (off+sz) hv)
      simpa [cf,Xz] using this
     have td: (cs.take off++u.cells++cs.drop (off+sz)).all V.aK=true:=by
      have t1:=iU (p:=V.aK) off hc
      have t2:=kp (p:=V.aK) (off+sz) hc
      simp only[List.all_append,t1,bQ.qk h3,t2,Bool.and_self]
     obtain⟨Ji,g1,g2,g3⟩:=zU (place:=place) (ps:=ps) (qs:=qs) (by simpa using hl) (fun j p q' hj Nw=>hp (j+1) p q' (by simpa using hj) (by simpa using Nw)) EZ td h
     refine⟨Ji,?_,g2,g3⟩
     have BG: ¬ (q.cells.size≠sz∨xs.size<off+q.cells.size):=by omega
     simp only[Instr.fill,rf]
     rw[if_neg (by simpa using BG)]
     exact g1
   · simp at h
end
end Go.AM
namespace Go.AM
open Go Go.RowKit
theorem oj {α β:Type} {P:Program} {w:World} {f:α→Sem β} {g:α→β}: ∀ (l:List α),(∀x ∈ l,(f x).run P w= .ok (g x) w)→(l.mapM f).run P w= .ok (l.map g) w
 | [],_=>by simp
 | x::l,h=>by
   have h1:=h x (by simp)
   have h2:=oj (f:=f) (g:=g) l fun y hy=>h y (by simp[hy])
   simp[List.mapM_cons,Sem.run_bind,h1,h2]
theorem uM {α β:Type} {P:Program} {w:World} {f:α→Sem β} {g:α→β} (l:Array α) (h: ∀x ∈ l.toList,(f x).run P w= .ok (g x) w): (l.mapM f).run P w= .ok (l.map g) w:=by
 have:=oj l.toList h
 rw[Array.mapM_eq_mapM_toList]
 simp only[map_eq_pure_bind,Sem.run_bind,this,Result.andThen_ok,Sem.run_pure]
 congr 1
 apply Array.ext';simp
section
variable {X:Ctx} {E:Env} {C:a9} {o:Oper} {a:Go.Act} {T:Nat→V} {μ:Mu} {v:V} {σ':St}
theorem sf: ∀ (ps:List (Nat×Nat×aQ)) (k:List (Nat×Nat×V)→Act) (σ:St),(eE ps k).run C σ=(k (ps.map fun p=> (p.1,p.2.1,a8 σ p.2.2))).run C σ
 | [],_,_=>rfl
 | (_,_,x)::ps,k,σ=>by simp only[eE,bd,sf ps,List.map_cons]
theorem sg (hr:Rel X T a μ) (O:Nat→Obj) {place:Nat→Option (Nat×Nat)}: ∀ {ps:List (Nat×Operand)} {as:List (Nat×Nat×aQ)},iN X place ps=some as→
   as.length=ps.length∧ ∀ (i:Nat) p q,as[i]? =some p→ps[i]? =some q→place q.1=some (p.1,p.2.1)∧ak X μ (a8 ⟨T,O⟩ p.2.2) (a.eval q.2)
 | [],as,h=>by simp[iN] at h;subst h;simp
 | (i,x)::ps,as,h=>by
   simp only[iN] at h
   split at h
   · rename_i off sz y YY h1 h2 h3
     injection h with h;subst h
     obtain⟨k1,k2⟩:=sg hr O h3
     refine⟨by simp[k1],fun j p q hp hq=> ?_⟩
     cases j with
     | zero=>simp at hp hq;subst hp;subst hq;exact⟨h1,aL hr h2 O⟩
     | succ j=>exact k2 j p q (by simpa using hp) (by simpa using hq)
   · simp at h
theorem uN (ks:List Nat) (hr:Rel X T a μ) {t:TypeId} {z:List V} (hz:dH X t=some (.agg z)) {place:Nat→Option (Nat×Nat)} {parts:Array (Nat×Operand)} {as:List (Nat×Nat×aQ)}
   (hp:iN X place parts.toList=some as) (ag: (aw E (.build (xO ks z) as)).run C ⟨T,μ.O⟩=some (v,σ')):
   σ'=⟨T,μ.O⟩∧ ∃zv cells,(zeroValue t).run X.P μ.w= .ok zv μ.w∧Instr.fill place zv.cells (parts.map fun (i,x)=> (i,a.eval x)).toList=some cells∧ak X μ v (.agg cells):=by
 simp only[aw,sf] at ag
 obtain⟨zv,rz,vI⟩:=eT hz μ.w
 obtain⟨sQ,_⟩:=dE (X:=X) (μ:=μ) vI
 simp only[ak] at sQ
 obtain⟨h0,xs,rfl,Cm⟩:=sQ
 obtain⟨l1,l2⟩:=sg hr μ.O hp
 split at ag
 · rename_i cs kI
   obtain⟨rfl,rfl⟩:=aR ag
   have key:=zU (X:=X) (μ:=μ) (place:=place) (ps:=as.map fun p=> (p.1,p.2.1,a8 ⟨T,μ.O⟩ p.2.2)) (qs:=(parts.map fun (i,x)=> (i,a.eval x)).toList) (xs:=xs)
    (by simp[l1]) (fun j p q hp hq=>by
      simp only[List.getElem?_map,Option.map_eq_some_iff] at hp
      obtain⟨p',AU,rfl⟩:=hp
      rw[Array.toList_map,List.getElem?_map,Option.map_eq_some_iff] at hq
      obtain⟨q',BH,rfl⟩:=hq
      exact l2 j p' q' AU BH) (Cm.xO ks) (oT ks h0) kI
   obtain⟨Ji,g1,g2,g3⟩:=key
   exact⟨rfl,_,Ji,rz,g1,by simp only[ak];exact⟨g3,Ji,rfl,g2⟩⟩
 · exact absurd ag av
theorem D2 (ks:List Nat) {t:TypeId} {parts:Array (Nat×Operand)} {z:List V} {fs:Array Field} {as:List (Nat×Nat×aQ)} (hr:Rel X T a μ) (ho:o.op= .build t parts) (hz:dH X t=some (.agg z))
  (hd:aZ X t=some (.struct fs)) (mm:fs.toList.all (fun f=> (bq X f.type).isSome)=true)
  (hp:iN X (fun i=>match fs[i]? with| some f=> (bq X f.type).map fun s=> (f.offset,s) | none=>none) parts.toList=some as)
  (ag: (aw E (.build (xO ks z) as)).run C ⟨T,μ.O⟩=some (v,σ')):σ'.T=T∧ca X o a μ σ'.O v:=by
 obtain⟨rfl,zv,cells,h1,h2,h3⟩:=uN ks hr hz hp ag
 refine⟨rfl,aF hr.aY ?_ h3⟩
 simp only[execOp,ho]
 refine bS ?_
 have kJ:X.P.underlying t=some (.struct fs):=hd
 have hm:=uM (P:=X.P) (w:=μ.w) (f:=fun f:Field=>do pure (f.offset,←sizeOf f.type)) (g:=fun f:Field=> (f.offset,(bq X f.type).getD 0)) fs (fun f hf=>by
  simp only[List.all_eq_true] at mm
  obtain⟨s,hs⟩:=Option.isSome_iff_exists.1 (mm f hf)
  simp[Sem.run_bind,cN hs,hs])
 have EU: (fun (i:Nat)=> (fs.map fun (f:Field)=> (f.offset,(bq X f.type).getD 0))[i]?)=fun (i:Nat)=>match fs[i]? with| some f=> (bq X f.type).map fun s=> (f.offset,s) | none=>none:=by
  funext i
  rw[Array.getElem?_map]
  cases hf:fs[i]? with
  | none=>rfl
  | some f=>
    simp only[List.all_eq_true] at mm
    obtain⟨s,hs⟩:=Option.isSome_iff_exists.1 (mm f (by simpa using Array.mem_of_getElem? hf))
    simp[hs]
 simp only[Instr.build,Sem.run_bind,h1,Result.andThen_ok,run_underlying kJ,hm,EU,h2,Sem.run_pure]
theorem D3 (ks:List Nat) {t e:TypeId} {n s:Nat} {parts:Array (Nat×Operand)} {z:List V} {as:List (Nat×Nat×aQ)} (hr:Rel X T a μ) (ho:o.op= .build t parts) (hz:dH X t=some (.agg z))
  (hd:aZ X t=some (.array n e)) (hs:bq X e=some s) (hp:iN X (fun i=>some (i*s,s)) parts.toList=some as)
  (ag: (aw E (.build (xO ks z) as)).run C ⟨T,μ.O⟩=some (v,σ')):σ'.T=T∧ca X o a μ σ'.O v:=by
 obtain⟨rfl,zv,cells,h1,h2,h3⟩:=uN ks hr hz hp ag
 refine⟨rfl,aF hr.aY ?_ h3⟩
 simp only[execOp,ho]
 refine bS ?_
 have kJ:X.P.underlying t=some (.array n e):=hd
 simp only[Instr.build,Sem.run_bind,h1,Result.andThen_ok,run_underlying kJ,cN hs,h2,Sem.run_pure]
theorem oo (hr:Rel X T a μ): ∀ {ps:List (Nat×Operand)} {as:List (Nat×aQ)} {k:List (Nat×V)→Act} {O:Nat→Obj} {p:V×St},fZ X ps=some as→Le μ ⟨μ.w,μ.φ,O⟩→bc X ⟨μ.w,μ.φ,O⟩→
   (dK as k).run C ⟨T,O⟩=some p→
   ∃vs O',(k vs).run C ⟨T,O'⟩=some p∧vs.length=ps.length∧Le ⟨μ.w,μ.φ,O⟩ ⟨μ.w,μ.φ,O'⟩∧bc X ⟨μ.w,μ.φ,O'⟩∧
     ∀ (i:Nat) q q',vs[i]? =some q→ps[i]? =some q'→q.1=q'.1∧ak X ⟨μ.w,μ.φ,O'⟩ q.2 (a.eval q'.2)
 | [],as,k,O,p,h,le,ho,ag=>by
   simp[fZ] at h;subst h
   exact⟨[],O,ag,rfl,Le.refl _,ho,by simp⟩
 | (i,x)::ps,as,k,O,p,h,le,ho,ag=>by
   simp only[fZ] at h
   split at h
   · rename_i y YY h1 h2
     injection h with h;subst h
     simp only[dK,bd] at ag
     have hx:ak X ⟨μ.w,μ.φ,O⟩ (a8 ⟨T,O⟩ y) (a.eval x):=by
      have:=ak.mono le (aL hr h1 O)
      exact this
     obtain⟨u,O1,k1,k2,k3,k4⟩:=iV (μ:=μ) ho hx ag
     obtain⟨vs,O2,g1,g2,g3,g4,g5⟩:=oo hr h2 (le.trans k3) k4 k1
     refine⟨(i,u)::vs,O2,g1,by simp[g2],k3.trans g3,g4,fun j q q' hq BH=> ?_⟩
     cases j with
     | zero=>simp at hq BH;subst hq;subst BH;exact⟨rfl,ak.mono g3 k2⟩
     | succ j=>exact g5 j q q' (by simpa using hq) (by simpa using BH)
   · simp at h
theorem rA {α:Type} (L:List α) (i:Nat) (x:α) (h:i<L.length):L.set i x=L.take i++[x]++L.drop (i+1):=by
 rw[oh L i x h];rfl
theorem oq {sz:Nat}: ∀ {vs:List (Nat×V)} {qs:List (Nat×Value)} {es es':List V} {us:List Value} {c:Array Value},vs.length=qs.length→
   (∀ (i:Nat) p q,vs[i]? =some p→qs[i]? =some q→p.1=q.1∧ak X μ p.2 q.2)→aj X μ es us→cW c.toList 0 sz us→c.size=us.length*sz→es.all (aO · sz)=true→
   b6 sz es vs=some es'→ ∃c' Ih,Instr.fill (fun i=>some (i*sz,sz)) c qs=some c'∧aj X μ es' Ih∧cW c'.toList 0 sz Ih∧c'.size=Ih.length*sz∧
     es'.all (aO · sz)=true∧es'.length=es.length
 | [],[],es,es',us,c,_,_,hv,hs,hc,hb,h=>by
   simp[b6] at h;subst h
   exact⟨c,us,rfl,hv,hs,hc,hb,rfl⟩
 | [],_::_,_,_,_,_,h,_,_,_,_,_,_=>by simp at h
 | _::_,[],_,_,_,_,h,_,_,_,_,_,_=>by simp at h
 | (i,u)::vs,(i',q)::qs,es,es',us,c,hl,hp,hv,hs,hc,hb,h=>by
   simp only[b6] at h
   split at h
   · rename_i qt
     obtain⟨hi,nS⟩:=qt
     obtain⟨e1,bQ⟩:=hp 0 _ _ rfl rfl
     simp only at e1 bQ
     subst e1
     obtain⟨kx,BE⟩:=bE nS
     have Xz:q.cells.size=sz:=by rw[bQ.cV kx,BE]
     have hiu:i<us.length:=by rw[←hv.length];exact hi
     have hmul: (i+1)*sz≤us.length*sz:=Nat.mul_le_mul_right _ (by omega)
     rw[Nat.add_mul] at hmul
     have gm:i*sz+q.cells.size≤c.size:=by omega
     have wN:=wM (x:=q) (cs:=c) gm
     have XA:flat [q]=q.cells.toList:=by simp[flat]
     have hw:=hs.write (k:=i) (us:=[q]) (by omega) (by simpa using Xz) (by rw[bM];simp;omega)
     rw[XA,Nat.zero_add] at hw
     have nR:us.take i++[q]++us.drop (i+[q].length)=us.set i q:=(rA us i q hiu).symm
     rw[nR,←wN] at hw
     have ck: (q.cells.zipIdx.foldl (fun cs (p:Value×Nat)=>cs.setIfInBounds (i*sz+p.2) p.1) c).size=(us.set i q).length*sz:=by
      rw[←bM,wN,dF (by rw[bM,bM];exact gm),bM];simpa using hc
     have aan: (es.set i u).all (aO · sz)=true:=by
      simp only[List.all_eq_true] at hb ⊢
      intro y hy
      rcases List.mem_or_eq_of_mem_set hy with hm| rfl
      · exact hb y hm
      · exact nS
     obtain⟨c',Ih,g1,g2,g3,g4,g5,g6⟩:=oq (vs:=vs) (qs:=qs) (by simpa using hl) (fun j p q' hj Nw=>hp (j+1) p q' (by simpa using hj) (by simpa using Nw)) (aj.set hv i bQ) hw ck aan h
     refine⟨c',Ih,?_,g2,g3,g4,g5,by simpa using g6⟩
     have BG: ¬ (q.cells.size≠sz∨c.size<i*sz+q.cells.size):=by omega
     simp only[Instr.fill]
     rw[if_neg (by simpa using BG)]
     exact g1
   · simp at h
theorem jn {t e:TypeId} {n sz r:Nat} {parts:Array (Nat×Operand)} {z:V} (hr:Rel X T a μ) (ho:o.op= .buildSlice t n parts) (hd:aZ X t=some (.slice e))
   (hn:bq X e=some sz) (hz:dH X e=some z) (oU: ∃vs O',(match b6 sz (List.replicate n z) vs with
     | some es=>if aO z sz &&decide (0 <sz∧n*sz≤16777216) then AM.Act.bG r fun o=>AM.Act.bo r {gen:=o.gen+1,sz,arr:=true,fz:=false,es:=some es} (.done (.sl r (o.gen+1) 0 n)) else AM.Act.fail
     | none=>AM.Act.fail).run C ⟨T,O'⟩=some (v,σ')∧vs.length=parts.toList.length∧Le μ ⟨μ.w,μ.φ,O'⟩∧bc X ⟨μ.w,μ.φ,O'⟩∧
     ∀ (i:Nat) q q',vs[i]? =some q→parts.toList[i]? =some q'→q.1=q'.1∧ak X ⟨μ.w,μ.φ,O'⟩ q.2 (a.eval q'.2)):σ'.T=T∧ca X o a μ σ'.O v:=by
 obtain⟨vs,O1,k1,k2,k3,k4,k5⟩:=oU
 split at k1
 · rename_i es bl
   split at k1
   · rename_i hc
     simp only[Bool.and_eq_true,decide_eq_true_eq] at hc
     obtain⟨D4,ck,sS⟩:=hc
     simp only[Act.run,Option.some.injEq,Prod.mk.injEq] at k1
     obtain⟨rfl,rfl⟩:=k1
     refine⟨rfl,?_⟩
     obtain⟨zv,rz,vI⟩:=eT hz μ.w
     obtain⟨sQ,Ig⟩:=dE (X:=X) (μ:=⟨μ.w,μ.φ,O1⟩) vI
     have GP:zv.cells.size=sz:=by rw[sQ.cV Ig,(bE D4).2]
     obtain⟨q1,q2⟩:=se (n:=n) GP
     have hbr: (List.replicate n z).all (aO · sz)=true:=by
       simp only[List.all_eq_true,List.mem_replicate]
       rintro y ⟨_,rfl⟩;exact D4
     obtain⟨c',Ih,g1,g2,g3,g4,g5,g6⟩:=oq (X:=X) (μ:=⟨μ.w,μ.φ,O1⟩) (sz:=sz) (vs:=vs) (qs:=(parts.map fun (i,x)=> (i,a.eval x)).toList) (by simp[k2]) (fun j p q hj hq=>by
       rw[Array.toList_map,List.getElem?_map,Option.map_eq_some_iff] at hq
       obtain⟨q',BH,rfl⟩:=hq
       exact k5 j p q' hj BH) (aj.replicate sQ n) q2 (by rw[q1];simp) hbr bl
     have hlen:es.length=n:=by simpa using g6
     have wO:Ih.length=n:=by rw[←g2.length];exact hlen
     obtain⟨Ii,KW⟩:=xW (X:=X) (μ:=⟨μ.w,μ.φ,O1⟩) k4 r sz n true (es:=es) (vs:=Ih) (c:=c') e ck (by omega) g5 g2 (by rw[g4,wO];exact Nat.le_refl _) (fun i u hu=>by
       obtain⟨m1,m2⟩:=g3 i u hu
       exact⟨m1,fun j x hx=>by simpa using m2 j x hx⟩)
     refine⟨.slice (some ⟨μ.w.heap.size,0,none⟩) n n,_,_,.inl ?_,?_,k3.trans Ii,KW⟩
     · simp only[execOp,ho]
       refine bS ?_
       have kJ:X.P.underlying t=some (.slice e):=hd
       have XB: ¬n*sz >2 ^ 24:=by
         have: (2:Nat) ^ 24=16777216:=by decide
         omega
       simp only[Instr.buildSlice,Sem.run_bind,run_underlying kJ,Result.andThen_ok,cN hn]
       rw[if_neg XB]
       have jo: ∀zero:Array Value,(n*sz=0∨zero=zv.cells)→(Array.range (n*sz)).map (fun i=>zero[i % zero.size]!)=(Array.range (n*sz)).map (fun i=>zv.cells[i % zv.cells.size]!):=by
         rintro zero (h0| rfl)
         · have hr0:Array.range 0= #[]:=rfl
           rw[h0,hr0];simp
         · rfl
       by_cases Du:n*sz=0
       · rw[if_pos Du]
         simp only[Sem.run_bind,Sem.run_pure,Result.andThen_ok]
         rw[jo #[] (.inl Du),g1]
         simp only[newRow,Sem.run_bind,run_newObj,Result.andThen_ok,Sem.run_pure]
         rfl
       · rw[if_neg Du]
         simp only[Sem.run_bind,rz,Result.andThen_ok,Sem.run_pure]
         rw[jo zv.cells (.inr rfl),g1]
         simp only[newRow,Sem.run_bind,run_newObj,Result.andThen_ok,Sem.run_pure]
         rfl
     · simp only[ak,az]
       exact⟨_,_,rfl,Nat.le_refl _,Nat.le_refl _,fun _=> ⟨ck,by simp,by simp⟩⟩
   · exact absurd k1 av
 · exact absurd k1 av
theorem ot {t e:TypeId} {n sz r:Nat} {parts:Array (Nat×Operand)} {z:V} {as:List (Nat×aQ)} (hr:Rel X T a μ) (ho:o.op= .buildSlice t n parts) (hd:aZ X t=some (.slice e))
  (hn:bq X e=some sz) (hz:dH X e=some z) (hp:fZ X parts.toList=some as) (ag: (aw E (.buildSlice r sz z n as)).run C ⟨T,μ.O⟩=some (v,σ')):σ'.T=T∧ca X o a μ σ'.O v:=by
 simp only[aw] at ag
 exact jn hr ho hd hn hz (oo hr hp (Le.refl μ) hr.aY ag)
theorem mH (hr:Rel X T a μ): ∀ {ps:List (Nat×Operand)} {as:List (Nat×aQ)} {k:List (Nat×V)→Act} {p:V×St},fZ X ps=some as→
   (hP as k).run C ⟨T,μ.O⟩=some p→
   ∃vs,(k vs).run C ⟨T,μ.O⟩=some p∧vs.length=ps.length∧
     ∀ (i:Nat) q q',vs[i]? =some q→ps[i]? =some q'→q.1=q'.1∧ak X μ q.2 (a.eval q'.2)
 | [],as,k,p,h,ag=>by
   simp[fZ] at h;subst h
   exact⟨[],ag,rfl,by simp⟩
 | (i,x)::ps,as,k,p,h,ag=>by
   simp only[fZ] at h
   split at h
   · rename_i y YY h1 h2
     injection h with h;subst h
     simp only[hP,bd] at ag
     have hx:=aL hr h1 μ.O
     obtain⟨vs,g1,g2,g5⟩:=mH hr h2 ag
     refine⟨(i,_)::vs,g1,by simp[g2],fun j q q' hq BH=> ?_⟩
     cases j with
     | zero=>simp at hq BH;subst hq;subst BH;exact⟨rfl,hx⟩
     | succ j=>exact g5 j q q' (by simpa using hq) (by simpa using BH)
   · simp at h
theorem uO {t e:TypeId} {n sz r:Nat} {parts:Array (Nat×Operand)} {z:V} {as:List (Nat×aQ)} (hr:Rel X T a μ) (ho:o.op= .buildSlice t n parts) (hd:aZ X t=some (.slice e))
  (hn:bq X e=some sz) (hz:dH X e=some z) (hp:fZ X parts.toList=some as) (ag: (aw E (.ia r sz z n as)).run C ⟨T,μ.O⟩=some (v,σ')):σ'.T=T∧ca X o a μ σ'.O v:=by
 simp only[aw] at ag
 obtain⟨vs,g1,g2,g3⟩:=mH hr hp ag
 exact jn hr ho hd hn hz ⟨vs,μ.O,g1,g2,Le.refl μ,hr.aY,g3⟩
theorem uP {t e:TypeId} {n sz r ix:Nat} {parts:Array (Nat×Operand)} {z:V} {as:List (Nat×aQ)} (hr:Rel X T a μ) (ho:o.op= .buildSlice t n parts) (hd:aZ X t=some (.slice e))
  (hn:bq X e=some sz) (hz:dH X e=some z) (hp:fZ X parts.toList=some as) (ag: (aw E (.hY ix r sz z n as)).run C ⟨T,μ.O⟩=some (v,σ')):σ'.T=T∧ca X o a μ σ'.O v:=by
 have h: (match a8 ⟨T,μ.O⟩ (.tmp ix) with| .int _ j=>Km (r+16*j.toNat) sz z n as| _=> .fail).run C ⟨T,μ.O⟩=some (v,σ'):=ag
 split at h
 · exact ot (E:=E) (r:=_) hr ho hd hn hz hp h
 · exact absurd h av
theorem D5 {x:Operand} {t0 t:TypeId} {ok:Bool} {x':aQ} {n:Nat} {z:V} (hr:Rel X T a μ) (ho:o.op= .typeAssert x t0 t ok) (lW: ∀t1 t2 k,X.iu t1=some k→X.iu t2=some k→t1=t2)
   (hn:X.iu t=some n) (h1:cr X x=some x') (hz:dH X t=some z) (hd: ∃d,aZ X t=some d∧ ∀ms,d≠ .interface ms)
   (ag: (aw E (.assert n ok z x')).run C ⟨T,μ.O⟩=some (v,σ')):σ'.T=T∧ca X o a μ σ'.O v:=by
 simp only[aw,bd] at ag
 have hx:=aL hr h1 μ.O
 obtain⟨d,EW,AR⟩:=hd
 have Mz:X.P.underlying t=some d:=EW
 obtain⟨zv,rz,vI⟩:=eT hz μ.w
 obtain⟨sQ,_⟩:=dE (X:=X) (μ:=μ) vI
 have fin: ∀val,(Instr.typeAssert (a.eval x) t0 t ok).run X.P μ.w= .ok val μ.w→(execOp a.eval o).run X.P μ.w= .ok (.value val) μ.w:=fun val hv=>by
   simp only[execOp,ho]
   exact bS hv
 split at ag
 · rename_i e
   rw[e] at hx;simp only[ak] at hx
   split at ag
   · rename_i tx
     obtain⟨rfl,rfl⟩:=aR ag
     refine⟨rfl,aF (val:= .tuple #[zv,.bool false]) hr.aY (fin _ ?_) ?_⟩
     · simp only[Instr.typeAssert,Sem.run_bind,run_underlying Mz,Result.andThen_ok,hx]
       cases d<;>first| exact absurd rfl (AR _) | simp[tx,Sem.run_bind,rz]
     · simp only[ak];exact⟨_,rfl,by simp[aj,ak,sQ]⟩
   · exact absurd ag av
 · rename_i t' u e
   rw[e] at hx;simp only[ak] at hx
   obtain⟨t1,y,hy,Bt,bQ⟩:=hx
   split at ag
   · rename_i htt
     obtain⟨rfl,rfl⟩:=aR ag
     have hte:t1=t:=lW t1 t n (by rw[Bt,htt]) hn
     refine⟨rfl,aF (val:=if ok then .tuple #[y,.bool true] else y) hr.aY (fin _ ?_) ?_⟩
     · simp only[Instr.typeAssert,Sem.run_bind,run_underlying Mz,Result.andThen_ok,hy]
       cases d<;>first| exact absurd rfl (AR _) | simp[hte]
     · cases ok
       · simpa using bQ
       · simp only[if_true,ak];exact⟨_,rfl,by simp[aj,ak,bQ]⟩
   · rename_i htt
     split at ag
     · rename_i tx
       obtain⟨rfl,rfl⟩:=aR ag
       have hte:t1≠t:=fun e=>htt (by rw[e,hn] at Bt;injection Bt with Bt;exact Bt.symm)
       refine⟨rfl,aF (val:= .tuple #[zv,.bool false]) hr.aY (fin _ ?_) ?_⟩
       · simp only[Instr.typeAssert,Sem.run_bind,run_underlying Mz,Result.andThen_ok,hy]
         cases d<;>first| exact absurd rfl (AR _) | simp[hte,tx,Sem.run_bind,rz]
       · simp only[ak];exact⟨_,rfl,by simp[aj,ak,sQ]⟩
     · exact absurd ag av
 · exact absurd ag av
end
end Go.AM
