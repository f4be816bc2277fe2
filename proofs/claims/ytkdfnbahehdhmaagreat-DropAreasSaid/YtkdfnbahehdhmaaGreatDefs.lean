/-
  Texts of the proof, joined by program: AmDefs, AmKeys. Own work.
-/
import GoSem.Step
set_option linter.unusedSimpArgs false
set_option linter.unusedVariables false
namespace Go.AM
inductive V where
 | bool (b:Bool)
 | int (k:IntKind) (n:Int)
 | float (bits:Nat)
 | str (s:List UInt8)
 | agg (cs:List V)
 | tuple (vs:List V)
 | nilp| nilfn| nili
 | fn (f:Nat) (caps:List V)
 | iface (t:Nat) (v:V)
 | nils
 | lit (sz:Nat) (xs:List V)
 | own (sz:Nat) (xs:List V)
 | sl (r g off len:Nat)
 | ptr (r g idx off:Nat)
 | eptr (e:V) (off:Nat)
 | mp (r g:Nat)
 | mlit (es:List V)
 | it (r g:Nat)
 | litk (sz:Nat) (xs:List V)
 | epk (i sz:Nat) (e:V) (off:Nat)
 | msl (sz:Nat) (es:List V) (off len:Nat)
 | mptr (sz:Nat) (es:List V) (idx off:Nat)
 | any
 deriving Inhabited
def da:V:= .tuple []
structure Obj where
 gen:Nat
 sz:Nat
 arr:Bool
 fz:Bool
 es:Option (List V)
structure eS where
 val:V
 outs:List (Nat×List V)
inductive aI where
 | tmp (t:Nat)
 | const (v:V)
inductive oS where
 | move (x:aI)
 | pick (c a b:aI)
 | new (r sz:Nat) (x:aI)
 | build (cells:List V) (parts:List (Nat×Nat×aI))
 | buildSlice (r sz:Nat) (zero:V) (n:Nat) (parts:List (Nat×aI))
 | b7 (r sz:Nat)
 | nk (r:Nat) (x:aI)
 | makeSlice (r sz bytes:Nat) (zero:V) (len cap:aI)
 | load (agg:Bool) (sz:Nat) (x:aI)
 | store (agg:Bool) (sz:Nat) (x v:aI)
 | nilCheck (x:aI)
 | bin (op:BinOp) (x y:aI)
 | MW (neg:Bool) (x y:aI)
 | yy (neg:Bool) (ks:List Nat) (x y:aI)
 | un (op:UnOp) (x:aI)
 | c8 (k:IntKind) (x:aI)
 | pf (x:aI)
 | pg (k:IntKind) (x:aI)
 | nK (x:aI)
 | gG (t:Nat) (x:aI)
 | assert (t:Nat) (Uf:Bool) (zero:V) (x:aI)
 | fy (f:Nat) (caps:List aI)
 | slice (sz:Nat) (x:aI) (lo hi mx:Option aI)
 | ia (x:aI) (lo hi:Option aI)
 | fieldAddr (off:Nat) (x:aI)
 | field (agg:Bool) (off sz:Nat) (x:aI)
 | indexAddr (sz:Nat) (x i:aI)
 | aW (n sz:Nat) (x i:aI)
 | ib (x i:aI)
 | ky (agg:Bool) (n sz:Nat) (x i:aI)
 | len (x:aI)
 | rC (x:aI)
 | min (xs:List aI)
 | max (xs:List aI)
 | append (r sz jj:Nat) (s x:aI)
 | copy (sz:Nat) (d s:aI)
 | clear (sz:Nat) (zero:V) (x:aI)
 | extract (x:aI) (i:Nat)
 | call (r:Nat) (bk:Bool) (f:aI) (args:List aI)
 | gh (i r sz:Nat) (zero:V) (n:Nat) (parts:List (Nat×aI))
 | nL (r sz jj:Nat) (s x:aI)
 | deep (x:aI)
 | rD (ks:List Nat) (agg:Bool) (sz:Nat) (x:aI)
 | mkMap (r:Nat)
 | ph (q:Option IntKind) (x k v:aI)
 | rE (q:Option IntKind) (ok:Bool) (zero:V) (x k:aI)
 | uW (x:aI)
 | nM (r:Nat) (x:aI)
 | nN (x:aI)
 | gi (r sz:Nat) (zero:V) (n:Nat) (parts:List (Nat×aI))
 | MX (neg:Bool) (ks:List (Nat×Nat)) (x y:aI)
 | HQ (neg:Bool) (x y:aI)
 | mapIter (r:Nat) (x:aI)
 | bad
structure aX where
 dst:Option Nat
 op:oS
 guard:Option (Nat×Bool)
 pre:List Nat
inductive an where
 | skip
 | region (ops:List aX)
 | drawn (ops:List aX)
 | seq (a b:an)
 | cond (c:aI) (a b:an)
 | block (id:Nat) (b:an)
 | loop (b:an)
 | exit (id:Nat)
 | ret
 | scope (b:an)
 | bad
 | keys (it nx ne id:Nat) (kT kO:List Nat) (ahead body last:an)
 | iY (x:aI) (ps:List Nat) (M4 body:an)
inductive nB where
 | tmp (t:Nat)
 | cell (t:Nat) (agg:Bool) (sz:Nat)
structure aD where
 nparams:Nat
 ntmps:Nat
 rA:List (Option Nat)
 results:List nB
 body:an
 tag:Option (Nat×Nat):=none
structure Env where
 fn:Nat→Option aD
 ext:Nat→List V→Option eS
 hyb:Nat→Option ((Nat→List V→Option eS)→List V→Option eS):=fun _=>none
 mono: ∀f h,hyb f=some h→ ∀ (C C':Nat→List V→Option eS),(∀g vs r,C g vs=some r→C' g vs=some r)→ ∀vs r,h C vs=some r→h C' vs=some r:=by exact fun _ _ h=>nomatch h
 iter:Nat→List V→Option (List (List V)):=fun _ _=>none
def V.cells:V→List V
 | .agg cs=>cs
 | v=> [v]
def V.isAgg:V→Bool
 | .agg _=>true
 | _=>false
def V.isTuple:V→Bool
 | .tuple _=>true
 | _=>false
def V.aC:V→Bool
 | .agg _| .tuple _| .any| .own .. | .msl .. | .mptr .. =>false
 | _=>true
mutual
def V.aw:V→Bool
 | .bool _| .int .. | .float _| .str _| .nilp| .nilfn| .nili| .nils| .lit .. | .eptr .. | .litk .. | .epk .. =>true
 | .agg cs=>V.al cs
 | .tuple cs=>V.al cs
 | .mlit es=>V.al es
 | .fn _ caps=>V.al caps
 | .iface _ v=>V.aw v
 | .own .. | .sl .. | .ptr .. | .mp .. | .it .. | .msl .. | .mptr .. | .any=>false
def V.al:List V→Bool
 | []=>true
 | c::cs=>V.aw c &&V.al cs
end
mutual
def V.isScalar:V→Bool
 | .bool _| .int .. | .float _| .str _| .nilp| .nilfn| .nili| .nils=>true
 | .agg cs=>V.aU cs
 | .tuple cs=>V.aU cs
 | _=>false
def V.aU:List V→Bool
 | []=>true
 | c::cs=>V.isScalar c &&V.aU cs
end
def part (agg:Bool) (off sz:Nat) (e:V):Option V:=
 match agg,e with
 | true,.agg cs=>if off+sz≤cs.length then some (.agg ((cs.drop off).take sz)) else none
 | true,_=>none
 | false,.agg cs=>cs[off]?
 | false,v=>if v.aC∧off=0 then some v else none
def cC (agg:Bool) (off sz:Nat) (e v:V):Option V:=
 match agg with
 | true=>match e,v with
   | .agg cs,.agg vs=>if vs.length=sz∧off+sz≤cs.length then some (.agg (cs.take off++vs++cs.drop (off+sz))) else none
   | _,_=>none
 | false=>if v.aC∧sz=1 then match e with
    | .agg cs=>if off<cs.length then some (.agg (cs.set off v)) else none
    | e=>if e.aC∧off=0 then some v else none
   else none
def V.cw (v:V):Bool:=v.isAgg || v.aC
def aH (v:V) (sz:Nat):Bool:=v.cells.length==sz &&v.cw
def aF (es:List V) (off len:Nat):List V:=(es.drop off).take len
def overwrite (es:List V) (off:Nat) (ys:List V):List V:=es.take off++ys++es.drop (off+ys.length)
inductive Act where
 | done (v:V)
 | fail
 | ke (t:Nat) (k:V→Act)
 | bB (r:Nat) (k:Obj→Act)
 | bg (r:Nat) (o:Obj) (k:Act)
 | call (f:Nat) (args:List V) (k:eS→Act)
def ev (x:aI) (k:V→Act):Act:=
 match x with
 | .tmp t=> .ke t k
 | .const v=>k v
def tG:List aI→(List V→Act)→Act
 | [],k=>k []
 | x::xs,k=>ev x fun v=>tG xs fun vs=>k (v::vs)
def sS:Option aI→(Option V→Act)→Act
 | none,k=>k none
 | some x,k=>ev x fun v=>k (some v)
def cp:Option V→Act
 | some v=> .done v
 | none=> .fail
def bN (c:V) (k:V→Act):Act:=
 match c with
 | .sl r g off len=> .bB r fun o=>match o.es with
   | some es=>if o.gen=g∧o.arr=true∧off+len≤es.length∧V.al (aF es off len)=true then .bg r {o with fz:=true} (k (.lit o.sz (aF es off len))) else .fail
   | none=> .fail
 | .mp r g=> .bB r fun o=>match o.es with
   | some es=>if o.gen=g∧o.sz=0∧V.al es=true∧es.all V.isTuple=true then .bg r {o with fz:=true} (k (.mlit es)) else .fail
   | none=> .fail
 | .own .. | .msl .. | .mptr .. | .any| .it .. => .fail
 | c=>k c
def dj:List V→(List V→Act)→Act
 | [],k=>k []
 | c::cs,k=>bN c fun c'=>dj cs fun cj=>k (c'::cj)
def rq (v:V) (k:V→Act):Act:=
 if v.aw then k v else
 match v with
 | .agg cs=>dj cs fun cj=>k (.agg cj)
 | v=>bN v k
def gF (vs:List V) (k:List V→Act):Act:=
 if V.al vs then k vs else go vs k
where
 go:List V→(List V→Act)→Act
 | [],k=>k []
 | c::cs,k=>rq c fun c'=>go cs fun cj=>k (c'::cj)
def mh (f:V→(V→List Nat→Act)→Act):List V→(List V→List Nat→Act)→Act
 | [],k=>k [] []
 | c::cs,k=>f c fun c' r=>mh f cs fun cj rs=>k (c'::cj) (r++rs)
def qQ (f:V→(V→List Nat→Act)→Act) (vs:List V) (k:List V→List Nat→Act):Act:=
 if V.al vs then k vs [] else mh f vs k
def dV:Nat→V→(V→List Nat→Act)→Act
 | 0,v,k=>if v.aw then k v [] else .fail
 | d+1,v,k=>if v.aw then k v [] else
   match v with
   | .agg cs=>mh (dV d) cs fun cj rs=>k (.agg cj) rs
   | .fn f cs=>mh (dV d) cs fun cj rs=>k (.fn f cj) rs
   | .iface t x=>dV d x fun x' rs=>k (.iface t x') rs
   | .sl r g off len=> .bB r fun o=>match o.es with
     | some es=>if o.gen=g∧o.arr=true∧off+len≤es.length then qQ (dV d) (aF es off len) fun xs rs=>k (.lit o.sz xs) (r::rs) else .fail
     | none=> .fail
   | .ptr r g idx off=> .bB r fun o=>match o.es with
     | some es=>if o.gen=g then match es[idx]? with
        | some e=>dV d e fun e' rs=>k (.eptr e' off) (r::rs)
        | none=> .fail
       else .fail
     | none=> .fail
   | _=> .fail
def snap (v:V) (k:V→List Nat→Act):Act:=dV 5 v k
structure db where
 i:Nat
 r:Nat
 fresh:Option Nat
def cO (   r0:Nat):List V→List (Option Nat)→Nat→(List V→List Nat→List db→Act)→Act
 | [],_,_,k=>k [] [] []
 | v::vs,m::ms,i,k=>
   match m with
   | some sz=>match v with
     | .nils=>if 0 <sz then cO r0 vs ms (i+1) fun as rs ws=>k (.msl sz [] 0 0::as) rs (⟨i,r0+i,some sz⟩::ws) else .fail
     | .sl r g off len=> .bB r fun o=>match o.es with
       | some es=>if o.gen=g∧o.fz=false∧o.sz=sz∧off+len≤es.length∧V.al es=true then
          cO r0 vs ms (i+1) fun as rs ws=>k (.msl sz es off len::as) rs (⟨i,r,none⟩::ws) else .fail
       | none=> .fail
     | .ptr r g idx off=> .bB r fun o=>match o.es with
       | some es=>if o.gen=g∧o.fz=false∧o.sz=sz∧V.al es=true then
          cO r0 vs ms (i+1) fun as rs ws=>k (.mptr sz es idx off::as) rs (⟨i,r,none⟩::ws) else .fail
       | none=> .fail
     | _=> .fail
   | none=>snap v fun v' rs=>cO r0 vs ms (i+1) fun as rs' ws=>k (v'::as) (rs++rs') ws
 | v::vs,[],i,k=>snap v fun v' rs=>cO r0 vs [] (i+1) fun as rs' ws=>k (v'::as) (rs++rs') ws
def bR:List Nat→Act→Act
 | [],k=>k
 | r::rs,k=> .bB r fun o=> .bg r {o with fz:=true} (bR rs k)
def cg:List db→List (Nat×List V)→(List (Nat×Nat×Nat)→Act)→Act
 | [],[],k=>k []
 | w::ws,(AL,es)::outs,k=> .bB w.r fun o=>match w.fresh with
   | none=> .bg w.r {o with gen:=o.gen+AL,es:=some es} (cg ws outs fun gs=>k ((w.i,w.r,o.gen+AL)::gs))
   | some sz=> .bg w.r {gen:=o.gen+1,sz,arr:=true,fz:=false,es:=some es} (cg ws outs fun gs=>k ((w.i,w.r,o.gen+1)::gs))
 | _,_,_=> .fail
def ed (i:Nat):List (Nat×Nat×Nat)→Option (Nat×Nat)
 | []=>none
 | (j,r,g)::gs=>if j=i then some (r,g) else ed i gs
def bD (bk:Bool) (r:Nat) (gs:List (Nat×Nat×Nat)) (c:V) (k:V→Act):Act:=
 match c with
 | .own sz xs=>if bk then .bB r fun o=> .bg r {gen:=o.gen+1,sz,arr:=true,fz:=false,es:=some xs} (k (.sl r (o.gen+1) 0 xs.length)) else k (.lit sz xs)
 | .sl i _ off len=>match ed i gs with
   | some (r',g')=>k (.sl r' g' off len)
   | none=> .fail
 | c=>if c.aw then k c else .fail
def bW (bk:Bool):Nat→List (Nat×Nat×Nat)→List V→(List V→Act)→Act
 | _,_,[],k=>k []
 | r,gs,c::cs,k=>bD bk r gs c fun c'=>bW bk (r+1) gs cs fun cj=>k (c'::cj)
def du (bk:Bool) (r:Nat) (gs:List (Nat×Nat×Nat)) (v:V) (k:V→Act):Act:=
 if v.aw then k v else
 match v with
 | .agg cs=>bW bk r gs cs fun cj=>k (.agg cj)
 | v=>bD bk r gs v k
def c7 (bk:Bool):Nat→List (Nat×Nat×Nat)→List V→(List V→Act)→Act
 | _,_,[],k=>k []
 | r,gs,v::vs,k=>du bk r gs v fun v'=>c7 bk (r+8) gs vs fun vs'=>k (v'::vs')
def bQ (bk:Bool) (r:Nat) (gs:List (Nat×Nat×Nat)) (v:V) (k:V→Act):Act:=
 if v.aw then k v else
 match v with
 | .tuple vs=>c7 bk r gs vs fun vs'=>k (.tuple vs')
 | v=>du bk r gs v k
def apart (rs ws:List Nat):Bool:=ws.all fun w=> !rs.contains w
def distinct:List Nat→Bool
 | []=>true
 | w::ws=> !ws.contains w &&distinct ws
def o9 (E:Env) (r:Nat) (bk:Bool) (f:Nat) (args:List V):Act:=
 let rA:=match E.fn f with| some af=>af.rA| none=> []
 cO (r+8) args rA 0 fun as rs ws=>
  if apart rs (ws.map (·.r)) &&distinct (ws.map (·.r)) then
   .call f as fun res=>
    let go:=cg ws res.outs fun gs=>bQ bk r gs res.val .done
    if res.val.isScalar &&res.outs.all (fun o=>V.aU o.2) then go else bR rs go
  else .fail
def Cs (b:Bool):Option V:=some (.bool b)
def cN (op:BinOp) (a b:Int):Option V:=
 match op with
 | .eql=>some (.bool (a==b))
 | .neq=>some (.bool (a !=b))
 | .lss=>some (.bool (a<b))
 | .leq=>some (.bool (a≤b))
 | .gtr=>some (.bool (b<a))
 | .geq=>some (.bool (b≤a))
 | _=>none
def iL (op:BinOp) (k:IntKind) (x y:Int):Option V:=
 let a:=BitVec.ofInt k.bits x
 let b:=BitVec.ofInt k.bits y
 let back (r:BitVec k.bits):Option V:=some (.int k (k.wrap r.toNat))
 match op with
 | .and=>back (a &&&b)
 | .or=>back (a ||| b)
 | .xor=>back (a ^^^ b)
 | .andNot=>back (a &&& ~~~b)
 | _=>none
def s6 (k:Nat) (a b:V):Option Bool:=
 match k,a,b with
 | 0,.bool a,.bool b=>some (a==b)
 | 1,.int k a,.int k' b=>if k=k' then some (a==b) else none
 | 2,.str a,.str b=>some (decide (a=b))
 | _,_,_=>none
def dH:List Nat→List V→List V→Option Bool
 | [],[],[]=>some true
 | k::ks,a::as,b::bs=>match s6 k a b,dH ks as bs with
   | some x,some y=>some (x &&y)
   | _,_=>none
 | _,_,_=>none
def zR:V→V→Option Bool
 | .nilp,.nilp=>some true
 | .nilp,.eptr .. | .nilp,.epk .. | .eptr ..,.nilp| .epk ..,.nilp=>some false
 | .epk i z _ 0,.epk i' z' _ 0=>if z=z'∧0 <z then some (i==i') else none
 | _,_=>none
def mO (t:Nat):List (Nat×Nat)→Option Nat
 | []=>none
 | (t',k)::ks=>bif Nat.beq t' t then some k else mO t ks
def bH (op:BinOp) (x y:V):Option V:=
 match x,y with
 | .int k a,.int k' b=>
   match op with
   | .shl=>if b< 0 then none else some (.int k (k.wrap (a*2 ^ (min b.toNat k.bits))))
   | .shr=>if b< 0 then none else some (.int k (a.fdiv (2 ^ (min b.toNat k.bits))))
   | op=>
     if k=k' then
      match op with
      | .add=>some (.int k (k.wrap (a+b)))
      | .sub=>some (.int k (k.wrap (a - b)))
      | .mul=>some (.int k (k.wrap (a*b)))
      | .quo=>if b=0 then none else some (.int k (k.wrap (a.tdiv b)))
      | .rem=>if b=0 then none else some (.int k (a.tmod b))
      | .and| .or| .xor| .andNot=>iL op k a b
      | op=>cN op a b
     else none
 | .str a,.str b=>
   match op with
   | .add=>if a.length+b.length≤9223372036854775807 then some (.str (a++b)) else none
   | .eql=>some (.bool (decide (a=b)))
   | .neq=>some (.bool (!decide (a=b)))
   | .lss=>some (.bool (Op.bytesLess a b))
   | .leq=>some (.bool (Op.bytesLess a b || decide (a=b)))
   | .gtr=>some (.bool (!(Op.bytesLess a b || decide (a=b))))
   | .geq=>some (.bool (!Op.bytesLess a b))
   | _=>none
 | _,_=>none
def yt (op:UnOp) (x:V):Option V:=
 match op,x with
 | .neg,.int k n=>some (.int k (k.wrap (0 - n)))
 | .not,.bool b=>some (.bool (!b))
 | .xor,.int k n=>iL .xor k (if k.signed then -1 else k.max) n
 | _,_=>none
def min2 (x y:V):Option V:=
 match x,y with
 | .int k a,.int k' b=>if k=k' then some (.int k (if b<a then b else a)) else none
 | _,_=>none
def max2 (x y:V):Option V:=
 match x,y with
 | .int k a,.int k' b=>if k=k' then some (.int k (if a<b then b else a)) else none
 | _,_=>none
def eT (f:V→V→Option V) (x:V):List V→Option V
 | []=>some x
 | y::ys=>match f x y with
   | some z=>eT f z ys
   | none=>none
def fo (f:V→V→Option V):List V→Option V
 | []=>none
 | x::xs=>eT f x xs
def lX:V→Option V
 | .nils=>some (.int .i64 0)
 | .lit _ xs=>some (.int .i64 xs.length)
 | .litk _ xs=>some (.int .i64 xs.length)
 | .sl _ _ _ len=>some (.int .i64 len)
 | _=>none
def bl (d:Nat):Option V→Option Nat
 | none=>some d
 | some (.int _ n)=>if 0≤n then some n.toNat else none
 | some _=>none
def dE (x:V) (lo hi:Option V):Option V:=
 match x with
 | .str s=>match bl 0 lo,bl s.length hi with
   | some l,some h=>if l≤h∧h≤s.length then some (.str ((s.drop l).take (h - l))) else none
   | _,_=>none
 | _=>none
def gU (sz:Nat) (x:V) (lo hi mx:Option V):Option V:=
 match x with
 | .nils=>match bl 0 lo,bl 0 hi,bl 0 mx with
   | some l,some h,some m=>if l≤h∧h≤m∧m≤0∧(hi.isSome=true∨mx.isNone=true) then some .nils else none
   | _,_,_=>none
 | .lit sz' xs=>if sz'=sz then match bl 0 lo,bl xs.length hi,mx with
    | some l,some h,none=>if l≤h∧h≤xs.length then some (.lit sz (aF xs l (h - l))) else none
    | some l,some h,some m=>match hi,bl 0 (some m) with
      | some _,some m=>if l≤h∧h≤m∧m≤xs.length then some (if m=l then .nils else .any) else none
      | _,_=>none
    | _,_,_=>none
   else none
 | _=>none
def cU:List V→List (Nat×Nat×V)→Option (List V)
 | cs,[]=>some cs
 | cs,(off,sz,v)::rest=>if v.cells.length=sz∧off+sz≤cs.length∧v.cw=true then cU (cs.take off++v.cells++cs.drop (off+sz)) rest else none
def dJ:List (Nat×Nat×aI)→(List (Nat×Nat×V)→Act)→Act
 | [],k=>k []
 | (o,s,x)::ps,k=>ev x fun v=>dJ ps fun vs=>k ((o,s,v)::vs)
def dg:List (Nat×aI)→(List (Nat×V)→Act)→Act
 | [],k=>k []
 | (i,x)::ps,k=>ev x fun v=>rq v fun v=>dg ps fun vs=>k ((i,v)::vs)
def gg:List (Nat×aI)→(List (Nat×V)→Act)→Act
 | [],k=>k []
 | (i,x)::ps,k=>ev x fun v=>gg ps fun vs=>k ((i,v)::vs)
def bL (sz:Nat):List V→List (Nat×V)→Option (List V)
 | es,[]=>some es
 | es,(i,v)::rest=>if i<es.length∧aH v sz=true then bL sz (es.set i v) rest else none
def content (sz:Nat) (x:V) (k:List V→Act):Act:=
 match x with
 | .nils=>k []
 | .lit sz' xs=>if sz'=sz then k xs else .fail
 | .sl r g off len=> .bB r fun o=>match o.es with
   | some es=>if o.gen=g∧o.sz=sz∧off+len≤es.length then k (aF es off len) else .fail
   | none=> .fail
 | .str s=>if sz=1 then k (s.map fun b=> .int .u8 b.toNat) else .fail
 | _=> .fail
def G6 (r sz:Nat) (zero:V) (n:Nat) (parts:List (Nat×aI)):Act:=dg parts fun ps=>match bL sz (List.replicate n zero) ps with
 | some es=>if aH zero sz &&decide (0 <sz∧n*sz≤16777216) then .bB r fun o=> .bg r {gen:=o.gen+1,sz,arr:=true,fz:=false,es:=some es} (.done (.sl r (o.gen+1) 0 n)) else .fail
 | none=> .fail
def we (r sz jj:Nat) (s:V) (ys:List V):Act:=
 if ys.all (aH · sz) &&decide (0 <sz) then match s with
 | .nils=>if ys.isEmpty then .done .nils else if ys.length≤jj then
     .bB r fun o=> .bg r {gen:=o.gen+1,sz,arr:=true,fz:=false,es:=some ys} (.done (.sl r (o.gen+1) 0 ys.length)) else .fail
 | .lit sz' xs=>if ys.isEmpty then .done (.lit sz' xs) else .fail
 | .sl r' g off len=> .bB r' fun o=>match o.es with
   | some es=>if o.gen=g∧o.arr=true∧o.fz=false∧o.sz=sz∧off+len≤es.length∧len+ys.length≤jj then
         if off+len+ys.length≤es.length then
          .bg r' {o with es:=some (overwrite es (off+len) ys)} (.done (.sl r' g off (len+ys.length)))
         else
          .bg r' {o with gen:=g+1,es:=some (aF es off len++ys)} (.done (.sl r' (g+1) 0 (len+ys.length)))
     else .fail
   | none=> .fail
 | _=> .fail
 else .fail
def u6:List Nat→List V→List V
 | k::ks,c::cs=> (match k,c with
   | (k+1),.nils=> .lit (k+1) []
   | _,c=>c)::u6 ks cs
 | _,cs=>cs
def yf (ks:List Nat) (v:V):V:=match v with
 | .agg cs=> .agg (u6 ks cs)
 | .nils=> (match ks with
   | (k+1)::_=> .lit (k+1) []
   | _=> .nils)
 | v=>v
def uV (v:V):Act:=match v with
 | .sl r g off len=> .bB r fun o=>match o.es with
   | some es=>if o.gen=g then gF es fun es'=> .bB r fun o'=>if o'.gen=o.gen∧o'.es.isSome=true∧es'.all (aH · o.sz)=true then .bg r {o' with es:=some es'} (.done (.sl r g off len)) else .fail else .fail
   | none=> .fail
 | v=> .done v
def zU:V→V→Option Bool
 | .int k a,.int k' b=>if k=k' then some (a==b) else none
 | .str a,.str b=>some (decide (a=b))
 | _,_=>none
def jL (k:V):List V→Option (Option V)
 | []=>some none
 | .tuple [k',v]::es=>match zU k k' with
   | some true=>some (some v)
   | some false=>jL k es
   | none=>none
 | _::_=>none
def kz (k v:V):List V→Option (List V)
 | []=>some [.tuple [k,v]]
 | .tuple [k',v']::es=>match zU k k' with
   | some true=>some (.tuple [k,v]::es)
   | some false=> (kz k v es).map (.tuple [k',v']:: ·)
   | none=>none
 | _::_=>none
def isKey (q:Option IntKind) (k:V):Bool:=match q,k with
 | some q,.int k _=>decide (k=q)
 | none,.str _=>true
 | _,_=>false
def gH (ok:Bool) (zero:V) (es:List V) (k:V):Act:=
 match jL k es with
 | some (some v)=> .done (if ok then .tuple [v,.bool true] else v)
 | some none=> .done (if ok then .tuple [zero,.bool false] else zero)
 | none=> .fail
def au (  E:Env):oS→Act
 | .move x=>ev x .done
 | .pick c a b=>ev c fun| .bool true=>ev a .done| .bool false=>ev b .done| _=> .fail
 | .new r sz x=>ev x fun v=>if aH v sz &&decide (0 <sz) then .bB r fun o=> .bg r {gen:=o.gen+1,sz,arr:=false,fz:=false,es:=some [v]} (.done (.ptr r (o.gen+1) 0 0)) else .fail
 | .build cells parts=>dJ parts fun ps=>match cU cells ps with
   | some cs=> .done (.agg cs)
   | none=> .fail
 | .buildSlice r sz zero n parts=>dg parts fun ps=>match bL sz (List.replicate n zero) ps with
   | some es=>if aH zero sz &&decide (0 <sz∧n*sz≤16777216) then .bB r fun o=> .bg r {gen:=o.gen+1,sz,arr:=true,fz:=false,es:=some es} (.done (.sl r (o.gen+1) 0 n)) else .fail
   | none=> .fail
 | .b7 r sz=>if 0 <sz then .bB r fun o=> .bg r {gen:=o.gen+1,sz,arr:=true,fz:=false,es:=some []} (.done (.sl r (o.gen+1) 0 0)) else .fail
 | .nk r x=>ev x fun
   | .sl r1 g off len=>if r1=r then .done (.sl r1 g off len) else .bB r1 fun o=>if o.gen=g then
       .bB r fun o'=> .bg r ⟨o'.gen+1,o.sz,o.arr,o.fz,o.es⟩ (.bg r1 ⟨o.gen+1,o.sz,o.arr,o.fz,none⟩ (.done (.sl r (o'.gen+1) off len))) else .fail
   | v=> .done v
 | .makeSlice r sz bytes zero len cap=>ev len fun l=>ev cap fun c=>match l,c with
   | .int _ n,.int _ m=>if 0≤n∧n≤m∧m*bytes≤140737488355328∧aH zero sz∧0 <sz∧m≤9223372036854775807 then
       .bB r fun o=> .bg r {gen:=o.gen+1,sz,arr:=true,fz:=false,es:=some (List.replicate m.toNat zero)} (.done (.sl r (o.gen+1) 0 n.toNat)) else .fail
   | _,_=> .fail
 | .load agg sz x=>ev x fun
   | .ptr r g idx off=> .bB r fun o=>match o.es with
     | some es=>if o.gen=g then match es[idx]? with
         | some e=>cp (part agg off sz e)
         | none=> .fail
       else .fail
     | none=> .fail
   | .eptr e off=>cp (part agg off sz e)
   | .epk _ _ e off=>cp (part agg off sz e)
   | _=> .fail
 | .store agg sz x v=>ev x fun
   | .ptr r g idx off=> .bB r fun o=>if o.arr
     then ev v fun v=>rq v fun v=>iJ agg sz r g idx off v
     else ev v fun v=>iJ agg sz r g idx off v
   | _=> .fail
 | .nilCheck x=>ev x fun
   | .ptr r g idx off=> .done (.ptr r g idx off)
   | .eptr e off=> .done (.eptr e off)
   | .epk i z e off=> .done (.epk i z e off)
   | .fn f caps=> .done (.fn f caps)
   | _=> .fail
 | .bin op x y=>ev x fun a=>ev y fun b=>cp (bH op a b)
 | .MW neg x y=>ev x fun a=>ev y fun b=>match a,b with
   | .bool a,.bool b=> .done (.bool ((a==b) !=neg))
   | _,_=> .fail
 | .yy neg ks x y=>ev x fun a=>ev y fun b=>match a,b with
   | .agg as,.agg bs=>match dH ks as bs with
       | some b=> .done (.bool (b !=neg))
       | none=> .fail
   | _,_=> .fail
 | .un op x=>ev x fun a=>cp (yt op a)
 | .c8 k x=>ev x fun| .int _ n=> .done (.int k (k.wrap n)) | _=> .fail
 | .pf x=>ev x fun| .int _ n=> .done (.float (FloatKind.f64.nearest n)) | _=> .fail
 | .pg k x=>ev x fun
   | .float b=>match (FloatKind.f64.decode b).toInt .zero with
     | some n=>if k.min≤n∧n≤k.max then .done (.int k n) else .fail
     | none=> .fail
   | _=> .fail
 | .nK x=>ev x fun| .str s=> .done (.str s) | _=> .fail
 | .gG t x=>ev x fun v=> .done (.iface t v)
 | .assert t ok zero x=>ev x fun
   | .nili=>if ok then .done (.tuple [zero,.bool false]) else .fail
   | .iface t' v=>if t'=t then .done (if ok then .tuple [v,.bool true] else v) else if ok then .done (.tuple [zero,.bool false]) else .fail
   | _=> .fail
 | .fy f caps=>tG caps fun vs=> .done (.fn f vs)
 | .ia x lo hi=>ev x fun v=>sS lo fun l=>sS hi fun h=>cp (dE v l h)
 | .slice sz x lo hi mx=>ev x fun v=>sS lo fun l=>sS hi fun h=>sS mx fun m=>match v with
   | .sl r g off len=> .bB r fun o=>match o.es with
     | some es=>if o.gen=g∧o.sz=sz then
         match bl 0 l,bl len h,m with
         | some l,some h,none=>if l≤h∧off+h≤es.length then .done (.sl r g (off+l) (h - l)) else .fail
         | some l,some h',some m=>match h,bl 0 (some m) with
           | some _,some m=>if l≤h'∧h'≤m∧off+m≤es.length then .done (if m=l then .nils else .any) else .fail
           | _,_=> .fail
         | _,_,_=> .fail
       else .fail
     | none=> .fail
   | v=>cp (gU sz v l h m)
 | .fieldAddr off x=>ev x fun
   | .ptr r g idx o=> .done (.ptr r g idx (o+off))
   | .eptr e o=> .done (.eptr e (o+off))
   | .epk i z e o=> .done (.epk i z e (o+off))
   | _=> .fail
 | .field agg off sz x=>ev x fun v=>if v.isAgg then cp (part agg off sz v) else .fail
 | .indexAddr sz x i=>ev x fun v=>ev i fun i=>match v,i with
   | .sl r g off len,.int _ n=> .bB r fun o=>if 0≤n∧n<len∧o.sz=sz∧o.gen=g then .done (.ptr r g (off+n.toNat) 0) else .fail
   | .lit sz' xs,.int _ n=>if 0≤n∧sz'=sz then match xs[n.toNat]? with
       | some e=> .done (.eptr e 0)
       | none=> .fail
     else .fail
   | .litk sz' xs,.int _ n=>if 0≤n∧sz'=sz∧0 <sz then match xs[n.toNat]? with
       | some e=> .done (.epk n.toNat sz e 0)
       | none=> .fail
     else .fail
   | _,_=> .fail
 | .aW n sz x i=>ev x fun v=>ev i fun i=>match v,i with
   | .ptr r g idx off,.int _ j=>if 0≤j∧j<n then .done (.ptr r g idx (off+j.toNat*sz)) else .fail
   | .eptr e off,.int _ j=>if 0≤j∧j<n then .done (.eptr e (off+j.toNat*sz)) else .fail
   | _,_=> .fail
 | .ib x i=>ev x fun v=>ev i fun i=>match v,i with
   | .str s,.int _ n=>if 0≤n then match s[n.toNat]? with
       | some b=> .done (.int .u8 b.toNat)
       | none=> .fail
     else .fail
   | _,_=> .fail
 | .ky agg n sz x i=>ev x fun v=>ev i fun i=>match i with
   | .int _ j=>if 0≤j∧j<n∧v.isAgg then cp (part agg (j.toNat*sz) sz v) else .fail
   | _=> .fail
 | .len x=>ev x fun v=>cp (lX v)
 | .rC x=>ev x fun| .str s=> .done (.int .i64 s.length) | _=> .fail
 | .min xs=>tG xs fun vs=>cp (fo min2 vs)
 | .max xs=>tG xs fun vs=>cp (fo max2 vs)
 | .append r sz jj s x=>ev s fun s=>ev x fun x=>content sz x fun ys=>gF ys fun ys=>
   if ys.all (aH · sz) &&decide (0 <sz) then match s with
   | .nils=>if ys.isEmpty then .done .nils else if ys.length≤jj then
       .bB r fun o=> .bg r {gen:=o.gen+1,sz,arr:=true,fz:=false,es:=some ys} (.done (.sl r (o.gen+1) 0 ys.length)) else .fail
   | .lit sz' xs=>if ys.isEmpty then .done (.lit sz' xs) else .fail
   | .sl r' g off len=> .bB r' fun o=>match o.es with
     | some es=>if o.gen=g∧o.arr=true∧o.fz=false∧o.sz=sz∧off+len≤es.length∧len+ys.length≤jj then
           if off+len+ys.length≤es.length then
            .bg r' {o with es:=some (overwrite es (off+len) ys)} (.done (.sl r' g off (len+ys.length)))
           else
            .bg r' {o with gen:=g+1,es:=some (aF es off len++ys)} (.done (.sl r' (g+1) 0 (len+ys.length)))
       else .fail
     | none=> .fail
   | _=> .fail
   else .fail
 | .copy sz d s=>ev d fun d=>ev s fun s=>content sz s fun ys=>match d with
   | .nils=> .done (.int .i64 0)
   | .sl r g off len=> .bB r fun o=>match o.es with
     | some es=>
       if o.gen=g∧o.arr=true∧o.fz=false∧o.sz=sz∧off+len≤es.length∧(ys.take len).all (aH · sz)=true then
         .bg r {o with es:=some (overwrite es off (ys.take len))} (.done (.int .i64 (ys.take len).length)) else .fail
     | none=> .fail
   | _=> .fail
 | .clear sz zero x=>ev x fun
   | .nils=> .done (.tuple [])
   | .sl r g off len=> .bB r fun o=>match o.es with
     | some es=>if o.gen=g∧o.arr=true∧o.fz=false∧o.sz=sz∧off+len≤es.length∧aH zero sz then
         .bg r {o with es:=some (overwrite es off (List.replicate len zero))} (.done (.tuple [])) else .fail
     | none=> .fail
   | _=> .fail
 | .extract x i=>ev x fun
   | .tuple vs=>cp vs[i]?
   | _=> .fail
 | .call r bk f args=>ev f fun
   | .fn f caps=>tG args fun as=>o9 E r bk f (as++caps)
   | _=> .fail
 | .gh i r sz zero n parts=>ev (.tmp i) fun| .int _ j=>G6 (r+16*j.toNat) sz zero n parts| _=> .fail
 | .nL r sz jj s x=>ev s fun s=>ev x fun x=>content sz x fun ys=>we r sz jj s ys
 | .deep x=>ev x uV
 | .rD ks agg sz x=>ev x fun
   | .ptr r g idx off=> .bB r fun o=>match o.es with
     | some es=>if o.gen=g then match es[idx]? with
         | some e=>cp ((part agg off sz e).map (yf ks))
         | none=> .fail
       else .fail
     | none=> .fail
   | .eptr e off=>cp ((part agg off sz e).map (yf ks))
   | .epk _ _ e off=>cp ((part agg off sz e).map (yf ks))
   | _=> .fail
 | .gi r sz zero n parts=>gg parts fun ps=>match bL sz (List.replicate n zero) ps with
   | some es=>if aH zero sz &&decide (0 <sz∧n*sz≤16777216) then .bB r fun o=> .bg r {gen:=o.gen+1,sz,arr:=true,fz:=false,es:=some es} (.done (.sl r (o.gen+1) 0 n)) else .fail
   | none=> .fail
 | .mkMap r=> .bB r fun o=> .bg r {gen:=o.gen+1,sz:=0,arr:=false,fz:=false,es:=some []} (.done (.mp r (o.gen+1)))
 | .ph q x k v=>ev x fun
   | .mp r g=>ev k fun k=>ev v fun v=>rq v fun v=> .bB r fun o=>match o.es with
     | some es=>if o.gen=g∧o.sz=0∧o.fz=false∧isKey q k=true∧v.cw=true then(match kz k v es with
         | some es'=> .bg r {o with es:=some es'} (.done (.tuple []))
         | none=> .fail) else .fail
     | none=> .fail
   | _=> .fail
 | .rE q ok zero x k=>ev x fun x=>ev k fun k=>if isKey q k then(match x with
   | .mp r g=> .bB r fun o=>match o.es with
     | some es=>if o.gen=g∧o.sz=0 then gH ok zero es k else .fail
     | none=> .fail
   | .mlit es=>gH ok zero es k
   | _=> .fail) else .fail
 | .uW x=>ev x fun v=> (match v with
   | .fn .. =>snap v fun v' rs=>bR rs (.done v')
   | _=>rq v .done)
 | .nM r x=>ev x fun
   | .str s=> .bB r fun o=> .bg r {gen:=o.gen+1,sz:=0,arr:=false,fz:=false,es:=some [.str s,.int .i64 0]} (.done (.it r (o.gen+1)))
   | _=> .fail
 | .nN x=>  ev x fun
   | .it r g=> .bB r fun o=>match o.es with
     | some [.str s,.int .i64 p]=>if o.gen=g∧o.sz=0∧o.fz=false then
         (if p.toNat<s.length then .bg r {o with es:=some [.str s,.int .i64 ((p.toNat+(Utf8.decode ⟨s.toArray⟩ p.toNat).2:Nat):Int)]}
           (.done (.tuple [.bool true,.int .i64 (p.toNat:Int),.int .i32 ((Utf8.decode ⟨s.toArray⟩ p.toNat).1:Int)]))
         else .done (.tuple [.bool false])) else .fail
     | _=> .fail
   | _=> .fail
 | .MX neg ks x y=>ev x fun a=>ev y fun b=>match a,b with
   | .iface t p,.iface t' q=>if t=t' then(match mO t ks with
       | some k=> (match s6 k p q with
         | some b=> .done (.bool (b !=neg))
         | none=> .fail)
       | none=> .fail) else .fail
   | .nili,.iface _ _=> .done (.bool neg)
   | .iface _ _,.nili=> .done (.bool neg)
   | _,_=> .fail
 | .HQ neg x y=>ev x fun a=>ev y fun b=>cp ((zR a b).map fun c=> .bool (c !=neg))
 | .mapIter r x=>ev x fun
   | .mlit es=> .bB r fun o=> .bg r {gen:=o.gen+1,sz:=0,arr:=false,fz:=false,es:=some [.mlit es]} (.done (.it r (o.gen+1)))
   | _=> .fail
 | .bad=> .fail
where
 iJ ( agg:Bool) (sz r g idx off:Nat) (v:V):Act:=
  .bB r fun o=>match o.es with
   | some es=>if o.gen=g∧o.fz=false then match es[idx]? with
       | some e=>match cC agg off sz e v with
         | some e'=> .bg r {o with es:=some (es.set idx e')} (.done (.tuple []))
         | none=> .fail
       | none=> .fail
     else .fail
   | none=> .fail
def cX (E:Env) (o:aX):Act:=
 match o.guard with
 | none=>au E o.op
 | some (t,want)=> .ke t fun
   | .bool b=>if b=want then au E o.op else .done da
   | .tuple []=> .done da
   | _=> .fail
structure St where
 T:Nat→V
 O:Nat→Obj
def cW {α:Type} (f:Nat→α) (t:Nat) (v:α):Nat→α:=fun n=>if n=t then v else f n
abbrev aO:=Nat→List V→Option eS
def Act.run (C:aO):Act→St→Option (V×St)
 | .done v,σ=>some (v,σ)
 | .fail,_=>none
 | .ke t k,σ=> (k (σ.T t)).run C σ
 | .bB r k,σ=> (k (σ.O r)).run C σ
 | .bg r o k,σ=>k.run C {σ with O:=cW σ.O r o}
 | .call f as k,σ=>match C f as with
   | some res=> (k res).run C σ
   | none=>none
def St.put (σ:St) (dst:Option Nat) (v:V):St:=
 match dst with
 | some d=> {σ with T:=cW σ.T d v}
 | none=>σ
def dB (E:Env) (C:aO) (o:aX) (σ:St):Option St:=
 match (cX E o).run C σ with
 | some (v,σ')=>some (σ'.put o.dst v)
 | none=>none
def gl (E:Env) (C:aO):List aX→St→Option St
 | [],σ=>some σ
 | o::os,σ=>match dB E C o σ with
   | some σ'=>gl E C os σ'
   | none=>none
inductive Loc where
 | t (n:Nat)
 | o (n:Nat)
 deriving DecidableEq
structure dt where
 reads:List Loc
 writes:List Loc
def Act.c9 (C:aO):Act→St→dt
 | .done _,_=> ⟨[],[]⟩
 | .fail,_=> ⟨[],[]⟩
 | .ke t k,σ=>let f:=(k (σ.T t)).c9 C σ; ⟨.t t::f.reads,f.writes⟩
 | .bB r k,σ=>let f:=(k (σ.O r)).c9 C σ; ⟨.o r::f.reads,f.writes⟩
 | .bg r o k,σ=>let f:=k.c9 C {σ with O:=cW σ.O r o}; ⟨f.reads,.o r::f.writes⟩
 | .call f as k,σ=>match C f as with
   | some res=> (k res).c9 C σ
   | none=> ⟨[],[]⟩
def cn (E:Env) (C:aO) (o:aX) (σ:St):dt:=
 let f:=(cX E o).c9 C σ
 ⟨f.reads,(match o.dst with| some d=> [.t d] | none=> [])++f.writes⟩
def meets (a b:List Loc):Bool:=a.any b.contains
def dt.j5 (a b:dt):Bool:=meets a.writes b.writes || meets a.writes b.reads || meets a.reads b.writes
def closure (before:List (List Nat)) (pre:List Nat):List Nat:=pre++pre.flatMap fun i=>before.getD i []
def fits (bE:List dt) (wait:List Nat) (f:dt):Nat→Bool
 | 0=>true
 | i+1=> (wait.contains i || !(bE.getD i ⟨[],[]⟩).j5 f) &&fits bE wait f i
def c6 (E:Env) (C:aO):List aX→List dt→List (List Nat)→St→Option St
 | [],_,_,σ=>some σ
 | o::os,bE,before,σ=>
   let f:=cn E C o σ
   let wait:=closure before o.pre
   if fits bE wait f bE.length &&o.pre.all (· <bE.length) then
    match dB E C o σ with
    | some σ'=>c6 E C os (bE++[f]) (before++[wait]) σ'
    | none=>none
   else none
inductive aP where
 | normal
 | exit (id:Nat)
 | ret
def aQ (σ:St):aI→V
 | .tmp t=>σ.T t
 | .const v=>v
mutual
def V.beq:V→V→Bool
 | .bool a,.bool b=>a==b
 | .int k n,.int k' n'=>decide (k=k') &&decide (n=n')
 | .float a,.float b=>Nat.beq a b
 | .str a,.str b=>decide (a=b)
 | .agg a,.agg b=>V.ki a b
 | .tuple a,.tuple b=>V.ki a b
 | .nilp,.nilp=>true
 | .nilfn,.nilfn=>true
 | .nili,.nili=>true
 | .fn f a,.fn g b=>Nat.beq f g &&V.ki a b
 | .iface t a,.iface t' b=>Nat.beq t t' &&V.beq a b
 | .nils,.nils=>true
 | .lit s a,.lit s' b=>Nat.beq s s' &&V.ki a b
 | .own s a,.own s' b=>Nat.beq s s' &&V.ki a b
 | .sl a b c d,.sl a' b' c' d'=>Nat.beq a a' && (Nat.beq b b' && (Nat.beq c c' &&Nat.beq d d'))
 | .ptr a b c d,.ptr a' b' c' d'=>Nat.beq a a' && (Nat.beq b b' && (Nat.beq c c' &&Nat.beq d d'))
 | .eptr e a,.eptr e' a'=>V.beq e e' &&Nat.beq a a'
 | .mp a b,.mp a' b'=>Nat.beq a a' &&Nat.beq b b'
 | .mlit a,.mlit b=>V.ki a b
 | .it a b,.it a' b'=>Nat.beq a a' &&Nat.beq b b'
 | .litk s a,.litk s' b=>Nat.beq s s' &&V.ki a b
 | .epk a b e c,.epk a' b' e' c'=>Nat.beq a a' && (Nat.beq b b' && (V.beq e e' &&Nat.beq c c'))
 | .any,.any=>true
 | .msl s a b c,.msl s' a' b' c'=>Nat.beq s s' && (V.ki a a' && (Nat.beq b b' &&Nat.beq c c'))
 | .mptr s a b c,.mptr s' a' b' c'=>Nat.beq s s' && (V.ki a a' && (Nat.beq b b' &&Nat.beq c c'))
 | _,_=>false
def V.ki:List V→List V→Bool
 | [],[]=>true
 | a::as,b::bs=>V.beq a b &&V.ki as bs
 | _,_=>false
end
def CF:Option (List V)→Option (List V)→Bool
 | none,none=>true
 | some a,some b=>V.ki a b
 | _,_=>false
def Obj.beq (a b:Obj):Bool:=Nat.beq a.gen b.gen && (Nat.beq a.sz b.sz && ((a.arr==b.arr) && ((a.fz==b.fz) &&CF a.es b.es)))
def jM {α:Type} (x:α):List α→List (List α)
 | []=> [[x]]
 | y::ys=> (x::y::ys):: (jM x ys).map (y:: ·)
def perms {α:Type}:List α→List (List α)
 | []=> [[]]
 | x::xs=> (perms xs).flatMap (jM x)
def qD (it r g:Nat) (σ:St):Bool:=match σ.T it with
 | .it r' g'=>Nat.beq r' r && (Nat.beq g' g &&Nat.beq (σ.O r).gen g)
 | _=>false
def runK (rec:an→St→Option (aP×St)) (it r g nx ne id:Nat) (ahead body last:an):List V→St→Option St
 | [],σ=>  if qD it r g σ then(match rec ahead (σ.put (some nx) (.tuple [.bool false])) with
     | some (.exit iF,σ')=>if iF=id then(match rec last σ' with
          | some (.normal,σ'')=>some σ''
          | _=>none) else none
     | _=>none) else none
 | e::p,σ=>match e with
   | .tuple [k,v]=>if qD it r g σ then(match rec ahead (σ.put (some nx) (.tuple [.bool true,k,v])) with
      |   some (.normal,σ1)=>if qD it r g σ1 then(match rec body (σ1.put (some ne) (.tuple [k,v])) with
          | some (.normal,σ')=>runK rec it r g nx ne id ahead body last p σ'
          | _=>none) else none
      | _=>none) else none
   | _=>none
def gI {α β:Type} (f:α→Option β):List α→Option (List β)
 | []=>some []
 | x::xs=>match f x,gI f xs with
   | some y,some ys=>some (y::ys)
   | _,_=>none
def nQ (kT kO:List Nat) (σ1 σ:St):Bool:=kT.all (fun t=>V.beq (σ.T t) (σ1.T t)) &&kO.all fun r=>Obj.beq (σ.O r) (σ1.O r)
def forget (kT kO:List Nat) (σ1:St) (σs:List St):St:=
 {T:=fun t=>if kT.contains t then σ1.T t else .any
  O:=fun r=>if kO.contains r then σ1.O r else {gen:=(σ1::σs).foldr (fun σ m=>max (σ.O r).gen m) 0+1,sz:=0,arr:=false,fz:=false,es:=none}}
def kA (T:Nat→V) (ps:List Nat) (x:List V):Nat→V:=(ps.zip x).foldl (fun T p=>cW T p.1 p.2) T
def nO (rec:an→St→Option (aP×St)) (ps:List Nat) (M4 body:an) (T:Nat→V):List (List V)→(Nat→Obj)→Option (aP×St)
 | [],O=>some (.normal,⟨T,O⟩)
 | x::xs,O=>match rec M4 ⟨kA T ps x,O⟩ with
   | some (.normal,σ1)=>match rec body σ1 with
     | some (.normal,σ2)=>nO rec ps M4 body T xs σ2.O
     | some (e,σ2)=>some (e,⟨T,σ2.O⟩)
     | none=>none
   | _=>none
def aA ( E:Env) (C:aO) (rec:an→St→Option (aP×St)):an→St→Option (aP×St)
 | .skip,σ=>some (.normal,σ)
 | .region ops,σ=> (gl E C ops σ).map fun σ=> (.normal,σ)
 | .drawn ops,σ=> (c6 E C ops [] [] σ).map fun σ=> (.normal,σ)
 | .seq a b,σ=>match rec a σ with
   | some (.normal,σ')=>rec b σ'
   | r=>r
 | .cond c a b,σ=>match aQ σ c with
   | .bool true=>rec a σ
   | .bool false=>rec b σ
   | _=>none
 | .block id b,σ=>match rec b σ with
   | some (.exit iF,σ')=>if iF=id then some (.normal,σ') else some (.exit iF,σ')
   | r=>r
 | .loop b,σ=>match rec b σ with
   | some (.normal,σ')=>rec (.loop b) σ'
   | r=>r
 | .exit id,σ=>some (.exit id,σ)
 | .ret,σ=>some (.ret,σ)
 | .scope b,σ=>rec b σ
 | .bad,_=>none
 | .keys it nx ne id kT kO ahead body last,σ=>match σ.T it with
   | .it r g=> (match (σ.O r).es with
     | some [.mlit es]=>if (σ.O r).gen=g∧(σ.O r).sz=0∧(σ.O r).fz=false then
        (match gI (fun p=>runK rec it r g nx ne id ahead body last p ⟨σ.T,cW σ.O r ⟨g,0,false,false,none⟩⟩) (perms es) with
        | some (σ1::σs)=>if σs.all (nQ kT kO σ1) then some (.normal,forget kT kO σ1 σs) else none
        | _=>none) else none
     | _=>none)
   | _=>none
 | .iY x ps M4 body,σ=>match aQ σ x with
   | .fn g caps=>match E.iter g caps with
     | some xs=>if xs.all (fun x=>Nat.beq x.length ps.length)=true then nO rec ps M4 body σ.T xs σ.O else none
     | none=>none
   | _=>none
def bj:Obj:={gen:=0,sz:=0,arr:=false,fz:=false,es:=none}
def enter (args:List V):St:=
 {T:=fun t=>match args[t]? with
   | some (.msl _ _ off len)=> .sl t 0 off len
   | some (.mptr _ _ idx off)=> .ptr t 0 idx off
   | some v=>v
   | none=>da
  O:=fun r=>match args[r]? with
   | some (.msl sz es _ _)=> {gen:=0,sz,arr:=true,fz:=false,es:=some es}
   | some (.mptr sz es _ _)=> {gen:=0,sz,arr:=false,fz:=false,es:=some es}
   | _=>bj}
def bn (n:Nat) (σ:St) (c:V):Option (V×List Nat):=
 match c with
 | .sl r g off len=>match (σ.O r).es with
   | some es=>if (σ.O r).gen=g∧off+len≤es.length∧(σ.O r).arr=true∧V.al (aF es off len)=true then
      if r<n then some (.sl r g off len,[r])
      else if (σ.O r).fz then some (.lit (σ.O r).sz (aF es off len),[]) else some (.own (σ.O r).sz (aF es off len),[r])
     else none
   | none=>none
 | c=>if c.aw then some (c,[]) else none
def a8 (n:Nat) (σ:St):List V→Option (List V×List Nat)
 | []=>some ([],[])
 | c::cs=>match bn n σ c,a8 n σ cs with
   | some (c',r),some (cj,rs)=>some (c'::cj,r++rs)
   | _,_=>none
def cf (n:Nat) (σ:St) (v:V):Option (V×List Nat):=
 if v.aw then some (v,[]) else
 match v with
 | .agg cs=>match a8 n σ cs with
   | some (cj,rs)=>some (.agg cj,rs)
   | none=>none
 | .fn f cs=>match a8 n σ cs with
   | some (cj,rs)=>if V.al cj then some (.fn f cj,rs) else none
   | none=>none
 | v=>bn n σ v
def bO (n:Nat) (σ:St):List V→Option (List V×List Nat)
 | []=>some ([],[])
 | c::cs=>match cf n σ c,bO n σ cs with
   | some (c',r),some (cj,rs)=>some (c'::cj,r++rs)
   | _,_=>none
def dC ( σ:St):nB→Option V
 | .tmp t=>some (σ.T t)
 | .cell t agg sz=>match σ.T t with
   | .ptr r g idx off=>match (σ.O r).es with
     | some es=>if (σ.O r).gen=g then match es[idx]? with
        | some e=>part agg off sz e
        | none=>none
       else none
     | none=>none
   | _=>none
def cr (σ:St):List nB→Option (List V)
 | []=>some []
 | r::rs=>match dC σ r,cr σ rs with
   | some v,some vs=>some (v::vs)
   | _,_=>none
def bC (O:Nat→Obj):Nat→List V→Option (List (Nat×List V))
 | _,[]=>some []
 | i,.msl sz .. ::as| i,.mptr sz .. ::as=>match (O i).es,bC O (i+1) as with
   | some es,some outs=>if (O i).fz=false∧(O i).sz=sz∧V.al es=true then some (((O i).gen,es)::outs) else none
   | _,_=>none
 | i,_::as=>bC O (i+1) as
mutual
def V.erase:V→V
 | .litk sz xs=> .lit sz (V.erases xs)
 | .epk _ _ e off=> .eptr (V.erase e) off
 | .agg cs=> .agg (V.erases cs)
 | .tuple cs=> .tuple (V.erases cs)
 | .fn f cs=> .fn f (V.erases cs)
 | .iface t v=> .iface t (V.erase v)
 | .lit sz xs=> .lit sz (V.erases xs)
 | .own sz xs=> .own sz (V.erases xs)
 | .eptr e off=> .eptr (V.erase e) off
 | .mlit es=> .mlit (V.erases es)
 | .msl sz es off len=> .msl sz es off len
 | .mptr sz es idx off=> .mptr sz es idx off
 | .bool b=> .bool b
 | .int k n=> .int k n
 | .float b=> .float b
 | .str s=> .str s
 | .nilp=> .nilp
 | .nilfn=> .nilfn
 | .nili=> .nili
 | .nils=> .nils
 | .sl r g off len=> .sl r g off len
 | .ptr r g idx off=> .ptr r g idx off
 | .mp r g=> .mp r g
 | .it r g=> .it r g
 | .any=> .any
def V.erases:List V→List V
 | []=> []
 | v::vs=>V.erase v::V.erases vs
end
def rG (v:V):V:=match v with
 | .lit sz xs=> .litk sz xs
 | v=>v
def wg (c:Nat) (v:V):V:=match v with
 | .agg cs=> .agg (cs.modify c rG)
 | v=>v
def cL (p:Nat×Nat) (args:List V):List V:=(V.erases args).modify p.1 (wg p.2)
def leave (af:aD) (args:List V) (σ:St):Option eS:=
 match cr σ af.results,bC σ.O 0 args with
 | some vs,some outs=>match bO args.length σ vs with
   | some ([v],rs)=>if distinct rs then some ⟨v,outs⟩ else none
   | some (vs,rs)=>if distinct rs then some ⟨.tuple vs,outs⟩ else none
   | none=>none
 | _,_=>none
def iX ( E:Env) (rec:an→St→Option (aP×St)):aO:=fun f args=>
 match E.ext f args with
 | some r=>some r
 | none=>match E.fn f with
   | some af=>if args.length=af.nparams then match af.tag with
      | none=> (match rec af.body (enter args) with
        | some (.normal,σ) | some (.ret,σ)=>leave af args σ
        | _=>none)
      | some p=>if V.al args=true then(match rec af.body (enter (cL p args)) with
        | some (.normal,σ) | some (.ret,σ)=> (leave af (cL p args) σ).map fun res=> ⟨res.val.erase,[]⟩
        | _=>none) else none
     else none
   | none=>none
def cK (E:Env) (rec:an→St→Option (aP×St)):aO:=fun f args=>
 match E.hyb f with
 | some h=>h (iX E rec) args
 | none=>iX E rec f args
def exec (E:Env):Nat→an→St→Option (aP×St)
 | 0=>fun _ _=>none
 | n+1=>aA E (cK E (exec E n)) (exec E n)
def call (E:Env) (n:Nat):aO:=cK E (exec E n)
end Go.AM
namespace Go.AM
mutual
theorem V.beq_eq: ∀ {a b:V},V.beq a b=true→a=b
 | .bool _,b,h| .int ..,b,h| .float _,b,h| .str _,b,h| .nilp,b,h| .nilfn,b,h| .nili,b,h| .nils,b,h| .any,b,h=>by
   cases b<;>simp_all[V.beq]
 | .sl ..,b,h| .ptr ..,b,h| .mp ..,b,h| .it ..,b,h=>by
   cases b<;>simp_all[V.beq]
 | .msl s as o l,b,h=>by
   cases b<;>simp only[V.beq,Bool.and_eq_true,Nat.beq_eq,reduceCtorEq,Bool.false_eq_true] at h
   rw[h.1,V.eA h.2.1,h.2.2.1,h.2.2.2]
 | .mptr s as o l,b,h=>by
   cases b<;>simp only[V.beq,Bool.and_eq_true,Nat.beq_eq,reduceCtorEq,Bool.false_eq_true] at h
   rw[h.1,V.eA h.2.1,h.2.2.1,h.2.2.2]
 | .agg as,b,h=>by
   cases b<;>simp only[V.beq,reduceCtorEq,Bool.false_eq_true] at h
   rw[V.eA h]
 | .tuple as,b,h=>by
   cases b<;>simp only[V.beq,reduceCtorEq,Bool.false_eq_true] at h
   rw[V.eA h]
 | .mlit as,b,h=>by
   cases b<;>simp only[V.beq,reduceCtorEq,Bool.false_eq_true] at h
   rw[V.eA h]
 | .fn f as,b,h=>by
   cases b<;>simp only[V.beq,Bool.and_eq_true,Nat.beq_eq,reduceCtorEq,Bool.false_eq_true] at h
   rw[h.1,V.eA h.2]
 | .iface t a,b,h=>by
   cases b<;>simp only[V.beq,Bool.and_eq_true,Nat.beq_eq,reduceCtorEq,Bool.false_eq_true] at h
   rw[h.1,V.beq_eq h.2]
 | .lit s as,b,h=>by
   cases b<;>simp only[V.beq,Bool.and_eq_true,Nat.beq_eq,reduceCtorEq,Bool.false_eq_true] at h
   rw[h.1,V.eA h.2]
 | .litk s as,b,h=>by
   cases b<;>simp only[V.beq,Bool.and_eq_true,Nat.beq_eq,reduceCtorEq,Bool.false_eq_true] at h
   rw[h.1,V.eA h.2]
 | .own s as,b,h=>by
   cases b<;>simp only[V.beq,Bool.and_eq_true,Nat.beq_eq,reduceCtorEq,Bool.false_eq_true] at h
   rw[h.1,V.eA h.2]
 | .eptr e o,b,h=>by
   cases b<;>simp only[V.beq,Bool.and_eq_true,Nat.beq_eq,reduceCtorEq,Bool.false_eq_true] at h
   rw[h.2,V.beq_eq h.1]
 | .epk i z e o,b,h=>by
   cases b<;>simp only[V.beq,Bool.and_eq_true,Nat.beq_eq,reduceCtorEq,Bool.false_eq_true] at h
   rw[h.1,h.2.1,V.beq_eq h.2.2.1,h.2.2.2]
theorem V.eA: ∀ {a b:List V},V.ki a b=true→a=b
 | [],[],_=>rfl
 | [],_::_,h=>by simp[V.ki] at h
 | _::_,[],h=>by simp[V.ki] at h
 | a::as,b::bs,h=>by
   simp only[V.ki,Bool.and_eq_true] at h
   rw[V.beq_eq h.1,V.eA h.2]
end
mutual
theorem V.ie: ∀ (a:V),V.beq a a=true
 | .bool _| .int .. | .float _| .str _| .nilp| .nilfn| .nili| .nils| .any| .sl .. | .ptr .. | .mp .. | .it .. =>by simp[V.beq]
 | .agg as| .tuple as| .mlit as=>by simp only[V.beq];exact V.jl as
 | .fn f as| .lit f as| .litk f as| .own f as=>by
   simp only[V.beq,Nat.beq_refl,Bool.true_and]
   exact V.jl as
 | .msl f as _ _| .mptr f as _ _=>by
   simp only[V.beq,Nat.beq_refl,Bool.true_and,Bool.and_true]
   exact V.jl as
 | .iface t a=>by
   simp only[V.beq,Nat.beq_refl,Bool.true_and]
   exact V.ie a
 | .eptr e o=>by
   simp only[V.beq,Nat.beq_refl,Bool.and_true]
   exact V.ie e
 | .epk i z e o=>by
   simp only[V.beq,Nat.beq_refl,Bool.true_and,Bool.and_true]
   exact V.ie e
theorem V.jl: ∀ (a:List V),V.ki a a=true
 | []=>rfl
 | a::as=>by simp only[V.ki,V.ie a,V.jl as,Bool.and_self]
end
theorem Obj.beq_eq {a b:Obj} (h:Obj.beq a b=true):a=b:=by
 obtain⟨g,s,r,f,es⟩:=a
 obtain⟨g',s',r',f',es'⟩:=b
 simp only[Obj.beq,Bool.and_eq_true,Nat.beq_eq,beq_iff_eq] at h
 obtain⟨rfl,rfl,rfl,rfl,h⟩:=h
 congr 1
 unfold CF at h
 split at h
 · rfl
 · rw[V.eA h]
 · simp at h
theorem Obj.ie (a:Obj):Obj.beq a a=true:=by
 obtain⟨g,s,r,f,es⟩:=a
 simp only[Obj.beq,Nat.beq_refl,beq_self_eq_true,Bool.true_and]
 unfold CF
 cases es with
 | none=>rfl
 | some es=>exact V.jl es
section
variable {α β:Type}
theorem rH {x:α}: ∀ {l p:List α},p ∈ jM x l→p.Perm (x::l)
 | [],p,h=>by simp[jM] at h;subst h;exact .refl _
 | y::ys,p,h=>by
   simp only[jM,List.mem_cons,List.mem_map] at h
   rcases h with rfl| ⟨q,hq,rfl⟩
   · exact .refl _
   · exact((rH hq).cons y).trans (.swap x y ys)
theorem rI {x:α}: ∀ {a b:List α},a++x::b ∈ jM x (a++b)
 | [],[]=>by simp[jM]
 | [],y::ys=>by simp[jM]
 | y::a,b=>by
   simp only[List.cons_append,jM,List.mem_cons,List.mem_map]
   exact .inr ⟨_,rI,rfl⟩
theorem pQ: ∀ {l p:List α},p ∈ perms l→p.Perm l
 | [],p,h=>by simp[perms] at h;subst h;exact .refl _
 | x::xs,p,h=>by
   simp only[perms,List.mem_flatMap] at h
   obtain⟨q,hq,hp⟩:=h
   exact(rH hp).trans ((pQ hq).cons x)
theorem kB: ∀ {l p:List α},p.Perm l→p ∈ perms l
 | [],p,h=>by rw[h.eq_nil];simp[perms]
 | x::xs,p,h=>by
   obtain⟨a,b,rfl⟩:=List.append_of_mem (h.mem_iff.2 (by simp):x ∈ p)
   have h': (a++b).Perm xs:=List.Perm.cons_inv (List.perm_middle.symm.trans h)
   simp only[perms,List.mem_flatMap]
   exact⟨a++b,kB h',rI⟩
theorem pT {f:α→Option β}: ∀ {l:List α} {ys:List β},gI f l=some ys→ ∀x ∈ l,∃y ∈ ys,f x=some y
 | [],ys,_,x,hx=>by simp at hx
 | a::l,ys,h,x,hx=>by
   simp only[gI] at h
   split at h
   · rename_i y Xu h1 h2
     injection h with h;subst h
     rcases List.mem_cons.1 hx with rfl| hx
     · exact⟨y,by simp,h1⟩
     · obtain⟨z,hz,e⟩:=pT h2 x hx
       exact⟨z,by simp[hz],e⟩
   · simp at h
theorem jD {f f':α→Option β} (h: ∀x y,f x=some y→f' x=some y): ∀ {l:List α} {ys:List β},gI f l=some ys→gI f' l=some ys
 | [],ys,e=>e
 | a::l,ys,e=>by
   simp only[gI] at e ⊢
   split at e
   · rename_i y Xu h1 h2
     rw[h _ _ h1,jD h h2];exact e
   · simp at e
theorem rF {f:Nat→α→Option β} (hm: ∀n m x y,n≤m→f n x=some y→f m x=some y) {P:β→Prop}: ∀ {l:List α},(∀x ∈ l,∃n y,f n x=some y∧P y)→ ∃n ys,gI (f n) l=some ys∧ys.length=l.length∧ ∀y ∈ ys,P y
 | [],_=> ⟨0,[],rfl,rfl,by simp⟩
 | a::l,h=>by
   obtain⟨n1,y,h1,h2⟩:=h a (by simp)
   obtain⟨n2,ys,h3,h4,h5⟩:=rF hm (l:=l) fun x hx=>h x (by simp[hx])
   refine⟨max n1 n2,y::ys,?_,by simp[h4],?_⟩
   · have e1:=hm n1 (max n1 n2) a y (Nat.le_max_left ..) h1
     have e2:=jD (f:=f n2) (f':=f (max n1 n2)) (fun x y h=>hm n2 _ x y (Nat.le_max_right ..) h) h3
     simp only[gI,e1,e2]
   · intro z hz
     rcases List.mem_cons.1 hz with rfl| hz
     · exact h2
     · exact h5 z hz
end
theorem lG {  r r':an→St→Option (aP×St)} (h: ∀c σ x,r c σ=some x→r' c σ=some x) {it ri g nx ne id:Nat} {ahead body last:an}: ∀ {p:List V} {σ σ':St},runK r it ri g nx ne id ahead body last p σ=some σ'→runK r' it ri g nx ne id ahead body last p σ=some σ'
 | [],σ,σ',e=>by
   simp only[runK] at e ⊢
   split at e
   · rename_i hi
     rw[if_pos hi]
     split at e
     · rename_i iF σ1 h1
       rw[h _ _ _ h1]
       simp only
       split at e
       · rename_i G7
         rw[if_pos G7]
         split at e
         · rename_i σ2 h2
           rw[h _ _ _ h2];exact e
         · simp at e
       · simp at e
     · simp at e
   · simp at e
 | x::p,σ,σ',e=>by
   simp only[runK] at e ⊢
   split at e
   · split at e
     · rename_i hi
       rw[if_pos hi]
       split at e
       · rename_i σ1 h1
         rw[h _ _ _ h1]
         simp only
         split at e
         · rename_i pt
           rw[if_pos pt]
           split at e
           · rename_i σ2 h2
             rw[h _ _ _ h2]
             exact lG h e
           · simp at e
         · simp at e
       · simp at e
     · simp at e
   · simp at e
theorem oW {r r':an→St→Option (aP×St)} (h: ∀c σ x,r c σ=some x→r' c σ=some x) {ps:List Nat} {a b:an} {T:Nat→V}: ∀ {xs:List (List V)} {O:Nat→Obj} {y},nO r ps a b T xs O=some y→nO r' ps a b T xs O=some y
 | [],O,y,e=>by simpa [nO] using e
 | x::xs,O,y,e=>by
   simp only[nO] at e ⊢
   split at e
   · rename_i σ1 h1
     rw[h _ _ _ h1]
     simp only
     split at e
     · rename_i σ2 h2
       rw[h _ _ _ h2];exact oW h e
     · rename_i e2 σ2 hn h2
       rw[h _ _ _ h2]
       simp only
       cases e2 with
       | normal=>exact absurd rfl (hn ·)
       | exit id=>exact e
       | ret=>exact e
     · simp at e
   · simp at e
theorem nU {α:Type} (f:α→Nat): ∀ {l:List α} {x:α},x ∈ l→f x≤l.foldr (fun x m=>max (f x) m) 0
 | a::l,x,h=>by
   simp only[List.foldr_cons]
   rcases List.mem_cons.1 h with rfl| h
   · exact Nat.le_max_left ..
   · exact Nat.le_trans (nU f h) (Nat.le_max_right ..)
end Go.AM
