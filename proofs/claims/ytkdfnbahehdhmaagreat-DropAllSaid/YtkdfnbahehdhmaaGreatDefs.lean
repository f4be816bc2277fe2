/-
  Texts of the proof, joined by program: AmDefs, AmKeys. Own work.
-/
import GoSem.Step
set_option linter.unusedSimpArgs false
set_option linter.unusedVariables false
namespace Go.AM
inductive V where
 | bool (b:Bool)
 | int (k:IntKind) (n:Int)
 | float (bits:Nat)
 | str (s:List UInt8)
 | agg (cs:List V)
 | tuple (vs:List V)
 | nilp| nilfn| nili
 | fn (f:Nat) (caps:List V)
 | iface (t:Nat) (v:V)
 | nils
 | lit (sz:Nat) (xs:List V)
 | own (sz:Nat) (xs:List V)
 | sl (r g off len:Nat)
 | ptr (r g idx off:Nat)
 | eptr (e:V) (off:Nat)
 | mp (r g:Nat)
 | mlit (es:List V)
 | it (r g:Nat)
 | litk (sz:Nat) (xs:List V)
 | epk (i sz:Nat) (e:V) (off:Nat)
 | msl (sz:Nat) (es:List V) (off len:Nat)
 | mptr (sz:Nat) (es:List V) (idx off:Nat)
 | any
 deriving Inhabited
def dX:V:= .tuple []
structure Obj where
 gen:Nat
 sz:Nat
 arr:Bool
 fz:Bool
 es:Option (List V)
structure fL where
 val:V
 outs:List (Nat×List V)
inductive aW where
 | tmp (t:Nat)
 | const (v:V)
inductive rA where
 | move (x:aW)
 | pick (c a b:aW)
 | new (r sz:Nat) (x:aW)
 | build (cells:List V) (parts:List (Nat×Nat×aW))
 | buildSlice (r sz:Nat) (zero:V) (n:Nat) (parts:List (Nat×aW))
 | cr (r sz:Nat)
 | m7 (r:Nat) (x:aW)
 | makeSlice (r sz bytes:Nat) (zero:V) (len cap:aW)
 | load (agg:Bool) (sz:Nat) (x:aW)
 | store (agg:Bool) (sz:Nat) (x v:aW)
 | nilCheck (x:aW)
 | bin (op:BinOp) (x y:aW)
 | qp (neg:Bool) (x y:aW)
 | rP (neg:Bool) (ks:List Nat) (x y:aW)
 | un (op:UnOp) (x:aW)
 | ef (k:IntKind) (x:aW)
 | rQ (x:aW)
 | rR (k:IntKind) (x:aW)
 | qq (x:aW)
 | jo (t:Nat) (x:aW)
 | assert (t:Nat) (aaK:Bool) (zero:V) (x:aW)
 | ie (f:Nat) (caps:List aW)
 | slice (sz:Nat) (x:aW) (lo hi mx:Option aW)
 | jK (x:aW) (lo hi:Option aW)
 | fieldAddr (off:Nat) (x:aW)
 | field (agg:Bool) (off sz:Nat) (x:aW)
 | indexAddr (sz:Nat) (x i:aW)
 | aU (n sz:Nat) (x i:aW)
 | jL (x i:aW)
 | m8 (agg:Bool) (n sz:Nat) (x i:aW)
 | len (x:aW)
 | uz (x:aW)
 | min (xs:List aW)
 | max (xs:List aW)
 | append (r sz kb:Nat) (s x:aW)
 | copy (sz:Nat) (d s:aW)
 | clear (sz:Nat) (zero:V) (x:aW)
 | extract (x:aW) (i:Nat)
 | call (r:Nat) (bK:Bool) (f:aW) (args:List aW)
 | fY (i r sz:Nat) (zero:V) (n:Nat) (parts:List (Nat×aW))
 | lS (r sz kb:Nat) (s x:aW)
 | deep (x:aW)
 | sC (ks:List Nat) (agg:Bool) (sz:Nat) (x:aW)
 | mkMap (r:Nat)
 | rS (q:Option IntKind) (x k v:aW)
 | uA (q:Option IntKind) (ok:Bool) (zero:V) (x k:aW)
 | xN (x:aW)
 | qt (r:Nat) (x:aW)
 | qu (x:aW)
 | fZ (r sz:Nat) (zero:V) (n:Nat) (parts:List (Nat×aW))
 | To (neg:Bool) (ks:List (Nat×Nat)) (x y:aW)
 | MZ (neg:Bool) (x y:aW)
 | mapIter (r:Nat) (x:aW)
 | bad
structure bD where
 dst:Option Nat
 op:rA
 guard:Option (Nat×Bool)
 pre:List Nat
inductive al where
 | skip
 | region (ops:List bD)
 | drawn (ops:List bD)
 | seq (a b:al)
 | cond (c:aW) (a b:al)
 | block (id:Nat) (b:al)
 | loop (b:al)
 | exit (id:Nat)
 | ret
 | scope (b:al)
 | bad
 | keys (it nx ne id:Nat) (kT kO:List Nat) (ahead body last:al)
 | kF (x:aW) (ps:List Nat) (Tu body:al)
inductive qh where
 | tmp (t:Nat)
 | cell (t:Nat) (agg:Bool) (sz:Nat)
structure aF where
 nparams:Nat
 ntmps:Nat
 ux:List (Option Nat)
 results:List qh
 body:al
 tag:Option (Nat×Nat):=none
structure Env where
 fn:Nat→Option aF
 ext:Nat→List V→Option fL
 hyb:Nat→Option ((Nat→List V→Option fL)→List V→Option fL):=fun _=>none
 mono: ∀f h,hyb f=some h→ ∀ (C C':Nat→List V→Option fL),(∀g vs r,C g vs=some r→C' g vs=some r)→ ∀vs r,h C vs=some r→h C' vs=some r:=by exact fun _ _ h=>nomatch h
 iter:Nat→List V→Option (List (List V)):=fun _ _=>none
def V.cells:V→List V
 | .agg cs=>cs
 | v=> [v]
def V.isAgg:V→Bool
 | .agg _=>true
 | _=>false
def V.isTuple:V→Bool
 | .tuple _=>true
 | _=>false
def V.aP:V→Bool
 | .agg _| .tuple _| .any| .own .. | .msl .. | .mptr .. =>false
 | _=>true
mutual
def V.aC:V→Bool
 | .bool _| .int .. | .float _| .str _| .nilp| .nilfn| .nili| .nils| .lit .. | .eptr .. | .litk .. | .epk .. =>true
 | .agg cs=>V.an cs
 | .tuple cs=>V.an cs
 | .mlit es=>V.an es
 | .fn _ caps=>V.an caps
 | .iface _ v=>V.aC v
 | .own .. | .sl .. | .ptr .. | .mp .. | .it .. | .msl .. | .mptr .. | .any=>false
def V.an:List V→Bool
 | []=>true
 | c::cs=>V.aC c &&V.an cs
end
mutual
def V.isScalar:V→Bool
 | .bool _| .int .. | .float _| .str _| .nilp| .nilfn| .nili| .nils=>true
 | .agg cs=>V.bA cs
 | .tuple cs=>V.bA cs
 | _=>false
def V.bA:List V→Bool
 | []=>true
 | c::cs=>V.isScalar c &&V.bA cs
end
def part (agg:Bool) (off sz:Nat) (e:V):Option V:=
 match agg,e with
 | true,.agg cs=>if off+sz≤cs.length then some (.agg ((cs.drop off).take sz)) else none
 | true,_=>none
 | false,.agg cs=>cs[off]?
 | false,v=>if v.aP∧off=0 then some v else none
def da (agg:Bool) (off sz:Nat) (e v:V):Option V:=
 match agg with
 | true=>match e,v with
   | .agg cs,.agg vs=>if vs.length=sz∧off+sz≤cs.length then some (.agg (cs.take off++vs++cs.drop (off+sz))) else none
   | _,_=>none
 | false=>if v.aP∧sz=1 then match e with
    | .agg cs=>if off<cs.length then some (.agg (cs.set off v)) else none
    | e=>if e.aP∧off=0 then some v else none
   else none
def V.c6 (v:V):Bool:=v.isAgg || v.aP
def aS (v:V) (sz:Nat):Bool:=v.cells.length==sz &&v.c6
def aN (es:List V) (off len:Nat):List V:=(es.drop off).take len
def overwrite (es:List V) (off:Nat) (ys:List V):List V:=es.take off++ys++es.drop (off+ys.length)
inductive Act where
 | done (v:V)
 | fail
 | mL (t:Nat) (k:V→Act)
 | bV (r:Nat) (k:Obj→Act)
 | bI (r:Nat) (o:Obj) (k:Act)
 | call (f:Nat) (args:List V) (k:fL→Act)
def ev (x:aW) (k:V→Act):Act:=
 match x with
 | .tmp t=> .mL t k
 | .const v=>k v
def wF:List aW→(List V→Act)→Act
 | [],k=>k []
 | x::xs,k=>ev x fun v=>wF xs fun vs=>k (v::vs)
def vV:Option aW→(Option V→Act)→Act
 | none,k=>k none
 | some x,k=>ev x fun v=>k (some v)
def cT:Option V→Act
 | some v=> .done v
 | none=> .fail
def cb (c:V) (k:V→Act):Act:=
 match c with
 | .sl r g off len=> .bV r fun o=>match o.es with
   | some es=>if o.gen=g∧o.arr=true∧off+len≤es.length∧V.an (aN es off len)=true then .bI r {o with fz:=true} (k (.lit o.sz (aN es off len))) else .fail
   | none=> .fail
 | .mp r g=> .bV r fun o=>match o.es with
   | some es=>if o.gen=g∧o.sz=0∧V.an es=true∧es.all V.isTuple=true then .bI r {o with fz:=true} (k (.mlit es)) else .fail
   | none=> .fail
 | .own .. | .msl .. | .mptr .. | .any| .it .. => .fail
 | c=>k c
def dQ:List V→(List V→Act)→Act
 | [],k=>k []
 | c::cs,k=>cb c fun c'=>dQ cs fun cN=>k (c'::cN)
def sA (v:V) (k:V→Act):Act:=
 if v.aC then k v else
 match v with
 | .agg cs=>dQ cs fun cN=>k (.agg cN)
 | v=>cb v k
def gv (vs:List V) (k:List V→Act):Act:=
 if V.an vs then k vs else go vs k
where
 go:List V→(List V→Act)→Act
 | [],k=>k []
 | c::cs,k=>sA c fun c'=>go cs fun cN=>k (c'::cN)
def oL (f:V→(V→List Nat→Act)→Act):List V→(List V→List Nat→Act)→Act
 | [],k=>k [] []
 | c::cs,k=>f c fun c' r=>oL f cs fun cN rs=>k (c'::cN) (r++rs)
def tV (f:V→(V→List Nat→Act)→Act) (vs:List V) (k:List V→List Nat→Act):Act:=
 if V.an vs then k vs [] else oL f vs k
def fj:Nat→V→(V→List Nat→Act)→Act
 | 0,v,k=>if v.aC then k v [] else .fail
 | d+1,v,k=>if v.aC then k v [] else
   match v with
   | .agg cs=>oL (fj d) cs fun cN rs=>k (.agg cN) rs
   | .fn f cs=>oL (fj d) cs fun cN rs=>k (.fn f cN) rs
   | .iface t x=>fj d x fun x' rs=>k (.iface t x') rs
   | .sl r g off len=> .bV r fun o=>match o.es with
     | some es=>if o.gen=g∧o.arr=true∧off+len≤es.length then tV (fj d) (aN es off len) fun xs rs=>k (.lit o.sz xs) (r::rs) else .fail
     | none=> .fail
   | .ptr r g idx off=> .bV r fun o=>match o.es with
     | some es=>if o.gen=g then match es[idx]? with
        | some e=>fj d e fun e' rs=>k (.eptr e' off) (r::rs)
        | none=> .fail
       else .fail
     | none=> .fail
   | _=> .fail
def snap (v:V) (k:V→List Nat→Act):Act:=fj 5 v k
structure dV where
 i:Nat
 r:Nat
 fresh:Option Nat
def dx (   r0:Nat):List V→List (Option Nat)→Nat→(List V→List Nat→List dV→Act)→Act
 | [],_,_,k=>k [] [] []
 | v::vs,m::ms,i,k=>
   match m with
   | some sz=>match v with
     | .nils=>if 0 <sz then dx r0 vs ms (i+1) fun as rs ws=>k (.msl sz [] 0 0::as) rs (⟨i,r0+i,some sz⟩::ws) else .fail
     | .sl r g off len=> .bV r fun o=>match o.es with
       | some es=>if o.gen=g∧o.fz=false∧o.sz=sz∧off+len≤es.length∧V.an es=true then
          dx r0 vs ms (i+1) fun as rs ws=>k (.msl sz es off len::as) rs (⟨i,r,none⟩::ws) else .fail
       | none=> .fail
     | .ptr r g idx off=> .bV r fun o=>match o.es with
       | some es=>if o.gen=g∧o.fz=false∧o.sz=sz∧V.an es=true then
          dx r0 vs ms (i+1) fun as rs ws=>k (.mptr sz es idx off::as) rs (⟨i,r,none⟩::ws) else .fail
       | none=> .fail
     | _=> .fail
   | none=>snap v fun v' rs=>dx r0 vs ms (i+1) fun as rs' ws=>k (v'::as) (rs++rs') ws
 | v::vs,[],i,k=>snap v fun v' rs=>dx r0 vs [] (i+1) fun as rs' ws=>k (v'::as) (rs++rs') ws
def cp:List Nat→Act→Act
 | [],k=>k
 | r::rs,k=> .bV r fun o=> .bI r {o with fz:=true} (cp rs k)
def cM:List dV→List (Nat×List V)→(List (Nat×Nat×Nat)→Act)→Act
 | [],[],k=>k []
 | w::ws,(DW,es)::outs,k=> .bV w.r fun o=>match w.fresh with
   | none=> .bI w.r {o with gen:=o.gen+DW,es:=some es} (cM ws outs fun gs=>k ((w.i,w.r,o.gen+DW)::gs))
   | some sz=> .bI w.r {gen:=o.gen+1,sz,arr:=true,fz:=false,es:=some es} (cM ws outs fun gs=>k ((w.i,w.r,o.gen+1)::gs))
 | _,_,_=> .fail
def fy (i:Nat):List (Nat×Nat×Nat)→Option (Nat×Nat)
 | []=>none
 | (j,r,g)::gs=>if j=i then some (r,g) else fy i gs
def bX (bK:Bool) (r:Nat) (gs:List (Nat×Nat×Nat)) (c:V) (k:V→Act):Act:=
 match c with
 | .own sz xs=>if bK then .bV r fun o=> .bI r {gen:=o.gen+1,sz,arr:=true,fz:=false,es:=some xs} (k (.sl r (o.gen+1) 0 xs.length)) else k (.lit sz xs)
 | .sl i _ off len=>match fy i gs with
   | some (r',g')=>k (.sl r' g' off len)
   | none=> .fail
 | c=>if c.aC then k c else .fail
def cA (bK:Bool):Nat→List (Nat×Nat×Nat)→List V→(List V→Act)→Act
 | _,_,[],k=>k []
 | r,gs,c::cs,k=>bX bK r gs c fun c'=>cA bK (r+1) gs cs fun cN=>k (c'::cN)
def eE (bK:Bool) (r:Nat) (gs:List (Nat×Nat×Nat)) (v:V) (k:V→Act):Act:=
 if v.aC then k v else
 match v with
 | .agg cs=>cA bK r gs cs fun cN=>k (.agg cN)
 | v=>bX bK r gs v k
def dU (bK:Bool):Nat→List (Nat×Nat×Nat)→List V→(List V→Act)→Act
 | _,_,[],k=>k []
 | r,gs,v::vs,k=>eE bK r gs v fun v'=>dU bK (r+8) gs vs fun vs'=>k (v'::vs')
def cn (bK:Bool) (r:Nat) (gs:List (Nat×Nat×Nat)) (v:V) (k:V→Act):Act:=
 if v.aC then k v else
 match v with
 | .tuple vs=>dU bK r gs vs fun vs'=>k (.tuple vs')
 | v=>eE bK r gs v k
def apart (rs ws:List Nat):Bool:=ws.all fun w=> !rs.contains w
def distinct:List Nat→Bool
 | []=>true
 | w::ws=> !ws.contains w &&distinct ws
def rL (E:Env) (r:Nat) (bK:Bool) (f:Nat) (args:List V):Act:=
 let ux:=match E.fn f with| some af=>af.ux| none=> []
 dx (r+8) args ux 0 fun as rs ws=>
  if apart rs (ws.map (·.r)) &&distinct (ws.map (·.r)) then
   .call f as fun res=>
    let go:=cM ws res.outs fun gs=>cn bK r gs res.val .done
    if res.val.isScalar &&res.outs.all (fun o=>V.bA o.2) then go else cp rs go
  else .fail
def F5 (b:Bool):Option V:=some (.bool b)
def dw (op:BinOp) (a b:Int):Option V:=
 match op with
 | .eql=>some (.bool (a==b))
 | .neq=>some (.bool (a !=b))
 | .lss=>some (.bool (a<b))
 | .leq=>some (.bool (a≤b))
 | .gtr=>some (.bool (b<a))
 | .geq=>some (.bool (b≤a))
 | _=>none
def km (op:BinOp) (k:IntKind) (x y:Int):Option V:=
 let a:=BitVec.ofInt k.bits x
 let b:=BitVec.ofInt k.bits y
 let back (r:BitVec k.bits):Option V:=some (.int k (k.wrap r.toNat))
 match op with
 | .and=>back (a &&&b)
 | .or=>back (a ||| b)
 | .xor=>back (a ^^^ b)
 | .andNot=>back (a &&& ~~~b)
 | _=>none
def v8 (k:Nat) (a b:V):Option Bool:=
 match k,a,b with
 | 0,.bool a,.bool b=>some (a==b)
 | 1,.int k a,.int k' b=>if k=k' then some (a==b) else none
 | 2,.str a,.str b=>some (decide (a=b))
 | _,_,_=>none
def eV:List Nat→List V→List V→Option Bool
 | [],[],[]=>some true
 | k::ks,a::as,b::bs=>match v8 k a b,eV ks as bs with
   | some x,some y=>some (x &&y)
   | _,_=>none
 | _,_,_=>none
def CL:V→V→Option Bool
 | .nilp,.nilp=>some true
 | .nilp,.eptr .. | .nilp,.epk .. | .eptr ..,.nilp| .epk ..,.nilp=>some false
 | .epk i z _ 0,.epk i' z' _ 0=>if z=z'∧0 <z then some (i==i') else none
 | _,_=>none
def pn (t:Nat):List (Nat×Nat)→Option Nat
 | []=>none
 | (t',k)::ks=>bif Nat.beq t' t then some k else pn t ks
def b7 (op:BinOp) (x y:V):Option V:=
 match x,y with
 | .int k a,.int k' b=>
   match op with
   | .shl=>if b< 0 then none else some (.int k (k.wrap (a*2 ^ (min b.toNat k.bits))))
   | .shr=>if b< 0 then none else some (.int k (a.fdiv (2 ^ (min b.toNat k.bits))))
   | op=>
     if k=k' then
      match op with
      | .add=>some (.int k (k.wrap (a+b)))
      | .sub=>some (.int k (k.wrap (a - b)))
      | .mul=>some (.int k (k.wrap (a*b)))
      | .quo=>if b=0 then none else some (.int k (k.wrap (a.tdiv b)))
      | .rem=>if b=0 then none else some (.int k (a.tmod b))
      | .and| .or| .xor| .andNot=>km op k a b
      | op=>dw op a b
     else none
 | .str a,.str b=>
   match op with
   | .add=>if a.length+b.length≤9223372036854775807 then some (.str (a++b)) else none
   | .eql=>some (.bool (decide (a=b)))
   | .neq=>some (.bool (!decide (a=b)))
   | .lss=>some (.bool (Op.bytesLess a b))
   | .leq=>some (.bool (Op.bytesLess a b || decide (a=b)))
   | .gtr=>some (.bool (!(Op.bytesLess a b || decide (a=b))))
   | .geq=>some (.bool (!Op.bytesLess a b))
   | _=>none
 | _,_=>none
def Bf (op:UnOp) (x:V):Option V:=
 match op,x with
 | .neg,.int k n=>some (.int k (k.wrap (0 - n)))
 | .not,.bool b=>some (.bool (!b))
 | .xor,.int k n=>km .xor k (if k.signed then -1 else k.max) n
 | _,_=>none
def min2 (x y:V):Option V:=
 match x,y with
 | .int k a,.int k' b=>if k=k' then some (.int k (if b<a then b else a)) else none
 | _,_=>none
def max2 (x y:V):Option V:=
 match x,y with
 | .int k a,.int k' b=>if k=k' then some (.int k (if a<b then b else a)) else none
 | _,_=>none
def gz (f:V→V→Option V) (x:V):List V→Option V
 | []=>some x
 | y::ys=>match f x y with
   | some z=>gz f z ys
   | none=>none
def gY (f:V→V→Option V):List V→Option V
 | []=>none
 | x::xs=>gz f x xs
def oD:V→Option V
 | .nils=>some (.int .i64 0)
 | .lit _ xs=>some (.int .i64 xs.length)
 | .litk _ xs=>some (.int .i64 xs.length)
 | .sl _ _ _ len=>some (.int .i64 len)
 | _=>none
def bL (d:Nat):Option V→Option Nat
 | none=>some d
 | some (.int _ n)=>if 0≤n then some n.toNat else none
 | some _=>none
def eS (x:V) (lo hi:Option V):Option V:=
 match x with
 | .str s=>match bL 0 lo,bL s.length hi with
   | some l,some h=>if l≤h∧h≤s.length then some (.str ((s.drop l).take (h - l))) else none
   | _,_=>none
 | _=>none
def jD (sz:Nat) (x:V) (lo hi mx:Option V):Option V:=
 match x with
 | .nils=>match bL 0 lo,bL 0 hi,bL 0 mx with
   | some l,some h,some m=>if l≤h∧h≤m∧m≤0∧(hi.isSome=true∨mx.isNone=true) then some .nils else none
   | _,_,_=>none
 | .lit sz' xs=>if sz'=sz then match bL 0 lo,bL xs.length hi,mx with
    | some l,some h,none=>if l≤h∧h≤xs.length then some (.lit sz (aN xs l (h - l))) else none
    | some l,some h,some m=>match hi,bL 0 (some m) with
      | some _,some m=>if l≤h∧h≤m∧m≤xs.length then some (if m=l then .nils else .any) else none
      | _,_=>none
    | _,_,_=>none
   else none
 | _=>none
def dF:List V→List (Nat×Nat×V)→Option (List V)
 | cs,[]=>some cs
 | cs,(off,sz,v)::rest=>if v.cells.length=sz∧off+sz≤cs.length∧v.c6=true then dF (cs.take off++v.cells++cs.drop (off+sz)) rest else none
def eX:List (Nat×Nat×aW)→(List (Nat×Nat×V)→Act)→Act
 | [],k=>k []
 | (o,s,x)::ps,k=>ev x fun v=>eX ps fun vs=>k ((o,s,v)::vs)
def ee:List (Nat×aW)→(List (Nat×V)→Act)→Act
 | [],k=>k []
 | (i,x)::ps,k=>ev x fun v=>sA v fun v=>ee ps fun vs=>k ((i,v)::vs)
def iQ:List (Nat×aW)→(List (Nat×V)→Act)→Act
 | [],k=>k []
 | (i,x)::ps,k=>ev x fun v=>iQ ps fun vs=>k ((i,v)::vs)
def cg (sz:Nat):List V→List (Nat×V)→Option (List V)
 | es,[]=>some es
 | es,(i,v)::rest=>if i<es.length∧aS v sz=true then cg sz (es.set i v) rest else none
def content (sz:Nat) (x:V) (k:List V→Act):Act:=
 match x with
 | .nils=>k []
 | .lit sz' xs=>if sz'=sz then k xs else .fail
 | .sl r g off len=> .bV r fun o=>match o.es with
   | some es=>if o.gen=g∧o.sz=sz∧off+len≤es.length then k (aN es off len) else .fail
   | none=> .fail
 | .str s=>if sz=1 then k (s.map fun b=> .int .u8 b.toNat) else .fail
 | _=> .fail
def Ly (r sz:Nat) (zero:V) (n:Nat) (parts:List (Nat×aW)):Act:=ee parts fun ps=>match cg sz (List.replicate n zero) ps with
 | some es=>if aS zero sz &&decide (0 <sz∧n*sz≤16777216) then .bV r fun o=> .bI r {gen:=o.gen+1,sz,arr:=true,fz:=false,es:=some es} (.done (.sl r (o.gen+1) 0 n)) else .fail
 | none=> .fail
def zj (r sz kb:Nat) (s:V) (ys:List V):Act:=
 if ys.all (aS · sz) &&decide (0 <sz) then match s with
 | .nils=>if ys.isEmpty then .done .nils else if ys.length≤kb then
     .bV r fun o=> .bI r {gen:=o.gen+1,sz,arr:=true,fz:=false,es:=some ys} (.done (.sl r (o.gen+1) 0 ys.length)) else .fail
 | .lit sz' xs=>if ys.isEmpty then .done (.lit sz' xs) else .fail
 | .sl r' g off len=> .bV r' fun o=>match o.es with
   | some es=>if o.gen=g∧o.arr=true∧o.fz=false∧o.sz=sz∧off+len≤es.length∧len+ys.length≤kb then
         if off+len+ys.length≤es.length then
          .bI r' {o with es:=some (overwrite es (off+len) ys)} (.done (.sl r' g off (len+ys.length)))
         else
          .bI r' {o with gen:=g+1,es:=some (aN es off len++ys)} (.done (.sl r' (g+1) 0 (len+ys.length)))
     else .fail
   | none=> .fail
 | _=> .fail
 else .fail
def xV:List Nat→List V→List V
 | k::ks,c::cs=> (match k,c with
   | (k+1),.nils=> .lit (k+1) []
   | _,c=>c)::xV ks cs
 | _,cs=>cs
def A5 (ks:List Nat) (v:V):V:=match v with
 | .agg cs=> .agg (xV ks cs)
 | .nils=> (match ks with
   | (k+1)::_=> .lit (k+1) []
   | _=> .nils)
 | v=>v
def lT (v:V):Act:=match v with
 | .sl r g off len=> .bV r fun o=>match o.es with
   | some es=>if o.gen=g then gv es fun es'=> .bV r fun o'=>if o'.gen=o.gen∧o'.es.isSome=true∧es'.all (aS · o.sz)=true then .bI r {o' with es:=some es'} (.done (.sl r g off len)) else .fail else .fail
   | none=> .fail
 | v=> .done v
def CO:V→V→Option Bool
 | .int k a,.int k' b=>if k=k' then some (a==b) else none
 | .str a,.str b=>some (decide (a=b))
 | _,_=>none
def lW (k:V):List V→Option (Option V)
 | []=>some none
 | .tuple [k',v]::es=>match CO k k' with
   | some true=>some (some v)
   | some false=>lW k es
   | none=>none
 | _::_=>none
def m9 (k v:V):List V→Option (List V)
 | []=>some [.tuple [k,v]]
 | .tuple [k',v']::es=>match CO k k' with
   | some true=>some (.tuple [k,v]::es)
   | some false=> (m9 k v es).map (.tuple [k',v']:: ·)
   | none=>none
 | _::_=>none
def isKey (q:Option IntKind) (k:V):Bool:=match q,k with
 | some q,.int k _=>decide (k=q)
 | none,.str _=>true
 | _,_=>false
def jq (ok:Bool) (zero:V) (es:List V) (k:V):Act:=
 match lW k es with
 | some (some v)=> .done (if ok then .tuple [v,.bool true] else v)
 | some none=> .done (if ok then .tuple [zero,.bool false] else zero)
 | none=> .fail
def av (  E:Env):rA→Act
 | .move x=>ev x .done
 | .pick c a b=>ev c fun| .bool true=>ev a .done| .bool false=>ev b .done| _=> .fail
 | .new r sz x=>ev x fun v=>if aS v sz &&decide (0 <sz) then .bV r fun o=> .bI r {gen:=o.gen+1,sz,arr:=false,fz:=false,es:=some [v]} (.done (.ptr r (o.gen+1) 0 0)) else .fail
 | .build cells parts=>eX parts fun ps=>match dF cells ps with
   | some cs=> .done (.agg cs)
   | none=> .fail
 | .buildSlice r sz zero n parts=>ee parts fun ps=>match cg sz (List.replicate n zero) ps with
   | some es=>if aS zero sz &&decide (0 <sz∧n*sz≤16777216) then .bV r fun o=> .bI r {gen:=o.gen+1,sz,arr:=true,fz:=false,es:=some es} (.done (.sl r (o.gen+1) 0 n)) else .fail
   | none=> .fail
 | .cr r sz=>if 0 <sz then .bV r fun o=> .bI r {gen:=o.gen+1,sz,arr:=true,fz:=false,es:=some []} (.done (.sl r (o.gen+1) 0 0)) else .fail
 | .m7 r x=>ev x fun
   | .sl r1 g off len=>if r1=r then .done (.sl r1 g off len) else .bV r1 fun o=>if o.gen=g then
       .bV r fun o'=> .bI r ⟨o'.gen+1,o.sz,o.arr,o.fz,o.es⟩ (.bI r1 ⟨o.gen+1,o.sz,o.arr,o.fz,none⟩ (.done (.sl r (o'.gen+1) off len))) else .fail
   | v=> .done v
 | .makeSlice r sz bytes zero len cap=>ev len fun l=>ev cap fun c=>match l,c with
   | .int _ n,.int _ m=>if 0≤n∧n≤m∧m*bytes≤140737488355328∧aS zero sz∧0 <sz∧m≤9223372036854775807 then
       .bV r fun o=> .bI r {gen:=o.gen+1,sz,arr:=true,fz:=false,es:=some (List.replicate m.toNat zero)} (.done (.sl r (o.gen+1) 0 n.toNat)) else .fail
   | _,_=> .fail
 | .load agg sz x=>ev x fun
   | .ptr r g idx off=> .bV r fun o=>match o.es with
     | some es=>if o.gen=g then match es[idx]? with
         | some e=>cT (part agg off sz e)
         | none=> .fail
       else .fail
     | none=> .fail
   | .eptr e off=>cT (part agg off sz e)
   | .epk _ _ e off=>cT (part agg off sz e)
   | _=> .fail
 | .store agg sz x v=>ev x fun
   | .ptr r g idx off=> .bV r fun o=>if o.arr
     then ev v fun v=>sA v fun v=>kj agg sz r g idx off v
     else ev v fun v=>kj agg sz r g idx off v
   | _=> .fail
 | .nilCheck x=>ev x fun
   | .ptr r g idx off=> .done (.ptr r g idx off)
   | .eptr e off=> .done (.eptr e off)
   | .epk i z e off=> .done (.epk i z e off)
   | .fn f caps=> .done (.fn f caps)
   | _=> .fail
 | .bin op x y=>ev x fun a=>ev y fun b=>cT (b7 op a b)
 | .qp neg x y=>ev x fun a=>ev y fun b=>match a,b with
   | .bool a,.bool b=> .done (.bool ((a==b) !=neg))
   | _,_=> .fail
 | .rP neg ks x y=>ev x fun a=>ev y fun b=>match a,b with
   | .agg as,.agg bs=>match eV ks as bs with
       | some b=> .done (.bool (b !=neg))
       | none=> .fail
   | _,_=> .fail
 | .un op x=>ev x fun a=>cT (Bf op a)
 | .ef k x=>ev x fun| .int _ n=> .done (.int k (k.wrap n)) | _=> .fail
 | .rQ x=>ev x fun| .int _ n=> .done (.float (FloatKind.f64.nearest n)) | _=> .fail
 | .rR k x=>ev x fun
   | .float b=>match (FloatKind.f64.decode b).toInt .zero with
     | some n=>if k.min≤n∧n≤k.max then .done (.int k n) else .fail
     | none=> .fail
   | _=> .fail
 | .qq x=>ev x fun| .str s=> .done (.str s) | _=> .fail
 | .jo t x=>ev x fun v=> .done (.iface t v)
 | .assert t ok zero x=>ev x fun
   | .nili=>if ok then .done (.tuple [zero,.bool false]) else .fail
   | .iface t' v=>if t'=t then .done (if ok then .tuple [v,.bool true] else v) else if ok then .done (.tuple [zero,.bool false]) else .fail
   | _=> .fail
 | .ie f caps=>wF caps fun vs=> .done (.fn f vs)
 | .jK x lo hi=>ev x fun v=>vV lo fun l=>vV hi fun h=>cT (eS v l h)
 | .slice sz x lo hi mx=>ev x fun v=>vV lo fun l=>vV hi fun h=>vV mx fun m=>match v with
   | .sl r g off len=> .bV r fun o=>match o.es with
     | some es=>if o.gen=g∧o.sz=sz then
         match bL 0 l,bL len h,m with
         | some l,some h,none=>if l≤h∧off+h≤es.length then .done (.sl r g (off+l) (h - l)) else .fail
         | some l,some h',some m=>match h,bL 0 (some m) with
           | some _,some m=>if l≤h'∧h'≤m∧off+m≤es.length then .done (if m=l then .nils else .any) else .fail
           | _,_=> .fail
         | _,_,_=> .fail
       else .fail
     | none=> .fail
   | v=>cT (jD sz v l h m)
 | .fieldAddr off x=>ev x fun
   | .ptr r g idx o=> .done (.ptr r g idx (o+off))
   | .eptr e o=> .done (.eptr e (o+off))
   | .epk i z e o=> .done (.epk i z e (o+off))
   | _=> .fail
 | .field agg off sz x=>ev x fun v=>if v.isAgg then cT (part agg off sz v) else .fail
 | .indexAddr sz x i=>ev x fun v=>ev i fun i=>match v,i with
   | .sl r g off len,.int _ n=> .bV r fun o=>if 0≤n∧n<len∧o.sz=sz∧o.gen=g then .done (.ptr r g (off+n.toNat) 0) else .fail
   | .lit sz' xs,.int _ n=>if 0≤n∧sz'=sz then match xs[n.toNat]? with
       | some e=> .done (.eptr e 0)
       | none=> .fail
     else .fail
   | .litk sz' xs,.int _ n=>if 0≤n∧sz'=sz∧0 <sz then match xs[n.toNat]? with
       | some e=> .done (.epk n.toNat sz e 0)
       | none=> .fail
     else .fail
   | _,_=> .fail
 | .aU n sz x i=>ev x fun v=>ev i fun i=>match v,i with
   | .ptr r g idx off,.int _ j=>if 0≤j∧j<n then .done (.ptr r g idx (off+j.toNat*sz)) else .fail
   | .eptr e off,.int _ j=>if 0≤j∧j<n then .done (.eptr e (off+j.toNat*sz)) else .fail
   | _,_=> .fail
 | .jL x i=>ev x fun v=>ev i fun i=>match v,i with
   | .str s,.int _ n=>if 0≤n then match s[n.toNat]? with
       | some b=> .done (.int .u8 b.toNat)
       | none=> .fail
     else .fail
   | _,_=> .fail
 | .m8 agg n sz x i=>ev x fun v=>ev i fun i=>match i with
   | .int _ j=>if 0≤j∧j<n∧v.isAgg then cT (part agg (j.toNat*sz) sz v) else .fail
   | _=> .fail
 | .len x=>ev x fun v=>cT (oD v)
 | .uz x=>ev x fun| .str s=> .done (.int .i64 s.length) | _=> .fail
 | .min xs=>wF xs fun vs=>cT (gY min2 vs)
 | .max xs=>wF xs fun vs=>cT (gY max2 vs)
 | .append r sz kb s x=>ev s fun s=>ev x fun x=>content sz x fun ys=>gv ys fun ys=>
   if ys.all (aS · sz) &&decide (0 <sz) then match s with
   | .nils=>if ys.isEmpty then .done .nils else if ys.length≤kb then
       .bV r fun o=> .bI r {gen:=o.gen+1,sz,arr:=true,fz:=false,es:=some ys} (.done (.sl r (o.gen+1) 0 ys.length)) else .fail
   | .lit sz' xs=>if ys.isEmpty then .done (.lit sz' xs) else .fail
   | .sl r' g off len=> .bV r' fun o=>match o.es with
     | some es=>if o.gen=g∧o.arr=true∧o.fz=false∧o.sz=sz∧off+len≤es.length∧len+ys.length≤kb then
           if off+len+ys.length≤es.length then
            .bI r' {o with es:=some (overwrite es (off+len) ys)} (.done (.sl r' g off (len+ys.length)))
           else
            .bI r' {o with gen:=g+1,es:=some (aN es off len++ys)} (.done (.sl r' (g+1) 0 (len+ys.length)))
       else .fail
     | none=> .fail
   | _=> .fail
   else .fail
 | .copy sz d s=>ev d fun d=>ev s fun s=>content sz s fun ys=>match d with
   | .nils=> .done (.int .i64 0)
   | .sl r g off len=> .bV r fun o=>match o.es with
     | some es=>
       if o.gen=g∧o.arr=true∧o.fz=false∧o.sz=sz∧off+len≤es.length∧(ys.take len).all (aS · sz)=true then
         .bI r {o with es:=some (overwrite es off (ys.take len))} (.done (.int .i64 (ys.take len).length)) else .fail
     | none=> .fail
   | _=> .fail
 | .clear sz zero x=>ev x fun
   | .nils=> .done (.tuple [])
   | .sl r g off len=> .bV r fun o=>match o.es with
     | some es=>if o.gen=g∧o.arr=true∧o.fz=false∧o.sz=sz∧off+len≤es.length∧aS zero sz then
         .bI r {o with es:=some (overwrite es off (List.replicate len zero))} (.done (.tuple [])) else .fail
     | none=> .fail
   | _=> .fail
 | .extract x i=>ev x fun
   | .tuple vs=>cT vs[i]?
   | _=> .fail
 | .call r bK f args=>ev f fun
   | .fn f caps=>wF args fun as=>rL E r bK f (as++caps)
   | _=> .fail
 | .fY i r sz zero n parts=>ev (.tmp i) fun| .int _ j=>Ly (r+16*j.toNat) sz zero n parts| _=> .fail
 | .lS r sz kb s x=>ev s fun s=>ev x fun x=>content sz x fun ys=>zj r sz kb s ys
 | .deep x=>ev x lT
 | .sC ks agg sz x=>ev x fun
   | .ptr r g idx off=> .bV r fun o=>match o.es with
     | some es=>if o.gen=g then match es[idx]? with
         | some e=>cT ((part agg off sz e).map (A5 ks))
         | none=> .fail
       else .fail
     | none=> .fail
   | .eptr e off=>cT ((part agg off sz e).map (A5 ks))
   | .epk _ _ e off=>cT ((part agg off sz e).map (A5 ks))
   | _=> .fail
 | .fZ r sz zero n parts=>iQ parts fun ps=>match cg sz (List.replicate n zero) ps with
   | some es=>if aS zero sz &&decide (0 <sz∧n*sz≤16777216) then .bV r fun o=> .bI r {gen:=o.gen+1,sz,arr:=true,fz:=false,es:=some es} (.done (.sl r (o.gen+1) 0 n)) else .fail
   | none=> .fail
 | .mkMap r=> .bV r fun o=> .bI r {gen:=o.gen+1,sz:=0,arr:=false,fz:=false,es:=some []} (.done (.mp r (o.gen+1)))
 | .rS q x k v=>ev x fun
   | .mp r g=>ev k fun k=>ev v fun v=>sA v fun v=> .bV r fun o=>match o.es with
     | some es=>if o.gen=g∧o.sz=0∧o.fz=false∧isKey q k=true∧v.c6=true then(match m9 k v es with
         | some es'=> .bI r {o with es:=some es'} (.done (.tuple []))
         | none=> .fail) else .fail
     | none=> .fail
   | _=> .fail
 | .uA q ok zero x k=>ev x fun x=>ev k fun k=>if isKey q k then(match x with
   | .mp r g=> .bV r fun o=>match o.es with
     | some es=>if o.gen=g∧o.sz=0 then jq ok zero es k else .fail
     | none=> .fail
   | .mlit es=>jq ok zero es k
   | _=> .fail) else .fail
 | .xN x=>ev x fun v=> (match v with
   | .fn .. =>snap v fun v' rs=>cp rs (.done v')
   | _=>sA v .done)
 | .qt r x=>ev x fun
   | .str s=> .bV r fun o=> .bI r {gen:=o.gen+1,sz:=0,arr:=false,fz:=false,es:=some [.str s,.int .i64 0]} (.done (.it r (o.gen+1)))
   | _=> .fail
 | .qu x=>  ev x fun
   | .it r g=> .bV r fun o=>match o.es with
     | some [.str s,.int .i64 p]=>if o.gen=g∧o.sz=0∧o.fz=false then
         (if p.toNat<s.length then .bI r {o with es:=some [.str s,.int .i64 ((p.toNat+(Utf8.decode ⟨s.toArray⟩ p.toNat).2:Nat):Int)]}
           (.done (.tuple [.bool true,.int .i64 (p.toNat:Int),.int .i32 ((Utf8.decode ⟨s.toArray⟩ p.toNat).1:Int)]))
         else .done (.tuple [.bool false])) else .fail
     | _=> .fail
   | _=> .fail
 | .To neg ks x y=>ev x fun a=>ev y fun b=>match a,b with
   | .iface t p,.iface t' q=>if t=t' then(match pn t ks with
       | some k=> (match v8 k p q with
         | some b=> .done (.bool (b !=neg))
         | none=> .fail)
       | none=> .fail) else .fail
   | .nili,.iface _ _=> .done (.bool neg)
   | .iface _ _,.nili=> .done (.bool neg)
   | _,_=> .fail
 | .MZ neg x y=>ev x fun a=>ev y fun b=>cT ((CL a b).map fun c=> .bool (c !=neg))
 | .mapIter r x=>ev x fun
   | .mlit es=> .bV r fun o=> .bI r {gen:=o.gen+1,sz:=0,arr:=false,fz:=false,es:=some [.mlit es]} (.done (.it r (o.gen+1)))
   | _=> .fail
 | .bad=> .fail
where
 kj ( agg:Bool) (sz r g idx off:Nat) (v:V):Act:=
  .bV r fun o=>match o.es with
   | some es=>if o.gen=g∧o.fz=false then match es[idx]? with
       | some e=>match da agg off sz e v with
         | some e'=> .bI r {o with es:=some (es.set idx e')} (.done (.tuple []))
         | none=> .fail
       | none=> .fail
     else .fail
   | none=> .fail
def dM (E:Env) (o:bD):Act:=
 match o.guard with
 | none=>av E o.op
 | some (t,want)=> .mL t fun
   | .bool b=>if b=want then av E o.op else .done dX
   | .tuple []=> .done dX
   | _=> .fail
structure St where
 T:Nat→V
 O:Nat→Obj
def dn {α:Type} (f:Nat→α) (t:Nat) (v:α):Nat→α:=fun n=>if n=t then v else f n
abbrev bj:=Nat→List V→Option fL
def Act.run (C:bj):Act→St→Option (V×St)
 | .done v,σ=>some (v,σ)
 | .fail,_=>none
 | .mL t k,σ=> (k (σ.T t)).run C σ
 | .bV r k,σ=> (k (σ.O r)).run C σ
 | .bI r o k,σ=>k.run C {σ with O:=dn σ.O r o}
 | .call f as k,σ=>match C f as with
   | some res=> (k res).run C σ
   | none=>none
def St.put (σ:St) (dst:Option Nat) (v:V):St:=
 match dst with
 | some d=> {σ with T:=dn σ.T d v}
 | none=>σ
def eM (E:Env) (C:bj) (o:bD) (σ:St):Option St:=
 match (dM E o).run C σ with
 | some (v,σ')=>some (σ'.put o.dst v)
 | none=>none
def iX (E:Env) (C:bj):List bD→St→Option St
 | [],σ=>some σ
 | o::os,σ=>match eM E C o σ with
   | some σ'=>iX E C os σ'
   | none=>none
inductive Loc where
 | t (n:Nat)
 | o (n:Nat)
 deriving DecidableEq
structure eD where
 reads:List Loc
 writes:List Loc
def Act.dW (C:bj):Act→St→eD
 | .done _,_=> ⟨[],[]⟩
 | .fail,_=> ⟨[],[]⟩
 | .mL t k,σ=>let f:=(k (σ.T t)).dW C σ; ⟨.t t::f.reads,f.writes⟩
 | .bV r k,σ=>let f:=(k (σ.O r)).dW C σ; ⟨.o r::f.reads,f.writes⟩
 | .bI r o k,σ=>let f:=k.dW C {σ with O:=dn σ.O r o}; ⟨f.reads,.o r::f.writes⟩
 | .call f as k,σ=>match C f as with
   | some res=> (k res).dW C σ
   | none=> ⟨[],[]⟩
def cS (E:Env) (C:bj) (o:bD) (σ:St):eD:=
 let f:=(dM E o).dW C σ
 ⟨f.reads,(match o.dst with| some d=> [.t d] | none=> [])++f.writes⟩
def meets (a b:List Loc):Bool:=a.any b.contains
def eD.mA (a b:eD):Bool:=meets a.writes b.writes || meets a.writes b.reads || meets a.reads b.writes
def closure (before:List (List Nat)) (pre:List Nat):List Nat:=pre++pre.flatMap fun i=>before.getD i []
def fits (bY:List eD) (wait:List Nat) (f:eD):Nat→Bool
 | 0=>true
 | i+1=> (wait.contains i || !(bY.getD i ⟨[],[]⟩).mA f) &&fits bY wait f i
def dP (E:Env) (C:bj):List bD→List eD→List (List Nat)→St→Option St
 | [],_,_,σ=>some σ
 | o::os,bY,before,σ=>
   let f:=cS E C o σ
   let wait:=closure before o.pre
   if fits bY wait f bY.length &&o.pre.all (· <bY.length) then
    match eM E C o σ with
    | some σ'=>dP E C os (bY++[f]) (before++[wait]) σ'
    | none=>none
   else none
inductive bd where
 | normal
 | exit (id:Nat)
 | ret
def bo (σ:St):aW→V
 | .tmp t=>σ.T t
 | .const v=>v
mutual
def V.beq:V→V→Bool
 | .bool a,.bool b=>a==b
 | .int k n,.int k' n'=>decide (k=k') &&decide (n=n')
 | .float a,.float b=>Nat.beq a b
 | .str a,.str b=>decide (a=b)
 | .agg a,.agg b=>V.mN a b
 | .tuple a,.tuple b=>V.mN a b
 | .nilp,.nilp=>true
 | .nilfn,.nilfn=>true
 | .nili,.nili=>true
 | .fn f a,.fn g b=>Nat.beq f g &&V.mN a b
 | .iface t a,.iface t' b=>Nat.beq t t' &&V.beq a b
 | .nils,.nils=>true
 | .lit s a,.lit s' b=>Nat.beq s s' &&V.mN a b
 | .own s a,.own s' b=>Nat.beq s s' &&V.mN a b
 | .sl a b c d,.sl a' b' c' d'=>Nat.beq a a' && (Nat.beq b b' && (Nat.beq c c' &&Nat.beq d d'))
 | .ptr a b c d,.ptr a' b' c' d'=>Nat.beq a a' && (Nat.beq b b' && (Nat.beq c c' &&Nat.beq d d'))
 | .eptr e a,.eptr e' a'=>V.beq e e' &&Nat.beq a a'
 | .mp a b,.mp a' b'=>Nat.beq a a' &&Nat.beq b b'
 | .mlit a,.mlit b=>V.mN a b
 | .it a b,.it a' b'=>Nat.beq a a' &&Nat.beq b b'
 | .litk s a,.litk s' b=>Nat.beq s s' &&V.mN a b
 | .epk a b e c,.epk a' b' e' c'=>Nat.beq a a' && (Nat.beq b b' && (V.beq e e' &&Nat.beq c c'))
 | .any,.any=>true
 | .msl s a b c,.msl s' a' b' c'=>Nat.beq s s' && (V.mN a a' && (Nat.beq b b' &&Nat.beq c c'))
 | .mptr s a b c,.mptr s' a' b' c'=>Nat.beq s s' && (V.mN a a' && (Nat.beq b b' &&Nat.beq c c'))
 | _,_=>false
def V.mN:List V→List V→Bool
 | [],[]=>true
 | a::as,b::bs=>V.beq a b &&V.mN as bs
 | _,_=>false
end
def Gh:Option (List V)→Option (List V)→Bool
 | none,none=>true
 | some a,some b=>V.mN a b
 | _,_=>false
def Obj.beq (a b:Obj):Bool:=Nat.beq a.gen b.gen && (Nat.beq a.sz b.sz && ((a.arr==b.arr) && ((a.fz==b.fz) &&Gh a.es b.es)))
def lX {α:Type} (x:α):List α→List (List α)
 | []=> [[x]]
 | y::ys=> (x::y::ys):: (lX x ys).map (y:: ·)
def perms {α:Type}:List α→List (List α)
 | []=> [[]]
 | x::xs=> (perms xs).flatMap (lX x)
def tG (it r g:Nat) (σ:St):Bool:=match σ.T it with
 | .it r' g'=>Nat.beq r' r && (Nat.beq g' g &&Nat.beq (σ.O r).gen g)
 | _=>false
def runK (rec:al→St→Option (bd×St)) (it r g nx ne id:Nat) (ahead body last:al):List V→St→Option St
 | [],σ=>  if tG it r g σ then(match rec ahead (σ.put (some nx) (.tuple [.bool false])) with
     | some (.exit ka,σ')=>if ka=id then(match rec last σ' with
          | some (.normal,σ'')=>some σ''
          | _=>none) else none
     | _=>none) else none
 | e::p,σ=>match e with
   | .tuple [k,v]=>if tG it r g σ then(match rec ahead (σ.put (some nx) (.tuple [.bool true,k,v])) with
      |   some (.normal,σ1)=>if tG it r g σ1 then(match rec body (σ1.put (some ne) (.tuple [k,v])) with
          | some (.normal,σ')=>runK rec it r g nx ne id ahead body last p σ'
          | _=>none) else none
      | _=>none) else none
   | _=>none
def jr {α β:Type} (f:α→Option β):List α→Option (List β)
 | []=>some []
 | x::xs=>match f x,jr f xs with
   | some y,some ys=>some (y::ys)
   | _,_=>none
def qx (kT kO:List Nat) (σ1 σ:St):Bool:=kT.all (fun t=>V.beq (σ.T t) (σ1.T t)) &&kO.all fun r=>Obj.beq (σ.O r) (σ1.O r)
def forget (kT kO:List Nat) (σ1:St) (σs:List St):St:=
 {T:=fun t=>if kT.contains t then σ1.T t else .any
  O:=fun r=>if kO.contains r then σ1.O r else {gen:=(σ1::σs).foldr (fun σ m=>max (σ.O r).gen m) 0+1,sz:=0,arr:=false,fz:=false,es:=none}}
def na (T:Nat→V) (ps:List Nat) (x:List V):Nat→V:=(ps.zip x).foldl (fun T p=>dn T p.1 p.2) T
def qv (rec:al→St→Option (bd×St)) (ps:List Nat) (Tu body:al) (T:Nat→V):List (List V)→(Nat→Obj)→Option (bd×St)
 | [],O=>some (.normal,⟨T,O⟩)
 | x::xs,O=>match rec Tu ⟨na T ps x,O⟩ with
   | some (.normal,σ1)=>match rec body σ1 with
     | some (.normal,σ2)=>qv rec ps Tu body T xs σ2.O
     | some (e,σ2)=>some (e,⟨T,σ2.O⟩)
     | none=>none
   | _=>none
def aJ ( E:Env) (C:bj) (rec:al→St→Option (bd×St)):al→St→Option (bd×St)
 | .skip,σ=>some (.normal,σ)
 | .region ops,σ=> (iX E C ops σ).map fun σ=> (.normal,σ)
 | .drawn ops,σ=> (dP E C ops [] [] σ).map fun σ=> (.normal,σ)
 | .seq a b,σ=>match rec a σ with
   | some (.normal,σ')=>rec b σ'
   | r=>r
 | .cond c a b,σ=>match bo σ c with
   | .bool true=>rec a σ
   | .bool false=>rec b σ
   | _=>none
 | .block id b,σ=>match rec b σ with
   | some (.exit ka,σ')=>if ka=id then some (.normal,σ') else some (.exit ka,σ')
   | r=>r
 | .loop b,σ=>match rec b σ with
   | some (.normal,σ')=>rec (.loop b) σ'
   | r=>r
 | .exit id,σ=>some (.exit id,σ)
 | .ret,σ=>some (.ret,σ)
 | .scope b,σ=>rec b σ
 | .bad,_=>none
 | .keys it nx ne id kT kO ahead body last,σ=>match σ.T it with
   | .it r g=> (match (σ.O r).es with
     | some [.mlit es]=>if (σ.O r).gen=g∧(σ.O r).sz=0∧(σ.O r).fz=false then
        (match jr (fun p=>runK rec it r g nx ne id ahead body last p ⟨σ.T,dn σ.O r ⟨g,0,false,false,none⟩⟩) (perms es) with
        | some (σ1::σs)=>if σs.all (qx kT kO σ1) then some (.normal,forget kT kO σ1 σs) else none
        | _=>none) else none
     | _=>none)
   | _=>none
 | .kF x ps Tu body,σ=>match bo σ x with
   | .fn g caps=>match E.iter g caps with
     | some xs=>if xs.all (fun x=>Nat.beq x.length ps.length)=true then qv rec ps Tu body σ.T xs σ.O else none
     | none=>none
   | _=>none
def bJ:Obj:={gen:=0,sz:=0,arr:=false,fz:=false,es:=none}
def enter (args:List V):St:=
 {T:=fun t=>match args[t]? with
   | some (.msl _ _ off len)=> .sl t 0 off len
   | some (.mptr _ _ idx off)=> .ptr t 0 idx off
   | some v=>v
   | none=>dX
  O:=fun r=>match args[r]? with
   | some (.msl sz es _ _)=> {gen:=0,sz,arr:=true,fz:=false,es:=some es}
   | some (.mptr sz es _ _)=> {gen:=0,sz,arr:=false,fz:=false,es:=some es}
   | _=>bJ}
def bO (n:Nat) (σ:St) (c:V):Option (V×List Nat):=
 match c with
 | .sl r g off len=>match (σ.O r).es with
   | some es=>if (σ.O r).gen=g∧off+len≤es.length∧(σ.O r).arr=true∧V.an (aN es off len)=true then
      if r<n then some (.sl r g off len,[r])
      else if (σ.O r).fz then some (.lit (σ.O r).sz (aN es off len),[]) else some (.own (σ.O r).sz (aN es off len),[r])
     else none
   | none=>none
 | c=>if c.aC then some (c,[]) else none
def bE (n:Nat) (σ:St):List V→Option (List V×List Nat)
 | []=>some ([],[])
 | c::cs=>match bO n σ c,bE n σ cs with
   | some (c',r),some (cN,rs)=>some (c'::cN,r++rs)
   | _,_=>none
def cL (n:Nat) (σ:St) (v:V):Option (V×List Nat):=
 if v.aC then some (v,[]) else
 match v with
 | .agg cs=>match bE n σ cs with
   | some (cN,rs)=>some (.agg cN,rs)
   | none=>none
 | .fn f cs=>match bE n σ cs with
   | some (cN,rs)=>if V.an cN then some (.fn f cN,rs) else none
   | none=>none
 | v=>bO n σ v
def cm (n:Nat) (σ:St):List V→Option (List V×List Nat)
 | []=>some ([],[])
 | c::cs=>match cL n σ c,cm n σ cs with
   | some (c',r),some (cN,rs)=>some (c'::cN,r++rs)
   | _,_=>none
def eP ( σ:St):qh→Option V
 | .tmp t=>some (σ.T t)
 | .cell t agg sz=>match σ.T t with
   | .ptr r g idx off=>match (σ.O r).es with
     | some es=>if (σ.O r).gen=g then match es[idx]? with
        | some e=>part agg off sz e
        | none=>none
       else none
     | none=>none
   | _=>none
def cW (σ:St):List qh→Option (List V)
 | []=>some []
 | r::rs=>match eP σ r,cW σ rs with
   | some v,some vs=>some (v::vs)
   | _,_=>none
def bW (O:Nat→Obj):Nat→List V→Option (List (Nat×List V))
 | _,[]=>some []
 | i,.msl sz .. ::as| i,.mptr sz .. ::as=>match (O i).es,bW O (i+1) as with
   | some es,some outs=>if (O i).fz=false∧(O i).sz=sz∧V.an es=true then some (((O i).gen,es)::outs) else none
   | _,_=>none
 | i,_::as=>bW O (i+1) as
mutual
def V.erase:V→V
 | .litk sz xs=> .lit sz (V.erases xs)
 | .epk _ _ e off=> .eptr (V.erase e) off
 | .agg cs=> .agg (V.erases cs)
 | .tuple cs=> .tuple (V.erases cs)
 | .fn f cs=> .fn f (V.erases cs)
 | .iface t v=> .iface t (V.erase v)
 | .lit sz xs=> .lit sz (V.erases xs)
 | .own sz xs=> .own sz (V.erases xs)
 | .eptr e off=> .eptr (V.erase e) off
 | .mlit es=> .mlit (V.erases es)
 | .msl sz es off len=> .msl sz es off len
 | .mptr sz es idx off=> .mptr sz es idx off
 | .bool b=> .bool b
 | .int k n=> .int k n
 | .float b=> .float b
 | .str s=> .str s
 | .nilp=> .nilp
 | .nilfn=> .nilfn
 | .nili=> .nili
 | .nils=> .nils
 | .sl r g off len=> .sl r g off len
 | .ptr r g idx off=> .ptr r g idx off
 | .mp r g=> .mp r g
 | .it r g=> .it r g
 | .any=> .any
def V.erases:List V→List V
 | []=> []
 | v::vs=>V.erase v::V.erases vs
end
def uF (v:V):V:=match v with
 | .lit sz xs=> .litk sz xs
 | v=>v
def zk (c:Nat) (v:V):V:=match v with
 | .agg cs=> .agg (cs.modify c uF)
 | v=>v
def dp (p:Nat×Nat) (args:List V):List V:=(V.erases args).modify p.1 (zk p.2)
def leave (af:aF) (args:List V) (σ:St):Option fL:=
 match cW σ af.results,bW σ.O 0 args with
 | some vs,some outs=>match cm args.length σ vs with
   | some ([v],rs)=>if distinct rs then some ⟨v,outs⟩ else none
   | some (vs,rs)=>if distinct rs then some ⟨.tuple vs,outs⟩ else none
   | none=>none
 | _,_=>none
def kE ( E:Env) (rec:al→St→Option (bd×St)):bj:=fun f args=>
 match E.ext f args with
 | some r=>some r
 | none=>match E.fn f with
   | some af=>if args.length=af.nparams then match af.tag with
      | none=> (match rec af.body (enter args) with
        | some (.normal,σ) | some (.ret,σ)=>leave af args σ
        | _=>none)
      | some p=>if V.an args=true then(match rec af.body (enter (dp p args)) with
        | some (.normal,σ) | some (.ret,σ)=> (leave af (dp p args) σ).map fun res=> ⟨res.val.erase,[]⟩
        | _=>none) else none
     else none
   | none=>none
def dm (E:Env) (rec:al→St→Option (bd×St)):bj:=fun f args=>
 match E.hyb f with
 | some h=>h (kE E rec) args
 | none=>kE E rec f args
def exec (E:Env):Nat→al→St→Option (bd×St)
 | 0=>fun _ _=>none
 | n+1=>aJ E (dm E (exec E n)) (exec E n)
def call (E:Env) (n:Nat):bj:=dm E (exec E n)
end Go.AM
namespace Go.AM
mutual
theorem V.beq_eq: ∀ {a b:V},V.beq a b=true→a=b
 | .bool _,b,h| .int ..,b,h| .float _,b,h| .str _,b,h| .nilp,b,h| .nilfn,b,h| .nili,b,h| .nils,b,h| .any,b,h=>by
   cases b<;>simp_all[V.beq]
 | .sl ..,b,h| .ptr ..,b,h| .mp ..,b,h| .it ..,b,h=>by
   cases b<;>simp_all[V.beq]
 | .msl s as o l,b,h=>by
   cases b<;>simp only[V.beq,Bool.and_eq_true,Nat.beq_eq,reduceCtorEq,Bool.false_eq_true] at h
   rw[h.1,V.fM h.2.1,h.2.2.1,h.2.2.2]
 | .mptr s as o l,b,h=>by
   cases b<;>simp only[V.beq,Bool.and_eq_true,Nat.beq_eq,reduceCtorEq,Bool.false_eq_true] at h
   rw[h.1,V.fM h.2.1,h.2.2.1,h.2.2.2]
 | .agg as,b,h=>by
   cases b<;>simp only[V.beq,reduceCtorEq,Bool.false_eq_true] at h
   rw[V.fM h]
 | .tuple as,b,h=>by
   cases b<;>simp only[V.beq,reduceCtorEq,Bool.false_eq_true] at h
   rw[V.fM h]
 | .mlit as,b,h=>by
   cases b<;>simp only[V.beq,reduceCtorEq,Bool.false_eq_true] at h
   rw[V.fM h]
 | .fn f as,b,h=>by
   cases b<;>simp only[V.beq,Bool.and_eq_true,Nat.beq_eq,reduceCtorEq,Bool.false_eq_true] at h
   rw[h.1,V.fM h.2]
 | .iface t a,b,h=>by
   cases b<;>simp only[V.beq,Bool.and_eq_true,Nat.beq_eq,reduceCtorEq,Bool.false_eq_true] at h
   rw[h.1,V.beq_eq h.2]
 | .lit s as,b,h=>by
   cases b<;>simp only[V.beq,Bool.and_eq_true,Nat.beq_eq,reduceCtorEq,Bool.false_eq_true] at h
   rw[h.1,V.fM h.2]
 | .litk s as,b,h=>by
   cases b<;>simp only[V.beq,Bool.and_eq_true,Nat.beq_eq,reduceCtorEq,Bool.false_eq_true] at h
   rw[h.1,V.fM h.2]
 | .own s as,b,h=>by
   cases b<;>simp only[V.beq,Bool.and_eq_true,Nat.beq_eq,reduceCtorEq,Bool.false_eq_true] at h
   rw[h.1,V.fM h.2]
 | .eptr e o,b,h=>by
   cases b<;>simp only[V.beq,Bool.and_eq_true,Nat.beq_eq,reduceCtorEq,Bool.false_eq_true] at h
   rw[h.2,V.beq_eq h.1]
 | .epk i z e o,b,h=>by
   cases b<;>simp only[V.beq,Bool.and_eq_true,Nat.beq_eq,reduceCtorEq,Bool.false_eq_true] at h
   rw[h.1,h.2.1,V.beq_eq h.2.2.1,h.2.2.2]
theorem V.fM: ∀ {a b:List V},V.mN a b=true→a=b
 | [],[],_=>rfl
 | [],_::_,h=>by simp[V.mN] at h
 | _::_,[],h=>by simp[V.mN] at h
 | a::as,b::bs,h=>by
   simp only[V.mN,Bool.and_eq_true] at h
   rw[V.beq_eq h.1,V.fM h.2]
end
theorem Obj.beq_eq {a b:Obj} (h:Obj.beq a b=true):a=b:=by
 obtain⟨g,s,r,f,es⟩:=a
 obtain⟨g',s',r',f',es'⟩:=b
 simp only[Obj.beq,Bool.and_eq_true,Nat.beq_eq,beq_iff_eq] at h
 obtain⟨rfl,rfl,rfl,rfl,h⟩:=h
 congr 1
 unfold Gh at h
 split at h
 · rfl
 · rw[V.fM h]
 · simp at h
section
variable {α β:Type}
theorem uH {x:α}: ∀ {a b:List α},a++x::b ∈ lX x (a++b)
 | [],[]=>by simp[lX]
 | [],y::ys=>by simp[lX]
 | y::a,b=>by
   simp only[List.cons_append,lX,List.mem_cons,List.mem_map]
   exact .inr ⟨_,uH,rfl⟩
theorem nb: ∀ {l p:List α},p.Perm l→p ∈ perms l
 | [],p,h=>by rw[h.eq_nil];simp[perms]
 | x::xs,p,h=>by
   obtain⟨a,b,rfl⟩:=List.append_of_mem (h.mem_iff.2 (by simp):x ∈ p)
   have h': (a++b).Perm xs:=List.Perm.cons_inv (List.perm_middle.symm.trans h)
   simp only[perms,List.mem_flatMap]
   exact⟨a++b,nb h',uH⟩
theorem sI {f:α→Option β}: ∀ {l:List α} {ys:List β},jr f l=some ys→ ∀x ∈ l,∃y ∈ ys,f x=some y
 | [],ys,_,x,hx=>by simp at hx
 | a::l,ys,h,x,hx=>by
   simp only[jr] at h
   split at h
   · rename_i y ys' h1 h2
     injection h with h;subst h
     rcases List.mem_cons.1 hx with rfl| hx
     · exact⟨y,by simp,h1⟩
     · obtain⟨z,hz,e⟩:=sI h2 x hx
       exact⟨z,by simp[hz],e⟩
   · simp at h
theorem lI {f f':α→Option β} (h: ∀x y,f x=some y→f' x=some y): ∀ {l:List α} {ys:List β},jr f l=some ys→jr f' l=some ys
 | [],ys,e=>e
 | a::l,ys,e=>by
   simp only[jr] at e ⊢
   split at e
   · rename_i y ys' h1 h2
     rw[h _ _ h1,lI h h2];exact e
   · simp at e
end
theorem nU {  r r':al→St→Option (bd×St)} (h: ∀c σ x,r c σ=some x→r' c σ=some x) {it ri g nx ne id:Nat} {ahead body last:al}: ∀ {p:List V} {σ σ':St},runK r it ri g nx ne id ahead body last p σ=some σ'→runK r' it ri g nx ne id ahead body last p σ=some σ'
 | [],σ,σ',e=>by
   simp only[runK] at e ⊢
   split at e
   · rename_i hi
     rw[if_pos hi]
     split at e
     · rename_i ka σ1 h1
       rw[h _ _ _ h1]
       simp only
       split at e
       · rename_i Tv
         rw[if_pos Tv]
         split at e
         · rename_i σ2 h2
           rw[h _ _ _ h2];exact e
         · simp at e
       · simp at e
     · simp at e
   · simp at e
 | x::p,σ,σ',e=>by
   simp only[runK] at e ⊢
   split at e
   · split at e
     · rename_i hi
       rw[if_pos hi]
       split at e
       · rename_i σ1 h1
         rw[h _ _ _ h1]
         simp only
         split at e
         · rename_i rB
           rw[if_pos rB]
           split at e
           · rename_i σ2 h2
             rw[h _ _ _ h2]
             exact nU h e
           · simp at e
         · simp at e
       · simp at e
     · simp at e
   · simp at e
theorem rD {r r':al→St→Option (bd×St)} (h: ∀c σ x,r c σ=some x→r' c σ=some x) {ps:List Nat} {a b:al} {T:Nat→V}: ∀ {xs:List (List V)} {O:Nat→Obj} {y},qv r ps a b T xs O=some y→qv r' ps a b T xs O=some y
 | [],O,y,e=>by simpa [qv] using e
 | x::xs,O,y,e=>by
   simp only[qv] at e ⊢
   split at e
   · rename_i σ1 h1
     rw[h _ _ _ h1]
     simp only
     split at e
     · rename_i σ2 h2
       rw[h _ _ _ h2];exact rD h e
     · rename_i e2 σ2 hn h2
       rw[h _ _ _ h2]
       simp only
       cases e2 with
       | normal=>exact absurd rfl (hn ·)
       | exit id=>exact e
       | ret=>exact e
     · simp at e
   · simp at e
theorem qA {α:Type} (f:α→Nat): ∀ {l:List α} {x:α},x ∈ l→f x≤l.foldr (fun x m=>max (f x) m) 0
 | a::l,x,h=>by
   simp only[List.foldr_cons]
   rcases List.mem_cons.1 h with rfl| h
   · exact Nat.le_max_left ..
   · exact Nat.le_trans (qA f h) (Nat.le_max_right ..)
end Go.AM
