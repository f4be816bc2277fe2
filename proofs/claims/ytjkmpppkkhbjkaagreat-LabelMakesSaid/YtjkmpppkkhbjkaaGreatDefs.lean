/-
  Texts of the proof: AmDefs, AmKeys.
-/
import GoSem.Step
set_option linter.unusedSimpArgs false
set_option linter.unusedVariables false
namespace Go.AM
inductive V where
 | bool (b:Bool)
 | int (k:IntKind) (n:Int)
 | float (bits:Nat)
 | str (s:List UInt8)
 | agg (cs:List V)
 | tuple (vs:List V)
 | nilp| nilfn| nili
 | fn (f:Nat) (caps:List V)
 | bfn (f:Nat) (first:List V)
 | iface (t:Nat) (v:V)
 | nils
 | lit (sz:Nat) (xs:List V)
 | own (sz:Nat) (xs:List V)
 | sl (r g off len:Nat)
 | ptr (r g idx off:Nat)
 | eptr (e:V) (off:Nat)
 | mp (r g:Nat)
 | mlit (es:List V)
 | it (r g:Nat)
 | litk (sz:Nat) (xs:List V)
 | epk (i sz:Nat) (e:V) (off:Nat)
 | msl (sz:Nat) (es:List V) (off len:Nat)
 | mptr (sz:Nat) (es:List V) (idx off:Nat)
 | any
 deriving Inhabited
def dC:V:= .tuple []
structure Obj where
 gen:Nat
 sz:Nat
 arr:Bool
 fz:Bool
 es:Option (List V)
structure dk where
 val:V
 outs:List (Nat×List V)
inductive aQ where
 | tmp (t:Nat)
 | const (v:V)
inductive rP where
 | move (x:aQ)
 | pick (c a b:aQ)
 | new (r sz:Nat) (x:aQ)
 | build (cells:List V) (parts:List (Nat×Nat×aQ))
 | buildSlice (r sz:Nat) (zero:V) (n:Nat) (parts:List (Nat×aQ))
 | pJ (r sz:Nat)
 | YI (r:Nat) (x:aQ)
 | makeSlice (r sz bytes:Nat) (zero:V) (len cap:aQ)
 | load (agg:Bool) (sz:Nat) (x:aQ)
 | store (agg:Bool) (sz:Nat) (x v:aQ)
 | nilCheck (x:aQ)
 | bin (op:BinOp) (x y:aQ)
 | NO (neg:Bool) (x y:aQ)
 | Nl (neg:Bool) (ks:List Nat) (x y:aQ)
 | un (op:UnOp) (x:aQ)
 | pK (k:IntKind) (x:aQ)
 | tT (x:aQ)
 | tU (k:IntKind) (x:aQ)
 | pL (x:aQ)
 | pM (t:Nat) (x:aQ)
 | assert (t:Nat) (YP:Bool) (zero:V) (x:aQ)
 | tV (f:Nat) (caps:List aQ)
 | slice (sz:Nat) (x:aQ) (lo hi mx:Option aQ)
 | je (x:aQ) (lo hi:Option aQ)
 | fieldAddr (off:Nat) (x:aQ)
 | field (agg:Bool) (off sz:Nat) (x:aQ)
 | indexAddr (sz:Nat) (x i:aQ)
 | mc (n sz:Nat) (x i:aQ)
 | mf (x i:aQ)
 | mg (agg:Bool) (n sz:Nat) (x i:aQ)
 | len (x:aQ)
 | tW (x:aQ)
 | min (xs:List aQ)
 | max (xs:List aQ)
 | append (r sz gr:Nat) (s x:aQ)
 | copy (sz:Nat) (d s:aQ)
 | clear (sz:Nat) (zero:V) (x:aQ)
 | extract (x:aQ) (i:Nat)
 | call (r:Nat) (bg:Bool) (f:aQ) (args:List aQ)
 | hY (i r sz:Nat) (zero:V) (n:Nat) (parts:List (Nat×aQ))
 | pN (r sz gr:Nat) (s x:aQ)
 | deep (x:aQ)
 | we (ks:List Nat) (agg:Bool) (sz:Nat) (x:aQ)
 | mkMap (r:Nat)
 | qW (q:Option IntKind) (x k v:aQ)
 | tX (q:Option IntKind) (ok:Bool) (zero:V) (x k:aQ)
 | Fh (x:aQ)
 | pO (r:Nat) (x:aQ)
 | pP (x:aQ)
 | ia (r sz:Nat) (zero:V) (n:Nat) (parts:List (Nat×aQ))
 | NP (neg:Bool) (ks:List (Nat×Nat)) (x y:aQ)
 | Lm (neg:Bool) (x y:aQ)
 | mapIter (r:Nat) (x:aQ)
 | mi (x:aQ)
 | mj (x:aQ)
 | pQ (f:Nat) (first:List aQ)
 | Fi (r sz:Nat) (x:aQ)
 | pR (f:Nat) (caps:List (Bool×aQ))
 | pS (r g N sz:Nat) (s x:aQ)
 | pT (m r g N sz gr:Nat) (s x:aQ)
 | bad
structure bJ where
 dst:Option Nat
 op:rP
 guard:Option (Nat×Bool)
 pre:List Nat
inductive aW where
 | skip
 | region (ops:List bJ)
 | drawn (ops:List bJ)
 | seq (a b:aW)
 | cond (c:aQ) (a b:aW)
 | block (id:Nat) (b:aW)
 | loop (b:aW)
 | exit (id:Nat)
 | ret
 | scope (b:aW)
 | bad
 | keys (it nx ne id:Nat) (kT kO:List Nat) (ahead body last:aW)
 | lY (x:aQ) (ps:List Nat) (PB body:aW)
inductive pB where
 | tmp (t:Nat)
 | cell (t:Nat) (agg:Bool) (sz:Nat)
structure aA where
 nparams:Nat
 ntmps:Nat
 fJ:List (Option Nat)
 results:List pB
 body:aW
 tag:Option (Nat×Nat):=none
structure Env where
 fn:Nat→Option aA
 ext:Nat→List V→Option dk
 hyb:Nat→Option ((Nat→List V→Option dk)→List V→Option dk):=fun _=>none
 mono: ∀f h,hyb f=some h→ ∀ (C C':Nat→List V→Option dk),(∀g vs r,C g vs=some r→C' g vs=some r)→ ∀vs r,h C vs=some r→h C' vs=some r:=by exact fun _ _ h=>nomatch h
 iter:Nat→List V→Option (List (List V)):=fun _ _=>none
def V.cells:V→List V
 | .agg cs=>cs
 | v=> [v]
def V.isAgg:V→Bool
 | .agg _=>true
 | _=>false
def V.isTuple:V→Bool
 | .tuple _=>true
 | _=>false
def V.aK:V→Bool
 | .agg _| .tuple _| .any| .own .. | .msl .. | .mptr .. =>false
 | _=>true
mutual
def V.aB:V→Bool
 | .bool _| .int .. | .float _| .str _| .nilp| .nilfn| .nili| .nils| .lit .. | .eptr .. | .litk .. | .epk .. | .any=>true
 | .agg cs=>V.aq cs
 | .tuple cs=>V.aq cs
 | .mlit es=>V.aq es
 | .fn _ caps=>V.aq caps
 | .bfn _ caps=>V.aq caps
 | .iface _ v=>V.aB v
 | .own .. | .sl .. | .ptr .. | .mp .. | .it .. | .msl .. | .mptr .. =>false
def V.aq:List V→Bool
 | []=>true
 | c::cs=>V.aB c &&V.aq cs
end
mutual
def V.isScalar:V→Bool
 | .bool _| .int .. | .float _| .str _| .nilp| .nilfn| .nili| .nils=>true
 | .agg cs=>V.bb cs
 | .tuple cs=>V.bb cs
 | _=>false
def V.bb:List V→Bool
 | []=>true
 | c::cs=>V.isScalar c &&V.bb cs
end
def part (agg:Bool) (off sz:Nat) (e:V):Option V:=
 match agg,e with
 | true,.agg cs=>if off+sz≤cs.length then some (.agg ((cs.drop off).take sz)) else none
 | true,_=>none
 | false,.agg cs=>cs[off]?
 | false,v=>if v.aK∧off=0 then some v else none
def cP (agg:Bool) (off sz:Nat) (e v:V):Option V:=
 match agg with
 | true=>match e,v with
   | .agg cs,.agg vs=>if vs.length=sz∧off+sz≤cs.length then some (.agg (cs.take off++vs++cs.drop (off+sz))) else none
   | _,_=>none
 | false=>if v.aK∧sz=1 then match e with
    | .agg cs=>if off<cs.length then some (.agg (cs.set off v)) else none
    | e=>if e.aK∧off=0 then some v else none
   else none
def V.cJ (v:V):Bool:=v.isAgg || v.aK
def aO (v:V) (sz:Nat):Bool:=v.cells.length==sz &&v.cJ
def aJ (es:List V) (off len:Nat):List V:=(es.drop off).take len
def overwrite (es:List V) (off:Nat) (ys:List V):List V:=es.take off++ys++es.drop (off+ys.length)
inductive Act where
 | done (v:V)
 | fail
 | lQ (t:Nat) (k:V→Act)
 | bG (r:Nat) (k:Obj→Act)
 | bo (r:Nat) (o:Obj) (k:Act)
 | call (f:Nat) (args:List V) (k:dk→Act)
def ev (x:aQ) (k:V→Act):Act:=
 match x with
 | .tmp t=> .lQ t k
 | .const v=>k v
def fg:List aQ→(List V→Act)→Act
 | [],k=>k []
 | x::xs,k=>ev x fun v=>fg xs fun vs=>k (v::vs)
def vE:Option aQ→(Option V→Act)→Act
 | none,k=>k none
 | some x,k=>ev x fun v=>k (some v)
def cz:Option V→Act
 | some v=> .done v
 | none=> .fail
def b8 (c:V) (k:V→Act):Act:=
 match c with
 | .sl r g off len=> .bG r fun o=>match o.es with
   | some es=>if o.gen=g∧o.arr=true∧off+len≤es.length∧V.aq (aJ es off len)=true then .bo r {o with fz:=true} (k (.lit o.sz (aJ es off len))) else .fail
   | none=> .fail
 | .mp r g=> .bG r fun o=>match o.es with
   | some es=>if o.gen=g∧o.sz=0∧V.aq es=true∧es.all V.isTuple=true then .bo r {o with fz:=true} (k (.mlit es)) else .fail
   | none=> .fail
 | .own .. | .msl .. | .mptr .. | .any| .it .. => .fail
 | c=>k c
def dN:List V→(List V→Act)→Act
 | [],k=>k []
 | c::cs,k=>b8 c fun c'=>dN cs fun ct=>k (c'::ct)
def sM (v:V) (k:V→Act):Act:=
 if v.aB then k v else
 match v with
 | .agg cs=>dN cs fun ct=>k (.agg ct)
 | v=>b8 v k
def iH (vs:List V) (k:List V→Act):Act:=
 if V.aq vs then k vs else go vs k
where
 go:List V→(List V→Act)→Act
 | [],k=>k []
 | c::cs,k=>sM c fun c'=>go cs fun ct=>k (c'::ct)
def oF (b:Bool) (c:V) (k:V→Act):Act:=
 match b,c with
 | true,.ptr r g 0 off=> .bG r fun o=>match o.es with
   | some [e]=>if o.gen=g∧0 <o.sz∧V.aB e=true then .bo r {o with fz:=true} (k (.eptr e off)) else .fail
   | _=> .fail
 | _,c=>k c
def iI:List (Bool×aQ)→(List V→Act)→Act
 | [],k=>k []
 | (b,x)::xs,k=>ev x fun c=>oF b c fun c'=>iI xs fun cs=>k (c'::cs)
def iE (f:V→(V→List Nat→Act)→Act):List V→(List V→List Nat→Act)→Act
 | [],k=>k [] []
 | c::cs,k=>f c fun c' r=>iE f cs fun ct rs=>k (c'::ct) (r++rs)
def nj (f:V→(V→List Nat→Act)→Act) (vs:List V) (k:List V→List Nat→Act):Act:=
 if V.aq vs then k vs [] else iE f vs k
def dh:Nat→V→(V→List Nat→Act)→Act
 | 0,v,k=>if v.aB then k v [] else .fail
 | d+1,v,k=>if v.aB then k v [] else
   match v with
   | .agg cs=>iE (dh d) cs fun ct rs=>k (.agg ct) rs
   | .fn f cs=>iE (dh d) cs fun ct rs=>k (.fn f ct) rs
   | .iface t x=>dh d x fun x' rs=>k (.iface t x') rs
   | .sl r g off len=> .bG r fun o=>match o.es with
     | some es=>if o.gen=g∧o.arr=true∧off+len≤es.length then nj (dh d) (aJ es off len) fun xs rs=>k (.lit o.sz xs) (r::rs) else .fail
     | none=> .fail
   | .ptr r g idx off=> .bG r fun o=>match o.es with
     | some es=>if o.gen=g then match es[idx]? with
        | some e=>dh d e fun e' rs=>k (.eptr e' off) (r::rs)
        | none=> .fail
       else .fail
     | none=> .fail
   | _=> .fail
def snap (v:V) (k:V→List Nat→Act):Act:=dh 5 v k
structure df where
 i:Nat
 r:Nat
 fresh:Option Nat
def cS (   r0:Nat):List V→List (Option Nat)→Nat→(List V→List Nat→List df→Act)→Act
 | [],_,_,k=>k [] [] []
 | v::vs,m::ms,i,k=>
   match m with
   | some sz=>match v with
     | .nils=>if 0 <sz then cS r0 vs ms (i+1) fun as rs ws=>k (.msl sz [] 0 0::as) rs (⟨i,r0+i,some sz⟩::ws) else .fail
     | .sl r g off len=> .bG r fun o=>match o.es with
       | some es=>if o.gen=g∧o.fz=false∧o.sz=sz∧off+len≤es.length∧V.aq es=true then
          cS r0 vs ms (i+1) fun as rs ws=>k (.msl sz es off len::as) rs (⟨i,r,none⟩::ws) else .fail
       | none=> .fail
     | .ptr r g idx off=> .bG r fun o=>match o.es with
       | some es=>if o.gen=g∧o.fz=false∧o.sz=sz∧V.aq es=true then
          cS r0 vs ms (i+1) fun as rs ws=>k (.mptr sz es idx off::as) rs (⟨i,r,none⟩::ws) else .fail
       | none=> .fail
     | _=> .fail
   | none=>snap v fun v' rs=>cS r0 vs ms (i+1) fun as rs' ws=>k (v'::as) (rs++rs') ws
 | v::vs,[],i,k=>snap v fun v' rs=>cS r0 vs [] (i+1) fun as rs' ws=>k (v'::as) (rs++rs') ws
def b7:List Nat→Act→Act
 | [],k=>k
 | r::rs,k=> .bG r fun o=> .bo r {o with fz:=true} (b7 rs k)
def cn:List df→List (Nat×List V)→(List (Nat×Nat×Nat)→Act)→Act
 | [],[],k=>k []
 | w::ws,(Dl,es)::outs,k=> .bG w.r fun o=>match w.fresh with
   | none=> .bo w.r {o with gen:=o.gen+Dl,es:=some es} (cn ws outs fun gs=>k ((w.i,w.r,o.gen+Dl)::gs))
   | some sz=> .bo w.r {gen:=o.gen+1,sz,arr:=true,fz:=false,es:=some es} (cn ws outs fun gs=>k ((w.i,w.r,o.gen+1)::gs))
 | _,_,_=> .fail
def eW (i:Nat):List (Nat×Nat×Nat)→Option (Nat×Nat)
 | []=>none
 | (j,r,g)::gs=>if j=i then some (r,g) else eW i gs
def bL (bg:Bool) (r:Nat) (gs:List (Nat×Nat×Nat)) (c:V) (k:V→Act):Act:=
 match c with
 | .own sz xs=>if bg then .bG r fun o=> .bo r {gen:=o.gen+1,sz,arr:=true,fz:=false,es:=some xs} (k (.sl r (o.gen+1) 0 xs.length)) else k (.lit sz xs)
 | .sl i _ off len=>match eW i gs with
   | some (r',g')=>k (.sl r' g' off len)
   | none=> .fail
 | c=>if c.aB then k c else .fail
def cm (bg:Bool):Nat→List (Nat×Nat×Nat)→List V→(List V→Act)→Act
 | _,_,[],k=>k []
 | r,gs,c::cs,k=>bL bg r gs c fun c'=>cm bg (r+1) gs cs fun ct=>k (c'::ct)
def dJ (bg:Bool) (r:Nat) (gs:List (Nat×Nat×Nat)) (v:V) (k:V→Act):Act:=
 if v.aB then k v else
 match v with
 | .agg cs=>cm bg r gs cs fun ct=>k (.agg ct)
 | v=>bL bg r gs v k
def dx (bg:Bool):Nat→List (Nat×Nat×Nat)→List V→(List V→Act)→Act
 | _,_,[],k=>k []
 | r,gs,v::vs,k=>dJ bg r gs v fun v'=>dx bg (r+8) gs vs fun vs'=>k (v'::vs')
def bT (bg:Bool) (r:Nat) (gs:List (Nat×Nat×Nat)) (v:V) (k:V→Act):Act:=
 if v.aB then k v else
 match v with
 | .tuple vs=>dx bg r gs vs fun vs'=>k (.tuple vs')
 | v=>dJ bg r gs v k
def apart (rs ws:List Nat):Bool:=ws.all fun w=> !rs.contains w
def distinct:List Nat→Bool
 | []=>true
 | w::ws=> !ws.contains w &&distinct ws
def oG (r:Nat) (bg:Bool):V→Bool
 | .own _ xs=>Nat.beq (r % 2) 1 && (!bg &&V.bb xs)
 | _=>false
def gE (E:Env) (r:Nat) (bg:Bool) (f:Nat) (args:List V):Act:=
 let fJ:=match E.fn f with| some af=>af.fJ| none=> []
 cS (r+8) args fJ 0 fun as rs ws=>
  if apart rs (ws.map (·.r)) &&distinct (ws.map (·.r)) then
   .call f as fun res=>
    let go:=cn ws res.outs fun gs=>bT bg r gs res.val .done
    if (res.val.isScalar || oG r bg res.val) &&res.outs.all (fun o=>V.bb o.2) then go else b7 rs go
  else .fail
def Fb (b:Bool):Option V:=some (.bool b)
def cZ (op:BinOp) (a b:Int):Option V:=
 match op with
 | .eql=>some (.bool (a==b))
 | .neq=>some (.bool (a !=b))
 | .lss=>some (.bool (a<b))
 | .leq=>some (.bool (a≤b))
 | .gtr=>some (.bool (b<a))
 | .geq=>some (.bool (b≤a))
 | _=>none
def jH (op:BinOp) (k:IntKind) (x y:Int):Option V:=
 let a:=BitVec.ofInt k.bits x
 let b:=BitVec.ofInt k.bits y
 let back (r:BitVec k.bits):Option V:=some (.int k (k.wrap r.toNat))
 match op with
 | .and=>back (a &&&b)
 | .or=>back (a ||| b)
 | .xor=>back (a ^^^ b)
 | .andNot=>back (a &&& ~~~b)
 | _=>none
def vM (k:Nat) (a b:V):Option Bool:=
 match k,a,b with
 | 0,.bool a,.bool b=>some (a==b)
 | 1,.int k a,.int k' b=>if k=k' then some (a==b) else none
 | 2,.str a,.str b=>some (decide (a=b))
 | _,_,_=>none
def ez:List Nat→List V→List V→Option Bool
 | [],[],[]=>some true
 | k::ks,a::as,b::bs=>match vM k a b,ez ks as bs with
   | some x,some y=>some (x &&y)
   | _,_=>none
 | _,_,_=>none
def Co:V→V→Option Bool
 | .nilp,.nilp=>some true
 | .nilp,.eptr .. | .nilp,.epk .. | .eptr ..,.nilp| .epk ..,.nilp=>some false
 | .epk i z _ 0,.epk i' z' _ 0=>if z=z'∧0 <z then some (i==i') else none
 | _,_=>none
def oI (t:Nat):List (Nat×Nat)→Option Nat
 | []=>none
 | (t',k)::ks=>bif Nat.beq t' t then some k else oI t ks
def bU (op:BinOp) (x y:V):Option V:=
 match x,y with
 | .int k a,.int k' b=>
   match op with
   | .shl=>if b< 0 then none else some (.int k (k.wrap (a*2 ^ (min b.toNat k.bits))))
   | .shr=>if b< 0 then none else some (.int k (a.fdiv (2 ^ (min b.toNat k.bits))))
   | op=>
     if k=k' then
      match op with
      | .add=>some (.int k (k.wrap (a+b)))
      | .sub=>some (.int k (k.wrap (a - b)))
      | .mul=>some (.int k (k.wrap (a*b)))
      | .quo=>if b=0 then none else some (.int k (k.wrap (a.tdiv b)))
      | .rem=>if b=0 then none else some (.int k (a.tmod b))
      | .and| .or| .xor| .andNot=>jH op k a b
      | op=>cZ op a b
     else none
 | .str a,.str b=>
   match op with
   | .add=>if a.length+b.length≤9223372036854775807 then some (.str (a++b)) else none
   | .eql=>some (.bool (decide (a=b)))
   | .neq=>some (.bool (!decide (a=b)))
   | .lss=>some (.bool (Op.bytesLess a b))
   | .leq=>some (.bool (Op.bytesLess a b || decide (a=b)))
   | .gtr=>some (.bool (!(Op.bytesLess a b || decide (a=b))))
   | .geq=>some (.bool (!Op.bytesLess a b))
   | _=>none
 | _,_=>none
def A0 (op:UnOp) (x:V):Option V:=
 match op,x with
 | .neg,.int k n=>some (.int k (k.wrap (0 - n)))
 | .not,.bool b=>some (.bool (!b))
 | .xor,.int k n=>jH .xor k (if k.signed then -1 else k.max) n
 | _,_=>none
def min2 (x y:V):Option V:=
 match x,y with
 | .int k a,.int k' b=>if k=k' then some (.int k (if b<a then b else a)) else none
 | _,_=>none
def max2 (x y:V):Option V:=
 match x,y with
 | .int k a,.int k' b=>if k=k' then some (.int k (if a<b then b else a)) else none
 | _,_=>none
def fS (f:V→V→Option V) (x:V):List V→Option V
 | []=>some x
 | y::ys=>match f x y with
   | some z=>fS f z ys
   | none=>none
def gu (f:V→V→Option V):List V→Option V
 | []=>none
 | x::xs=>fS f x xs
def nM:V→Option V
 | .nils=>some (.int .i64 0)
 | .lit _ xs=>some (.int .i64 xs.length)
 | .litk _ xs=>some (.int .i64 xs.length)
 | .sl _ _ _ len=>some (.int .i64 len)
 | _=>none
def bC (d:Nat):Option V→Option Nat
 | none=>some d
 | some (.int _ n)=>if 0≤n then some n.toNat else none
 | some _=>none
def eu (x:V) (lo hi:Option V):Option V:=
 match x with
 | .str s=>match bC 0 lo,bC s.length hi with
   | some l,some h=>if l≤h∧h≤s.length then some (.str ((s.drop l).take (h - l))) else none
   | _,_=>none
 | _=>none
def ja (sz:Nat) (x:V) (lo hi mx:Option V):Option V:=
 match x with
 | .nils=>match bC 0 lo,bC 0 hi,bC 0 mx with
   | some l,some h,some m=>if l≤h∧h≤m∧m≤0∧(hi.isSome=true∨mx.isNone=true) then some .nils else none
   | _,_,_=>none
 | .lit sz' xs=>if sz'=sz then match bC 0 lo,bC xs.length hi,mx with
    | some l,some h,none=>if l≤h∧h≤xs.length then some (.lit sz (aJ xs l (h - l))) else none
    | some l,some h,some m=>match hi,bC 0 (some m) with
      | some _,some m=>if l≤h∧h≤m∧m≤xs.length then some (if m=l then .nils else .any) else none
      | _,_=>none
    | _,_,_=>none
   else none
 | _=>none
def de:List V→List (Nat×Nat×V)→Option (List V)
 | cs,[]=>some cs
 | cs,(off,sz,v)::rest=>if v.cells.length=sz∧off+sz≤cs.length∧v.cJ=true then de (cs.take off++v.cells++cs.drop (off+sz)) rest else none
def eE:List (Nat×Nat×aQ)→(List (Nat×Nat×V)→Act)→Act
 | [],k=>k []
 | (o,s,x)::ps,k=>ev x fun v=>eE ps fun vs=>k ((o,s,v)::vs)
def dK:List (Nat×aQ)→(List (Nat×V)→Act)→Act
 | [],k=>k []
 | (i,x)::ps,k=>ev x fun v=>sM v fun v=>dK ps fun vs=>k ((i,v)::vs)
def hP:List (Nat×aQ)→(List (Nat×V)→Act)→Act
 | [],k=>k []
 | (i,x)::ps,k=>ev x fun v=>hP ps fun vs=>k ((i,v)::vs)
def b6 (sz:Nat):List V→List (Nat×V)→Option (List V)
 | es,[]=>some es
 | es,(i,v)::rest=>if i<es.length∧aO v sz=true then b6 sz (es.set i v) rest else none
def content (sz:Nat) (x:V) (k:List V→Act):Act:=
 match x with
 | .nils=>k []
 | .lit sz' xs=>if sz'=sz then k xs else .fail
 | .sl r g off len=> .bG r fun o=>match o.es with
   | some es=>if o.gen=g∧o.sz=sz∧off+len≤es.length then k (aJ es off len) else .fail
   | none=> .fail
 | .str s=>if sz=1 then k (s.map fun b=> .int .u8 b.toNat) else .fail
 | _=> .fail
def bytesOf:List V→Option (List UInt8)
 | []=>some []
 | .int .u8 n::vs=>if 0≤n∧n< 256 then(bytesOf vs).map (UInt8.ofNat n.toNat:: ·) else none
 | _=>none
def Km (r sz:Nat) (zero:V) (n:Nat) (parts:List (Nat×aQ)):Act:=dK parts fun ps=>match b6 sz (List.replicate n zero) ps with
 | some es=>if aO zero sz &&decide (0 <sz∧n*sz≤16777216) then .bG r fun o=> .bo r {gen:=o.gen+1,sz,arr:=true,fz:=false,es:=some es} (.done (.sl r (o.gen+1) 0 n)) else .fail
 | none=> .fail
def zj (r sz gr:Nat) (s:V) (ys:List V):Act:=
 if ys.all (aO · sz) &&decide (0 <sz) then match s with
 | .nils=>if ys.isEmpty then .done .nils else if ys.length≤gr then
     .bG r fun o=> .bo r {gen:=o.gen+1,sz,arr:=true,fz:=false,es:=some ys} (.done (.sl r (o.gen+1) 0 ys.length)) else .fail
 | .lit sz' xs=>if ys.isEmpty then .done (.lit sz' xs) else .fail
 | .sl r' g off len=> .bG r' fun o=>match o.es with
   | some es=>if o.gen=g∧o.arr=true∧o.fz=false∧o.sz=sz∧off+len≤es.length∧len+ys.length≤gr then
         if off+len+ys.length≤es.length then
          .bo r' {o with es:=some (overwrite es (off+len) ys)} (.done (.sl r' g off (len+ys.length)))
         else
          .bo r' {o with gen:=g+1,es:=some (aJ es off len++ys)} (.done (.sl r' (g+1) 0 (len+ys.length)))
     else .fail
   | none=> .fail
 | _=> .fail
 else .fail
def xO:List Nat→List V→List V
 | k::ks,c::cs=> (match k,c with
   | (k+1),.nils=> .lit (k+1) []
   | _,c=>c)::xO ks cs
 | _,cs=>cs
def AP (ks:List Nat) (v:V):V:=match v with
 | .agg cs=> .agg (xO ks cs)
 | .nils=> (match ks with
   | (k+1)::_=> .lit (k+1) []
   | _=> .nils)
 | v=>v
def xw (v:V):Act:=match v with
 | .sl r g off len=> .bG r fun o=>match o.es with
   | some es=>if o.gen=g then iH es fun es'=> .bG r fun o'=>if o'.gen=o.gen∧o'.es.isSome=true∧es'.all (aO · o.sz)=true then .bo r {o' with es:=some es'} (.done (.sl r g off len)) else .fail else .fail
   | none=> .fail
 | v=> .done v
def CB:V→V→Option Bool
 | .int k a,.int k' b=>if k=k' then some (a==b) else none
 | .str a,.str b=>some (decide (a=b))
 | _,_=>none
def ll (k:V):List V→Option (Option V)
 | []=>some none
 | .tuple [k',v]::es=>match CB k k' with
   | some true=>some (some v)
   | some false=>ll k es
   | none=>none
 | _::_=>none
def mh (k v:V):List V→Option (List V)
 | []=>some [.tuple [k,v]]
 | .tuple [k',v']::es=>match CB k k' with
   | some true=>some (.tuple [k,v]::es)
   | some false=> (mh k v es).map (.tuple [k',v']:: ·)
   | none=>none
 | _::_=>none
def isKey (q:Option IntKind) (k:V):Bool:=match q,k with
 | some q,.int k _=>decide (k=q)
 | none,.str _=>true
 | _,_=>false
def iJ (ok:Bool) (zero:V) (es:List V) (k:V):Act:=
 match ll k es with
 | some (some v)=> .done (if ok then .tuple [v,.bool true] else v)
 | some none=> .done (if ok then .tuple [zero,.bool false] else zero)
 | none=> .fail
def aw (  E:Env):rP→Act
 | .move x=>ev x .done
 | .pick c a b=>ev c fun| .bool true=>ev a .done| .bool false=>ev b .done| _=> .fail
 | .new r sz x=>ev x fun v=>if aO v sz &&decide (0 <sz) then .bG r fun o=> .bo r {gen:=o.gen+1,sz,arr:=false,fz:=false,es:=some [v]} (.done (.ptr r (o.gen+1) 0 0)) else .fail
 | .build cells parts=>eE parts fun ps=>match de cells ps with
   | some cs=> .done (.agg cs)
   | none=> .fail
 | .buildSlice r sz zero n parts=>dK parts fun ps=>match b6 sz (List.replicate n zero) ps with
   | some es=>if aO zero sz &&decide (0 <sz∧n*sz≤16777216) then .bG r fun o=> .bo r {gen:=o.gen+1,sz,arr:=true,fz:=false,es:=some es} (.done (.sl r (o.gen+1) 0 n)) else .fail
   | none=> .fail
 | .pJ r sz=>if 0 <sz then .bG r fun o=> .bo r {gen:=o.gen+1,sz,arr:=true,fz:=false,es:=some []} (.done (.sl r (o.gen+1) 0 0)) else .fail
 | .YI r x=>ev x fun
   | .sl r1 g off len=>if r1=r then .done (.sl r1 g off len) else .bG r1 fun o=>if o.gen=g then
       .bG r fun o'=> .bo r ⟨o'.gen+1,o.sz,o.arr,o.fz,o.es⟩ (.bo r1 ⟨o.gen+1,o.sz,o.arr,o.fz,none⟩ (.done (.sl r (o'.gen+1) off len))) else .fail
   | v=> .done v
 | .makeSlice r sz bytes zero len cap=>ev len fun l=>ev cap fun c=>match l,c with
   | .int _ n,.int _ m=>if 0≤n∧n≤m∧m*bytes≤140737488355328∧aO zero sz∧0 <sz∧m≤9223372036854775807 then
       .bG r fun o=> .bo r {gen:=o.gen+1,sz,arr:=true,fz:=false,es:=some (List.replicate m.toNat zero)} (.done (.sl r (o.gen+1) 0 n.toNat)) else .fail
   | _,_=> .fail
 | .load agg sz x=>ev x fun
   | .ptr r g idx off=> .bG r fun o=>match o.es with
     | some es=>if o.gen=g then match es[idx]? with
         | some e=>cz (part agg off sz e)
         | none=> .fail
       else .fail
     | none=> .fail
   | .eptr e off=>cz (part agg off sz e)
   | .epk _ _ e off=>cz (part agg off sz e)
   | _=> .fail
 | .store agg sz x v=>ev x fun
   | .ptr r g idx off=> .bG r fun o=>if o.arr
     then ev v fun v=>sM v fun v=>jE agg sz r g idx off v
     else ev v fun v=>jE agg sz r g idx off v
   | _=> .fail
 | .nilCheck x=>ev x fun
   | .ptr r g idx off=> .done (.ptr r g idx off)
   | .eptr e off=> .done (.eptr e off)
   | .epk i z e off=> .done (.epk i z e off)
   | .fn f caps=> .done (.fn f caps)
   | .bfn f caps=> .done (.bfn f caps)
   | _=> .fail
 | .bin op x y=>ev x fun a=>ev y fun b=>cz (bU op a b)
 | .NO neg x y=>ev x fun a=>ev y fun b=>match a,b with
   | .bool a,.bool b=> .done (.bool ((a==b) !=neg))
   | _,_=> .fail
 | .Nl neg ks x y=>ev x fun a=>ev y fun b=>match a,b with
   | .agg as,.agg bs=>match ez ks as bs with
       | some b=> .done (.bool (b !=neg))
       | none=> .fail
   | _,_=> .fail
 | .un op x=>ev x fun a=>cz (A0 op a)
 | .pK k x=>ev x fun| .int _ n=> .done (.int k (k.wrap n)) | _=> .fail
 | .tT x=>ev x fun| .int _ n=> .done (.float (FloatKind.f64.nearest n)) | _=> .fail
 | .tU k x=>ev x fun
   | .float b=>match (FloatKind.f64.decode b).toInt .zero with
     | some n=>if k.min≤n∧n≤k.max then .done (.int k n) else .fail
     | none=> .fail
   | _=> .fail
 | .pL x=>ev x fun| .str s=> .done (.str s) | _=> .fail
 | .pM t x=>ev x fun v=> .done (.iface t v)
 | .assert t ok zero x=>ev x fun
   | .nili=>if ok then .done (.tuple [zero,.bool false]) else .fail
   | .iface t' v=>if t'=t then .done (if ok then .tuple [v,.bool true] else v) else if ok then .done (.tuple [zero,.bool false]) else .fail
   | _=> .fail
 | .tV f caps=>fg caps fun vs=> .done (.fn f vs)
 | .je x lo hi=>ev x fun v=>vE lo fun l=>vE hi fun h=>cz (eu v l h)
 | .slice sz x lo hi mx=>ev x fun v=>vE lo fun l=>vE hi fun h=>vE mx fun m=>match v with
   | .sl r g off len=> .bG r fun o=>match o.es with
     | some es=>if o.gen=g∧o.sz=sz then
         match bC 0 l,bC len h,m with
         | some l,some h,none=>if l≤h∧off+h≤es.length then .done (.sl r g (off+l) (h - l)) else .fail
         | some l,some h',some m=>match h,bC 0 (some m) with
           | some _,some m=>if l≤h'∧h'≤m∧off+m≤es.length then .done (if m=l then .nils else .any) else .fail
           | _,_=> .fail
         | _,_,_=> .fail
       else .fail
     | none=> .fail
   | v=>cz (ja sz v l h m)
 | .fieldAddr off x=>ev x fun
   | .ptr r g idx o=> .done (.ptr r g idx (o+off))
   | .eptr e o=> .done (.eptr e (o+off))
   | .epk i z e o=> .done (.epk i z e (o+off))
   | _=> .fail
 | .field agg off sz x=>ev x fun v=>if v.isAgg then cz (part agg off sz v) else .fail
 | .indexAddr sz x i=>ev x fun v=>ev i fun i=>match v,i with
   | .sl r g off len,.int _ n=> .bG r fun o=>if 0≤n∧n<len∧o.sz=sz∧o.gen=g then .done (.ptr r g (off+n.toNat) 0) else .fail
   | .lit sz' xs,.int _ n=>if 0≤n∧sz'=sz then match xs[n.toNat]? with
       | some e=> .done (.eptr e 0)
       | none=> .fail
     else .fail
   | .litk sz' xs,.int _ n=>if 0≤n∧sz'=sz∧0 <sz then match xs[n.toNat]? with
       | some e=> .done (.epk n.toNat sz e 0)
       | none=> .fail
     else .fail
   | _,_=> .fail
 | .mc n sz x i=>ev x fun v=>ev i fun i=>match v,i with
   | .ptr r g idx off,.int _ j=>if 0≤j∧j<n then .done (.ptr r g idx (off+j.toNat*sz)) else .fail
   | .eptr e off,.int _ j=>if 0≤j∧j<n then .done (.eptr e (off+j.toNat*sz)) else .fail
   | _,_=> .fail
 | .mf x i=>ev x fun v=>ev i fun i=>match v,i with
   | .str s,.int _ n=>if 0≤n then match s[n.toNat]? with
       | some b=> .done (.int .u8 b.toNat)
       | none=> .fail
     else .fail
   | _,_=> .fail
 | .mg agg n sz x i=>ev x fun v=>ev i fun i=>match i with
   | .int _ j=>if 0≤j∧j<n∧v.isAgg then cz (part agg (j.toNat*sz) sz v) else .fail
   | _=> .fail
 | .len x=>ev x fun v=>cz (nM v)
 | .tW x=>ev x fun| .str s=> .done (.int .i64 s.length) | _=> .fail
 | .min xs=>fg xs fun vs=>cz (gu min2 vs)
 | .max xs=>fg xs fun vs=>cz (gu max2 vs)
 | .append r sz gr s x=>ev s fun s=>ev x fun x=>content sz x fun ys=>iH ys fun ys=>
   if ys.all (aO · sz) &&decide (0 <sz) then match s with
   | .nils=>if ys.isEmpty then .done .nils else if ys.length≤gr then
       .bG r fun o=> .bo r {gen:=o.gen+1,sz,arr:=true,fz:=false,es:=some ys} (.done (.sl r (o.gen+1) 0 ys.length)) else .fail
   | .lit sz' xs=>if ys.isEmpty then .done (.lit sz' xs) else .fail
   | .sl r' g off len=> .bG r' fun o=>match o.es with
     | some es=>if o.gen=g∧o.arr=true∧o.fz=false∧o.sz=sz∧off+len≤es.length∧len+ys.length≤gr then
           if off+len+ys.length≤es.length then
            .bo r' {o with es:=some (overwrite es (off+len) ys)} (.done (.sl r' g off (len+ys.length)))
           else
            .bo r' {o with gen:=g+1,es:=some (aJ es off len++ys)} (.done (.sl r' (g+1) 0 (len+ys.length)))
       else .fail
     | none=> .fail
   | _=> .fail
   else .fail
 | .copy sz d s=>ev d fun d=>ev s fun s=>content sz s fun ys=>match d with
   | .nils=> .done (.int .i64 0)
   | .sl r g off len=> .bG r fun o=>match o.es with
     | some es=>
       if o.gen=g∧o.arr=true∧o.fz=false∧o.sz=sz∧off+len≤es.length∧(ys.take len).all (aO · sz)=true then
         .bo r {o with es:=some (overwrite es off (ys.take len))} (.done (.int .i64 (ys.take len).length)) else .fail
     | none=> .fail
   | _=> .fail
 | .clear sz zero x=>ev x fun
   | .nils=> .done (.tuple [])
   | .sl r g off len=> .bG r fun o=>match o.es with
     | some es=>if o.gen=g∧o.arr=true∧o.fz=false∧o.sz=sz∧off+len≤es.length∧aO zero sz then
         .bo r {o with es:=some (overwrite es off (List.replicate len zero))} (.done (.tuple [])) else .fail
     | none=> .fail
   | _=> .fail
 | .extract x i=>ev x fun
   | .tuple vs=>cz vs[i]?
   | _=> .fail
 | .call r bg f args=>ev f fun
   | .fn f caps=>fg args fun as=>gE E r bg f (as++caps)
   | .bfn f first=>fg args fun as=>gE E r bg f (first++as)
   | _=> .fail
 | .hY i r sz zero n parts=>ev (.tmp i) fun| .int _ j=>Km (r+16*j.toNat) sz zero n parts| _=> .fail
 | .pN r sz gr s x=>ev s fun s=>ev x fun x=>content sz x fun ys=>zj r sz gr s ys
 | .deep x=>ev x xw
 | .we ks agg sz x=>ev x fun
   | .ptr r g idx off=> .bG r fun o=>match o.es with
     | some es=>if o.gen=g then match es[idx]? with
         | some e=>cz ((part agg off sz e).map (AP ks))
         | none=> .fail
       else .fail
     | none=> .fail
   | .eptr e off=>cz ((part agg off sz e).map (AP ks))
   | .epk _ _ e off=>cz ((part agg off sz e).map (AP ks))
   | _=> .fail
 | .ia r sz zero n parts=>hP parts fun ps=>match b6 sz (List.replicate n zero) ps with
   | some es=>if aO zero sz &&decide (0 <sz∧n*sz≤16777216) then .bG r fun o=> .bo r {gen:=o.gen+1,sz,arr:=true,fz:=false,es:=some es} (.done (.sl r (o.gen+1) 0 n)) else .fail
   | none=> .fail
 | .mkMap r=> .bG r fun o=> .bo r {gen:=o.gen+1,sz:=0,arr:=false,fz:=false,es:=some []} (.done (.mp r (o.gen+1)))
 | .qW q x k v=>ev x fun
   | .mp r g=>ev k fun k=>ev v fun v=>sM v fun v=> .bG r fun o=>match o.es with
     | some es=>if o.gen=g∧o.sz=0∧o.fz=false∧isKey q k=true∧v.cJ=true then(match mh k v es with
         | some es'=> .bo r {o with es:=some es'} (.done (.tuple []))
         | none=> .fail) else .fail
     | none=> .fail
   | _=> .fail
 | .tX q ok zero x k=>ev x fun x=>ev k fun k=>if isKey q k then(match x with
   | .mp r g=> .bG r fun o=>match o.es with
     | some es=>if o.gen=g∧o.sz=0 then iJ ok zero es k else .fail
     | none=> .fail
   | .mlit es=>iJ ok zero es k
   | _=> .fail) else .fail
 | .Fh x=>ev x fun v=> (match v with
   | .fn .. =>snap v fun v' rs=>b7 rs (.done v')
   | _=>sM v .done)
 | .pO r x=>ev x fun
   | .str s=> .bG r fun o=> .bo r {gen:=o.gen+1,sz:=0,arr:=false,fz:=false,es:=some [.str s,.int .i64 0]} (.done (.it r (o.gen+1)))
   | _=> .fail
 | .pP x=>  ev x fun
   | .it r g=> .bG r fun o=>match o.es with
     | some [.str s,.int .i64 p]=>if o.gen=g∧o.sz=0∧o.fz=false then
         (if p.toNat<s.length then .bo r {o with es:=some [.str s,.int .i64 ((p.toNat+(Utf8.decode ⟨s.toArray⟩ p.toNat).2:Nat):Int)]}
           (.done (.tuple [.bool true,.int .i64 (p.toNat:Int),.int .i32 ((Utf8.decode ⟨s.toArray⟩ p.toNat).1:Int)]))
         else .done (.tuple [.bool false])) else .fail
     | _=> .fail
   | _=> .fail
 | .NP neg ks x y=>ev x fun a=>ev y fun b=>match a,b with
   | .iface t p,.iface t' q=>if t=t' then(match oI t ks with
       | some k=> (match vM k p q with
         | some b=> .done (.bool (b !=neg))
         | none=> .fail)
       | none=> .fail) else .fail
   | .nili,.iface _ _=> .done (.bool neg)
   | .iface _ _,.nili=> .done (.bool neg)
   | _,_=> .fail
 | .Lm neg x y=>ev x fun a=>ev y fun b=>cz ((Co a b).map fun c=> .bool (c !=neg))
 | .mapIter r x=>ev x fun
   | .mlit es=> .bG r fun o=> .bo r {gen:=o.gen+1,sz:=0,arr:=false,fz:=false,es:=some [.mlit es]} (.done (.it r (o.gen+1)))
   | _=> .fail
 | .mi x=>ev x fun
   | .str s=> .done (.lit 1 (s.map fun b=> .int .u8 b.toNat))
   | _=> .fail
 | .mj x=>ev x fun
   | .str _=> .fail
   | x=>content 1 x fun ys=>cz ((bytesOf ys).map .str)
 | .pQ f xs=>fg xs fun vs=> .done (.bfn f vs)
 | .pR f caps=>iI caps fun vs=> .done (.fn f vs)
 | .Fi r sz x=>ev x fun v=>sM v fun v=>if aO v sz &&decide (0 <sz) then .bG r fun o=> .bo r {gen:=o.gen+1,sz,arr:=false,fz:=false,es:=some [v]} (.done (.ptr r (o.gen+1) 0 0)) else .fail
 | .pS r g N sz s x=>ev s fun s=>ev x fun x=>content sz x fun ys=>if ys.all (aO · sz) &&decide (0 <sz) then match s with
   | .sl r' g' off len=>if r'=r∧g'=g∧off=0∧0 <ys.length∧len+ys.length≤N then .bG r fun o=>match o.es with
     | some es=>if o.gen=g∧o.fz=false∧o.sz=sz∧es.length=len then .bo r {o with es:=some (es++ys)} (.done (.sl r g 0 (len+ys.length))) else .fail
     | none=> .fail
     else .fail
   | _=> .fail
   else .fail
 | .pT m r g N sz gr s x=>ev s fun s=>ev x fun x=>content sz x fun ys=>if ys.all (aO · sz) &&decide (0 <sz) then match s with
   | .sl r' g' off len=>if r'=r∧g'=g∧off=0∧0 <ys.length∧N<len+ys.length∧len+ys.length≤gr then .bG r fun o=>match o.es with
     | some es=>if o.gen=g∧o.fz=false∧o.sz=sz∧es.length=len then
         .bG m fun om=> .bo m {gen:=om.gen+1,sz,arr:=true,fz:=false,es:=some (es++ys)} (.done (.sl m (om.gen+1) 0 (len+ys.length))) else .fail
     | none=> .fail
     else .fail
   | _=> .fail
   else .fail
 | .bad=> .fail
where
 jE ( agg:Bool) (sz r g idx off:Nat) (v:V):Act:=
  .bG r fun o=>match o.es with
   | some es=>if o.gen=g∧o.fz=false then match es[idx]? with
       | some e=>match cP agg off sz e v with
         | some e'=> .bo r {o with es:=some (es.set idx e')} (.done (.tuple []))
         | none=> .fail
       | none=> .fail
     else .fail
   | none=> .fail
def dm (E:Env) (o:bJ):Act:=
 match o.guard with
 | none=>aw E o.op
 | some (t,want)=> .lQ t fun
   | .bool b=>if b=want then aw E o.op else .done dC
   | .tuple []=> .done dC
   | _=> .fail
structure St where
 T:Nat→V
 O:Nat→Obj
def dg {α:Type} (f:Nat→α) (t:Nat) (v:α):Nat→α:=fun n=>if n=t then v else f n
abbrev a9:=Nat→List V→Option dk
def Act.run (C:a9):Act→St→Option (V×St)
 | .done v,σ=>some (v,σ)
 | .fail,_=>none
 | .lQ t k,σ=> (k (σ.T t)).run C σ
 | .bG r k,σ=> (k (σ.O r)).run C σ
 | .bo r o k,σ=>k.run C {σ with O:=dg σ.O r o}
 | .call f as k,σ=>match C f as with
   | some res=> (k res).run C σ
   | none=>none
def St.put (σ:St) (dst:Option Nat) (v:V):St:=
 match dst with
 | some d=> {σ with T:=dg σ.T d v}
 | none=>σ
def ei (E:Env) (C:a9) (o:bJ) (σ:St):Option St:=
 match (dm E o).run C σ with
 | some (v,σ')=>some (σ'.put o.dst v)
 | none=>none
def ik (E:Env) (C:a9):List bJ→St→Option St
 | [],σ=>some σ
 | o::os,σ=>match ei E C o σ with
   | some σ'=>ik E C os σ'
   | none=>none
inductive Loc where
 | t (n:Nat)
 | o (n:Nat)
 deriving DecidableEq
structure cI where
 reads:List Loc
 writes:List Loc
def Act.dB (C:a9):Act→St→cI
 | .done _,_=> ⟨[],[]⟩
 | .fail,_=> ⟨[],[]⟩
 | .lQ t k,σ=>let f:=(k (σ.T t)).dB C σ; ⟨.t t::f.reads,f.writes⟩
 | .bG r k,σ=>let f:=(k (σ.O r)).dB C σ; ⟨.o r::f.reads,f.writes⟩
 | .bo r o k,σ=>let f:=k.dB C {σ with O:=dg σ.O r o}; ⟨f.reads,.o r::f.writes⟩
 | .call f as k,σ=>match C f as with
   | some res=> (k res).dB C σ
   | none=> ⟨[],[]⟩
def cB (E:Env) (C:a9) (o:bJ) (σ:St):cI:=
 let f:=(dm E o).dB C σ
 ⟨f.reads,(match o.dst with| some d=> [.t d] | none=> [])++f.writes⟩
def meets (a b:List Loc):Bool:=a.any b.contains
def cI.lL (a b:cI):Bool:=meets a.writes b.writes || meets a.writes b.reads || meets a.reads b.writes
def closure (before:List (List Nat)) (pre:List Nat):List Nat:=pre++pre.flatMap fun i=>before.getD i []
def fits (bF:List cI) (wait:List Nat) (f:cI):Nat→Bool
 | 0=>true
 | i+1=> (wait.contains i || !(bF.getD i ⟨[],[]⟩).lL f) &&fits bF wait f i
def du (E:Env) (C:a9):List bJ→List cI→List (List Nat)→St→Option St
 | [],_,_,σ=>some σ
 | o::os,bF,before,σ=>
   let f:=cB E C o σ
   let wait:=closure before o.pre
   if fits bF wait f bF.length &&o.pre.all (· <bF.length) then
    match ei E C o σ with
    | some σ'=>du E C os (bF++[f]) (before++[wait]) σ'
    | none=>none
   else none
inductive aX where
 | normal
 | exit (id:Nat)
 | ret
def a8 (σ:St):aQ→V
 | .tmp t=>σ.T t
 | .const v=>v
mutual
def V.beq:V→V→Bool
 | .bool a,.bool b=>a==b
 | .int k n,.int k' n'=>decide (k=k') &&decide (n=n')
 | .float a,.float b=>Nat.beq a b
 | .str a,.str b=>decide (a=b)
 | .agg a,.agg b=>V.lU a b
 | .tuple a,.tuple b=>V.lU a b
 | .nilp,.nilp=>true
 | .nilfn,.nilfn=>true
 | .nili,.nili=>true
 | .fn f a,.fn g b=>Nat.beq f g &&V.lU a b
 | .bfn f a,.bfn g b=>Nat.beq f g &&V.lU a b
 | .iface t a,.iface t' b=>Nat.beq t t' &&V.beq a b
 | .nils,.nils=>true
 | .lit s a,.lit s' b=>Nat.beq s s' &&V.lU a b
 | .own s a,.own s' b=>Nat.beq s s' &&V.lU a b
 | .sl a b c d,.sl a' b' c' d'=>Nat.beq a a' && (Nat.beq b b' && (Nat.beq c c' &&Nat.beq d d'))
 | .ptr a b c d,.ptr a' b' c' d'=>Nat.beq a a' && (Nat.beq b b' && (Nat.beq c c' &&Nat.beq d d'))
 | .eptr e a,.eptr e' a'=>V.beq e e' &&Nat.beq a a'
 | .mp a b,.mp a' b'=>Nat.beq a a' &&Nat.beq b b'
 | .mlit a,.mlit b=>V.lU a b
 | .it a b,.it a' b'=>Nat.beq a a' &&Nat.beq b b'
 | .litk s a,.litk s' b=>Nat.beq s s' &&V.lU a b
 | .epk a b e c,.epk a' b' e' c'=>Nat.beq a a' && (Nat.beq b b' && (V.beq e e' &&Nat.beq c c'))
 | .any,.any=>true
 | .msl s a b c,.msl s' a' b' c'=>Nat.beq s s' && (V.lU a a' && (Nat.beq b b' &&Nat.beq c c'))
 | .mptr s a b c,.mptr s' a' b' c'=>Nat.beq s s' && (V.lU a a' && (Nat.beq b b' &&Nat.beq c c'))
 | _,_=>false
def V.lU:List V→List V→Bool
 | [],[]=>true
 | a::as,b::bs=>V.beq a b &&V.lU as bs
 | _,_=>false
end
def FL:Option (List V)→Option (List V)→Bool
 | none,none=>true
 | some a,some b=>V.lU a b
 | _,_=>false
def Obj.beq (a b:Obj):Bool:=Nat.beq a.gen b.gen && (Nat.beq a.sz b.sz && ((a.arr==b.arr) && ((a.fz==b.fz) &&FL a.es b.es)))
def ln {α:Type} (x:α):List α→List (List α)
 | []=> [[x]]
 | y::ys=> (x::y::ys):: (ln x ys).map (y:: ·)
def perms {α:Type}:List α→List (List α)
 | []=> [[]]
 | x::xs=> (perms xs).flatMap (ln x)
def sN (it r g:Nat) (σ:St):Bool:=match σ.T it with
 | .it r' g'=>Nat.beq r' r && (Nat.beq g' g &&Nat.beq (σ.O r).gen g)
 | _=>false
def runK (rec:aW→St→Option (aX×St)) (it r g nx ne id:Nat) (ahead body last:aW):List V→St→Option St
 | [],σ=>  if sN it r g σ then(match rec ahead (σ.put (some nx) (.tuple [.bool false])) with
     | some (.exit jB,σ')=>if jB=id then(match rec last σ' with
          | some (.normal,σ'')=>some σ''
          | _=>none) else none
     | _=>none) else none
 | e::p,σ=>match e with
   | .tuple [k,v]=>if sN it r g σ then(match rec ahead (σ.put (some nx) (.tuple [.bool true,k,v])) with
      |   some (.normal,σ1)=>if sN it r g σ1 then(match rec body (σ1.put (some ne) (.tuple [k,v])) with
          | some (.normal,σ')=>runK rec it r g nx ne id ahead body last p σ'
          | _=>none) else none
      | _=>none) else none
   | _=>none
def iK {α β:Type} (f:α→Option β):List α→Option (List β)
 | []=>some []
 | x::xs=>match f x,iK f xs with
   | some y,some ys=>some (y::ys)
   | _,_=>none
def pV (kT kO:List Nat) (σ1 σ:St):Bool:=kT.all (fun t=>V.beq (σ.T t) (σ1.T t)) &&kO.all fun r=>Obj.beq (σ.O r) (σ1.O r)
def forget (kT kO:List Nat) (σ1:St) (σs:List St):St:=
 {T:=fun t=>if kT.contains t then σ1.T t else .any
  O:=fun r=>if kO.contains r then σ1.O r else {gen:=(σ1::σs).foldr (fun σ m=>max (σ.O r).gen m) 0+1,sz:=0,arr:=false,fz:=false,es:=none}}
def ml (T:Nat→V) (ps:List Nat) (x:List V):Nat→V:=(ps.zip x).foldl (fun T p=>dg T p.1 p.2) T
def pU (rec:aW→St→Option (aX×St)) (ps:List Nat) (PB body:aW) (T:Nat→V):List (List V)→(Nat→Obj)→Option (aX×St)
 | [],O=>some (.normal,⟨T,O⟩)
 | x::xs,O=>match rec PB ⟨ml T ps x,O⟩ with
   | some (.normal,σ1)=>match rec body σ1 with
     | some (.normal,σ2)=>pU rec ps PB body T xs σ2.O
     | some (e,σ2)=>some (e,⟨T,σ2.O⟩)
     | none=>none
   | _=>none
def aG ( E:Env) (C:a9) (rec:aW→St→Option (aX×St)):aW→St→Option (aX×St)
 | .skip,σ=>some (.normal,σ)
 | .region ops,σ=> (ik E C ops σ).map fun σ=> (.normal,σ)
 | .drawn ops,σ=> (du E C ops [] [] σ).map fun σ=> (.normal,σ)
 | .seq a b,σ=>match rec a σ with
   | some (.normal,σ')=>rec b σ'
   | r=>r
 | .cond c a b,σ=>match a8 σ c with
   | .bool true=>rec a σ
   | .bool false=>rec b σ
   | _=>none
 | .block id b,σ=>match rec b σ with
   | some (.exit jB,σ')=>if jB=id then some (.normal,σ') else some (.exit jB,σ')
   | r=>r
 | .loop b,σ=>match rec b σ with
   | some (.normal,σ')=>rec (.loop b) σ'
   | r=>r
 | .exit id,σ=>some (.exit id,σ)
 | .ret,σ=>some (.ret,σ)
 | .scope b,σ=>rec b σ
 | .bad,_=>none
 | .keys it nx ne id kT kO ahead body last,σ=>match σ.T it with
   | .it r g=> (match (σ.O r).es with
     | some [.mlit es]=>if (σ.O r).gen=g∧(σ.O r).sz=0∧(σ.O r).fz=false then
        (match iK (fun p=>runK rec it r g nx ne id ahead body last p ⟨σ.T,dg σ.O r ⟨g,0,false,false,none⟩⟩) (perms es) with
        | some (σ1::σs)=>if σs.all (pV kT kO σ1) then some (.normal,forget kT kO σ1 σs) else none
        | _=>none) else none
     | _=>none)
   | _=>none
 | .lY x ps PB body,σ=>match a8 σ x with
   | .fn g caps=>match E.iter g caps with
     | some xs=>if xs.all (fun x=>Nat.beq x.length ps.length)=true then pU rec ps PB body σ.T xs σ.O else none
     | none=>none
   | _=>none
def bB:Obj:={gen:=0,sz:=0,arr:=false,fz:=false,es:=none}
def enter (args:List V):St:=
 {T:=fun t=>match args[t]? with
   | some (.msl _ _ off len)=> .sl t 0 off len
   | some (.mptr _ _ idx off)=> .ptr t 0 idx off
   | some v=>v
   | none=>dC
  O:=fun r=>match args[r]? with
   | some (.msl sz es _ _)=> {gen:=0,sz,arr:=true,fz:=false,es:=some es}
   | some (.mptr sz es _ _)=> {gen:=0,sz,arr:=false,fz:=false,es:=some es}
   | _=>bB}
def bH (n:Nat) (σ:St) (c:V):Option (V×List Nat):=
 match c with
 | .sl r g off len=>match (σ.O r).es with
   | some es=>if (σ.O r).gen=g∧off+len≤es.length∧(σ.O r).arr=true∧V.aq (aJ es off len)=true then
      if r<n then some (.sl r g off len,[r])
      else if (σ.O r).fz then some (.lit (σ.O r).sz (aJ es off len),[]) else some (.own (σ.O r).sz (aJ es off len),[r])
     else none
   | none=>none
 | c=>if c.aB then some (c,[]) else none
def br (n:Nat) (σ:St):List V→Option (List V×List Nat)
 | []=>some ([],[])
 | c::cs=>match bH n σ c,br n σ cs with
   | some (c',r),some (ct,rs)=>some (c'::ct,r++rs)
   | _,_=>none
def cu (n:Nat) (σ:St) (v:V):Option (V×List Nat):=
 if v.aB then some (v,[]) else
 match v with
 | .agg cs=>match br n σ cs with
   | some (ct,rs)=>some (.agg ct,rs)
   | none=>none
 | .fn f cs=>match br n σ cs with
   | some (ct,rs)=>if V.aq ct then some (.fn f ct,rs) else none
   | none=>none
 | v=>bH n σ v
def b9 (n:Nat) (σ:St):List V→Option (List V×List Nat)
 | []=>some ([],[])
 | c::cs=>match cu n σ c,b9 n σ cs with
   | some (c',r),some (ct,rs)=>some (c'::ct,r++rs)
   | _,_=>none
def ek ( σ:St):pB→Option V
 | .tmp t=>some (σ.T t)
 | .cell t agg sz=>match σ.T t with
   | .ptr r g idx off=>match (σ.O r).es with
     | some es=>if (σ.O r).gen=g then match es[idx]? with
        | some e=>part agg off sz e
        | none=>none
       else none
     | none=>none
   | _=>none
def cG (σ:St):List pB→Option (List V)
 | []=>some []
 | r::rs=>match ek σ r,cG σ rs with
   | some v,some vs=>some (v::vs)
   | _,_=>none
def bO (O:Nat→Obj):Nat→List V→Option (List (Nat×List V))
 | _,[]=>some []
 | i,.msl sz .. ::as| i,.mptr sz .. ::as=>match (O i).es,bO O (i+1) as with
   | some es,some outs=>if (O i).fz=false∧(O i).sz=sz∧V.aq es=true then some (((O i).gen,es)::outs) else none
   | _,_=>none
 | i,_::as=>bO O (i+1) as
mutual
def V.erase:V→V
 | .litk sz xs=> .lit sz (V.erases xs)
 | .epk _ _ e off=> .eptr (V.erase e) off
 | .agg cs=> .agg (V.erases cs)
 | .tuple cs=> .tuple (V.erases cs)
 | .fn f cs=> .fn f (V.erases cs)
 | .bfn f cs=> .bfn f (V.erases cs)
 | .iface t v=> .iface t (V.erase v)
 | .lit sz xs=> .lit sz (V.erases xs)
 | .own sz xs=> .own sz (V.erases xs)
 | .eptr e off=> .eptr (V.erase e) off
 | .mlit es=> .mlit (V.erases es)
 | .msl sz es off len=> .msl sz es off len
 | .mptr sz es idx off=> .mptr sz es idx off
 | .bool b=> .bool b
 | .int k n=> .int k n
 | .float b=> .float b
 | .str s=> .str s
 | .nilp=> .nilp
 | .nilfn=> .nilfn
 | .nili=> .nili
 | .nils=> .nils
 | .sl r g off len=> .sl r g off len
 | .ptr r g idx off=> .ptr r g idx off
 | .mp r g=> .mp r g
 | .it r g=> .it r g
 | .any=> .any
def V.erases:List V→List V
 | []=> []
 | v::vs=>V.erase v::V.erases vs
end
def uo (v:V):V:=match v with
 | .lit sz xs=> .litk sz xs
 | v=>v
def zk (c:Nat) (v:V):V:=match v with
 | .agg cs=> .agg (cs.modify c uo)
 | v=>v
def cX (p:Nat×Nat) (args:List V):List V:=(V.erases args).modify p.1 (zk p.2)
def leave (af:aA) (args:List V) (σ:St):Option dk:=
 match cG σ af.results,bO σ.O 0 args with
 | some vs,some outs=>match b9 args.length σ vs with
   | some ([v],rs)=>if distinct rs then some ⟨v,outs⟩ else none
   | some (vs,rs)=>if distinct rs then some ⟨.tuple vs,outs⟩ else none
   | none=>none
 | _,_=>none
def iY ( E:Env) (rec:aW→St→Option (aX×St)):a9:=fun f args=>
 match E.ext f args with
 | some r=>some r
 | none=>match E.fn f with
   | some af=>if args.length=af.nparams then match af.tag with
      | none=> (match rec af.body (enter args) with
        | some (.normal,σ) | some (.ret,σ)=>leave af args σ
        | _=>none)
      | some p=>if V.aq args=true then(match rec af.body (enter (cX p args)) with
        | some (.normal,σ) | some (.ret,σ)=> (leave af (cX p args) σ).map fun res=> ⟨res.val.erase,[]⟩
        | _=>none) else none
     else none
   | none=>none
def dw (E:Env) (rec:aW→St→Option (aX×St)):a9:=fun f args=>
 match E.hyb f with
 | some h=>h (iY E rec) args
 | none=>iY E rec f args
def exec (E:Env):Nat→aW→St→Option (aX×St)
 | 0=>fun _ _=>none
 | n+1=>aG E (dw E (exec E n)) (exec E n)
def call (E:Env) (n:Nat):a9:=dw E (exec E n)
end Go.AM
namespace Go.AM
mutual
theorem V.beq_eq: ∀ {a b:V},V.beq a b=true→a=b
 | .bool _,b,h| .int ..,b,h| .float _,b,h| .str _,b,h| .nilp,b,h| .nilfn,b,h| .nili,b,h| .nils,b,h| .any,b,h=>by
   cases b<;>simp_all[V.beq]
 | .sl ..,b,h| .ptr ..,b,h| .mp ..,b,h| .it ..,b,h=>by
   cases b<;>simp_all[V.beq]
 | .msl s as o l,b,h=>by
   cases b<;>simp only[V.beq,Bool.and_eq_true,Nat.beq_eq,reduceCtorEq,Bool.false_eq_true] at h
   rw[h.1,V.fu h.2.1,h.2.2.1,h.2.2.2]
 | .mptr s as o l,b,h=>by
   cases b<;>simp only[V.beq,Bool.and_eq_true,Nat.beq_eq,reduceCtorEq,Bool.false_eq_true] at h
   rw[h.1,V.fu h.2.1,h.2.2.1,h.2.2.2]
 | .agg as,b,h=>by
   cases b<;>simp only[V.beq,reduceCtorEq,Bool.false_eq_true] at h
   rw[V.fu h]
 | .tuple as,b,h=>by
   cases b<;>simp only[V.beq,reduceCtorEq,Bool.false_eq_true] at h
   rw[V.fu h]
 | .mlit as,b,h=>by
   cases b<;>simp only[V.beq,reduceCtorEq,Bool.false_eq_true] at h
   rw[V.fu h]
 | .bfn f as,b,h=>by
   cases b<;>simp only[V.beq,Bool.and_eq_true,Nat.beq_eq,reduceCtorEq,Bool.false_eq_true] at h
   rw[h.1,V.fu h.2]
 | .fn f as,b,h=>by
   cases b<;>simp only[V.beq,Bool.and_eq_true,Nat.beq_eq,reduceCtorEq,Bool.false_eq_true] at h
   rw[h.1,V.fu h.2]
 | .iface t a,b,h=>by
   cases b<;>simp only[V.beq,Bool.and_eq_true,Nat.beq_eq,reduceCtorEq,Bool.false_eq_true] at h
   rw[h.1,V.beq_eq h.2]
 | .lit s as,b,h=>by
   cases b<;>simp only[V.beq,Bool.and_eq_true,Nat.beq_eq,reduceCtorEq,Bool.false_eq_true] at h
   rw[h.1,V.fu h.2]
 | .litk s as,b,h=>by
   cases b<;>simp only[V.beq,Bool.and_eq_true,Nat.beq_eq,reduceCtorEq,Bool.false_eq_true] at h
   rw[h.1,V.fu h.2]
 | .own s as,b,h=>by
   cases b<;>simp only[V.beq,Bool.and_eq_true,Nat.beq_eq,reduceCtorEq,Bool.false_eq_true] at h
   rw[h.1,V.fu h.2]
 | .eptr e o,b,h=>by
   cases b<;>simp only[V.beq,Bool.and_eq_true,Nat.beq_eq,reduceCtorEq,Bool.false_eq_true] at h
   rw[h.2,V.beq_eq h.1]
 | .epk i z e o,b,h=>by
   cases b<;>simp only[V.beq,Bool.and_eq_true,Nat.beq_eq,reduceCtorEq,Bool.false_eq_true] at h
   rw[h.1,h.2.1,V.beq_eq h.2.2.1,h.2.2.2]
theorem V.fu: ∀ {a b:List V},V.lU a b=true→a=b
 | [],[],_=>rfl
 | [],_::_,h=>by simp[V.lU] at h
 | _::_,[],h=>by simp[V.lU] at h
 | a::as,b::bs,h=>by
   simp only[V.lU,Bool.and_eq_true] at h
   rw[V.beq_eq h.1,V.fu h.2]
end
mutual
theorem V.jf: ∀ (a:V),V.beq a a=true
 | .bool _| .int .. | .float _| .str _| .nilp| .nilfn| .nili| .nils| .any| .sl .. | .ptr .. | .mp .. | .it .. =>by simp[V.beq]
 | .agg as| .tuple as| .mlit as=>by simp only[V.beq];exact V.kj as
 | .fn f as| .bfn f as| .lit f as| .litk f as| .own f as=>by
   simp only[V.beq,Nat.beq_refl,Bool.true_and]
   exact V.kj as
 | .msl f as _ _| .mptr f as _ _=>by
   simp only[V.beq,Nat.beq_refl,Bool.true_and,Bool.and_true]
   exact V.kj as
 | .iface t a=>by
   simp only[V.beq,Nat.beq_refl,Bool.true_and]
   exact V.jf a
 | .eptr e o=>by
   simp only[V.beq,Nat.beq_refl,Bool.and_true]
   exact V.jf e
 | .epk i z e o=>by
   simp only[V.beq,Nat.beq_refl,Bool.true_and,Bool.and_true]
   exact V.jf e
theorem V.kj: ∀ (a:List V),V.lU a a=true
 | []=>rfl
 | a::as=>by simp only[V.lU,V.jf a,V.kj as,Bool.and_self]
end
theorem Obj.beq_eq {a b:Obj} (h:Obj.beq a b=true):a=b:=by
 obtain⟨g,s,r,f,es⟩:=a
 obtain⟨g',s',r',f',es'⟩:=b
 simp only[Obj.beq,Bool.and_eq_true,Nat.beq_eq,beq_iff_eq] at h
 obtain⟨rfl,rfl,rfl,rfl,h⟩:=h
 congr 1
 unfold FL at h
 split at h
 · rfl
 · rw[V.fu h]
 · simp at h
theorem Obj.jf (a:Obj):Obj.beq a a=true:=by
 obtain⟨g,s,r,f,es⟩:=a
 simp only[Obj.beq,Nat.beq_refl,beq_self_eq_true,Bool.true_and]
 unfold FL
 cases es with
 | none=>rfl
 | some es=>exact V.kj es
section
variable {α β:Type}
theorem uq {x:α}: ∀ {l p:List α},p ∈ ln x l→p.Perm (x::l)
 | [],p,h=>by simp[ln] at h;subst h;exact .refl _
 | y::ys,p,h=>by
   simp only[ln,List.mem_cons,List.mem_map] at h
   rcases h with rfl| ⟨q,hq,rfl⟩
   · exact .refl _
   · exact((uq hq).cons y).trans (.swap x y ys)
theorem ur {x:α}: ∀ {a b:List α},a++x::b ∈ ln x (a++b)
 | [],[]=>by simp[ln]
 | [],y::ys=>by simp[ln]
 | y::a,b=>by
   simp only[List.cons_append,ln,List.mem_cons,List.mem_map]
   exact .inr ⟨_,ur,rfl⟩
theorem rS: ∀ {l p:List α},p ∈ perms l→p.Perm l
 | [],p,h=>by simp[perms] at h;subst h;exact .refl _
 | x::xs,p,h=>by
   simp only[perms,List.mem_flatMap] at h
   obtain⟨q,hq,hp⟩:=h
   exact(uq hp).trans ((rS hq).cons x)
theorem mn: ∀ {l p:List α},p.Perm l→p ∈ perms l
 | [],p,h=>by rw[h.eq_nil];simp[perms]
 | x::xs,p,h=>by
   obtain⟨a,b,rfl⟩:=List.append_of_mem (h.mem_iff.2 (by simp):x ∈ p)
   have h': (a++b).Perm xs:=List.Perm.cons_inv (List.perm_middle.symm.trans h)
   simp only[perms,List.mem_flatMap]
   exact⟨a++b,mn h',ur⟩
theorem r4 {f:α→Option β}: ∀ {l:List α} {ys:List β},iK f l=some ys→ ∀x ∈ l,∃y ∈ ys,f x=some y
 | [],ys,_,x,hx=>by simp at hx
 | a::l,ys,h,x,hx=>by
   simp only[iK] at h
   split at h
   · rename_i y ZQ h1 h2
     injection h with h;subst h
     rcases List.mem_cons.1 hx with rfl| hx
     · exact⟨y,by simp,h1⟩
     · obtain⟨z,hz,e⟩:=r4 h2 x hx
       exact⟨z,by simp[hz],e⟩
   · simp at h
theorem kM {f f':α→Option β} (h: ∀x y,f x=some y→f' x=some y): ∀ {l:List α} {ys:List β},iK f l=some ys→iK f' l=some ys
 | [],ys,e=>e
 | a::l,ys,e=>by
   simp only[iK] at e ⊢
   split at e
   · rename_i y ZQ h1 h2
     rw[h _ _ h1,kM h h2];exact e
   · simp at e
theorem tY {f:Nat→α→Option β} (hm: ∀n m x y,n≤m→f n x=some y→f m x=some y) {P:β→Prop}: ∀ {l:List α},(∀x ∈ l,∃n y,f n x=some y∧P y)→ ∃n ys,iK (f n) l=some ys∧ys.length=l.length∧ ∀y ∈ ys,P y
 | [],_=> ⟨0,[],rfl,rfl,by simp⟩
 | a::l,h=>by
   obtain⟨n1,y,h1,h2⟩:=h a (by simp)
   obtain⟨n2,ys,h3,h4,h5⟩:=tY hm (l:=l) fun x hx=>h x (by simp[hx])
   refine⟨max n1 n2,y::ys,?_,by simp[h4],?_⟩
   · have e1:=hm n1 (max n1 n2) a y (Nat.le_max_left ..) h1
     have e2:=kM (f:=f n2) (f':=f (max n1 n2)) (fun x y h=>hm n2 _ x y (Nat.le_max_right ..) h) h3
     simp only[iK,e1,e2]
   · intro z hz
     rcases List.mem_cons.1 hz with rfl| hz
     · exact h2
     · exact h5 z hz
end
theorem nb {  r r':aW→St→Option (aX×St)} (h: ∀c σ x,r c σ=some x→r' c σ=some x) {it ri g nx ne id:Nat} {ahead body last:aW}: ∀ {p:List V} {σ σ':St},runK r it ri g nx ne id ahead body last p σ=some σ'→runK r' it ri g nx ne id ahead body last p σ=some σ'
 | [],σ,σ',e=>by
   simp only[runK] at e ⊢
   split at e
   · rename_i hi
     rw[if_pos hi]
     split at e
     · rename_i jB σ1 h1
       rw[h _ _ _ h1]
       simp only
       split at e
       · rename_i LI
         rw[if_pos LI]
         split at e
         · rename_i σ2 h2
           rw[h _ _ _ h2];exact e
         · simp at e
       · simp at e
     · simp at e
   · simp at e
 | x::p,σ,σ',e=>by
   simp only[runK] at e ⊢
   split at e
   · split at e
     · rename_i hi
       rw[if_pos hi]
       split at e
       · rename_i σ1 h1
         rw[h _ _ _ h1]
         simp only
         split at e
         · rename_i sP
           rw[if_pos sP]
           split at e
           · rename_i σ2 h2
             rw[h _ _ _ h2]
             exact nb h e
           · simp at e
         · simp at e
       · simp at e
     · simp at e
   · simp at e
theorem qN {r r':aW→St→Option (aX×St)} (h: ∀c σ x,r c σ=some x→r' c σ=some x) {ps:List Nat} {a b:aW} {T:Nat→V}: ∀ {xs:List (List V)} {O:Nat→Obj} {y},pU r ps a b T xs O=some y→pU r' ps a b T xs O=some y
 | [],O,y,e=>by simpa [pU] using e
 | x::xs,O,y,e=>by
   simp only[pU] at e ⊢
   split at e
   · rename_i σ1 h1
     rw[h _ _ _ h1]
     simp only
     split at e
     · rename_i σ2 h2
       rw[h _ _ _ h2];exact qN h e
     · rename_i e2 σ2 hn h2
       rw[h _ _ _ h2]
       simp only
       cases e2 with
       | normal=>exact absurd rfl (hn ·)
       | exit id=>exact e
       | ret=>exact e
     · simp at e
   · simp at e
theorem qf {α:Type} (f:α→Nat): ∀ {l:List α} {x:α},x ∈ l→f x≤l.foldr (fun x m=>max (f x) m) 0
 | a::l,x,h=>by
   simp only[List.foldr_cons]
   rcases List.mem_cons.1 h with rfl| h
   · exact Nat.le_max_left ..
   · exact Nat.le_trans (qf f h) (Nat.le_max_right ..)
end Go.AM
