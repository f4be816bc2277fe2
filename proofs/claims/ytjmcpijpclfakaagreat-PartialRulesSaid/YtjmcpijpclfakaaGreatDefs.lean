/-
  Texts of the proof: AmDefs, AmKeys.
-/
import GoSem.Step
set_option linter.unusedSimpArgs false
set_option linter.unusedVariables false
namespace Go.AM
inductive V where
 | bool (b:Bool)
 | int (k:IntKind) (n:Int)
 | float (bits:Nat)
 | str (s:List UInt8)
 | agg (cs:List V)
 | tuple (vs:List V)
 | nilp| nilfn| nili
 | fn (f:Nat) (caps:List V)
 | bfn (f:Nat) (first:List V)
 | iface (t:Nat) (v:V)
 | nils
 | lit (sz:Nat) (xs:List V)
 | own (sz:Nat) (xs:List V)
 | sl (r g off len:Nat)
 | ptr (r g idx off:Nat)
 | eptr (e:V) (off:Nat)
 | mp (r g:Nat)
 | mlit (es:List V)
 | it (r g:Nat)
 | litk (sz:Nat) (xs:List V)
 | epk (i sz:Nat) (e:V) (off:Nat)
 | msl (sz:Nat) (es:List V) (off len:Nat)
 | mptr (sz:Nat) (es:List V) (idx off:Nat)
 | any
 deriving Inhabited
def fj:V:= .tuple []
structure Obj where
 gen:Nat
 sz:Nat
 arr:Bool
 fz:Bool
 es:Option (List V)
structure iE where
 val:V
 outs:List (Nat×List V)
inductive bg where
 | tmp (t:Nat)
 | const (v:V)
inductive vb where
 | move (x:bg)
 | pick (c a b:bg)
 | new (r sz:Nat) (x:bg)
 | build (cells:List V) (parts:List (Nat×Nat×bg))
 | buildSlice (r sz:Nat) (zero:V) (n:Nat) (parts:List (Nat×bg))
 | cN (r sz:Nat)
 | oY (r:Nat) (x:bg)
 | makeSlice (r sz bytes:Nat) (zero:V) (len cap:bg)
 | load (agg:Bool) (sz:Nat) (x:bg)
 | store (agg:Bool) (sz:Nat) (x v:bg)
 | nilCheck (x:bg)
 | bin (op:BinOp) (x y:bg)
 | tI (neg:Bool) (x y:bg)
 | KC (neg:Bool) (ks:List Nat) (x y:bg)
 | un (op:UnOp) (x:bg)
 | il (k:IntKind) (x:bg)
 | yt (x:bg)
 | yu (k:IntKind) (x:bg)
 | tJ (x:bg)
 | cU (t:Nat) (x:bg)
 | assert (t:Nat) (afp:Bool) (zero:V) (x:bg)
 | iH (f:Nat) (caps:List bg)
 | slice (sz:Nat) (x:bg) (lo hi mx:Option bg)
 | eX (x:bg) (lo hi:Option bg)
 | fieldAddr (off:Nat) (x:bg)
 | field (agg:Bool) (off sz:Nat) (x:bg)
 | indexAddr (sz:Nat) (x i:bg)
 | bZ (n sz:Nat) (x i:bg)
 | cj (x i:bg)
 | pr (agg:Bool) (n sz:Nat) (x i:bg)
 | len (x:bg)
 | dM (x:bg)
 | min (xs:List bg)
 | max (xs:List bg)
 | append (r sz dW:Nat) (s x:bg)
 | copy (sz:Nat) (d s:bg)
 | clear (sz:Nat) (zero:V) (x:bg)
 | extract (x:bg) (i:Nat)
 | call (r:Nat) (b6:Bool) (f:bg) (args:List bg)
 | j9 (i r sz:Nat) (zero:V) (n:Nat) (parts:List (Nat×bg))
 | tK (r sz dW:Nat) (s x:bg)
 | deep (x:bg)
 | AG (ks:List Nat) (agg:Bool) (sz:Nat) (x:bg)
 | mkMap (r:Nat)
 | pw (q:Option IntKind) (x k v:bg)
 | vA (q:Option IntKind) (ok:Bool) (zero:V) (x k:bg)
 | FA (x:bg)
 | qF (r:Nat) (x:bg)
 | qG (x:bg)
 | ka (r sz:Nat) (zero:V) (n:Nat) (parts:List (Nat×bg))
 | YC (neg:Bool) (ks:List (Nat×Nat)) (x y:bg)
 | Sk (neg:Bool) (x y:bg)
 | mapIter (r:Nat) (x:bg)
 | mX (x:bg)
 | kb (x:bg)
 | qH (f:Nat) (first:List bg)
 | yw (r sz:Nat) (x:bg)
 | qI (r g N sz:Nat) (s x:bg)
 | qJ (m r g N sz dW:Nat) (s x:bg)
 | bad
structure cF where
 dst:Option Nat
 op:vb
 guard:Option (Nat×Bool)
 pre:List Nat
inductive aB where
 | skip
 | region (ops:List cF)
 | drawn (ops:List cF)
 | seq (a b:aB)
 | cond (c:bg) (a b:aB)
 | block (id:Nat) (b:aB)
 | loop (b:aB)
 | exit (id:Nat)
 | ret
 | scope (b:aB)
 | bad
 | keys (it nx ne id:Nat) (kT kO:List Nat) (ahead body last:aB)
 | pf (x:bg) (ps:List Nat) (ZY body:aB)
inductive sf where
 | tmp (t:Nat)
 | cell (t:Nat) (agg:Bool) (sz:Nat)
structure aU where
 nparams:Nat
 ntmps:Nat
 yq:List (Option Nat)
 results:List sf
 body:aB
 tag:Option (Nat×Nat):=none
structure Env where
 fn:Nat→Option aU
 ext:Nat→List V→Option iE
 hyb:Nat→Option ((Nat→List V→Option iE)→List V→Option iE):=fun _=>none
 mono: ∀f h,hyb f=some h→ ∀ (C C':Nat→List V→Option iE),(∀g vs r,C g vs=some r→C' g vs=some r)→ ∀vs r,h C vs=some r→h C' vs=some r:=by exact fun _ _ h=>nomatch h
 iter:Nat→List V→Option (List (List V)):=fun _ _=>none
def V.cells:V→List V
 | .agg cs=>cs
 | v=> [v]
def V.isAgg:V→Bool
 | .agg _=>true
 | _=>false
def V.isTuple:V→Bool
 | .tuple _=>true
 | _=>false
def V.aV:V→Bool
 | .agg _| .tuple _| .any| .own .. | .msl .. | .mptr .. =>false
 | _=>true
mutual
def V.aj:V→Bool
 | .bool _| .int .. | .float _| .str _| .nilp| .nilfn| .nili| .nils| .lit .. | .eptr .. | .litk .. | .epk .. =>true
 | .agg cs=>V.ae cs
 | .tuple cs=>V.ae cs
 | .mlit es=>V.ae es
 | .fn _ caps=>V.ae caps
 | .bfn _ caps=>V.ae caps
 | .iface _ v=>V.aj v
 | .own .. | .sl .. | .ptr .. | .mp .. | .it .. | .msl .. | .mptr .. | .any=>false
def V.ae:List V→Bool
 | []=>true
 | c::cs=>V.aj c &&V.ae cs
end
mutual
def V.isScalar:V→Bool
 | .bool _| .int .. | .float _| .str _| .nilp| .nilfn| .nili| .nils=>true
 | .agg cs=>V.bS cs
 | .tuple cs=>V.bS cs
 | _=>false
def V.bS:List V→Bool
 | []=>true
 | c::cs=>V.isScalar c &&V.bS cs
end
def part (agg:Bool) (off sz:Nat) (e:V):Option V:=
 match agg,e with
 | true,.agg cs=>if off+sz≤cs.length then some (.agg ((cs.drop off).take sz)) else none
 | true,_=>none
 | false,.agg cs=>cs[off]?
 | false,v=>if v.aV∧off=0 then some v else none
def dY (agg:Bool) (off sz:Nat) (e v:V):Option V:=
 match agg with
 | true=>match e,v with
   | .agg cs,.agg vs=>if vs.length=sz∧off+sz≤cs.length then some (.agg (cs.take off++vs++cs.drop (off+sz))) else none
   | _,_=>none
 | false=>if v.aV∧sz=1 then match e with
    | .agg cs=>if off<cs.length then some (.agg (cs.set off v)) else none
    | e=>if e.aV∧off=0 then some v else none
   else none
def V.dX (v:V):Bool:=v.isAgg || v.aV
def aZ (v:V) (sz:Nat):Bool:=v.cells.length==sz &&v.dX
def bb (es:List V) (off len:Nat):List V:=(es.drop off).take len
def overwrite (es:List V) (off:Nat) (ys:List V):List V:=es.take off++ys++es.drop (off+ys.length)
inductive Act where
 | done (v:V)
 | fail
 | oR (t:Nat) (k:V→Act)
 | cr (r:Nat) (k:Obj→Act)
 | bW (r:Nat) (o:Obj) (k:Act)
 | call (f:Nat) (args:List V) (k:iE→Act)
def ev (x:bg) (k:V→Act):Act:=
 match x with
 | .tmp t=> .oR t k
 | .const v=>k v
def ym:List bg→(List V→Act)→Act
 | [],k=>k []
 | x::xs,k=>ev x fun v=>ym xs fun vs=>k (v::vs)
def Aa:Option bg→(Option V→Act)→Act
 | none,k=>k none
 | some x,k=>ev x fun v=>k (some v)
def dF:Option V→Act
 | some v=> .done v
 | none=> .fail
def cZ (c:V) (k:V→Act):Act:=
 match c with
 | .sl r g off len=> .cr r fun o=>match o.es with
   | some es=>if o.gen=g∧o.arr=true∧off+len≤es.length∧V.ae (bb es off len)=true then .bW r {o with fz:=true} (k (.lit o.sz (bb es off len))) else .fail
   | none=> .fail
 | .mp r g=> .cr r fun o=>match o.es with
   | some es=>if o.gen=g∧o.sz=0∧V.ae es=true∧es.all V.isTuple=true then .bW r {o with fz:=true} (k (.mlit es)) else .fail
   | none=> .fail
 | .own .. | .msl .. | .mptr .. | .any| .it .. => .fail
 | c=>k c
def fw:List V→(List V→Act)→Act
 | [],k=>k []
 | c::cs,k=>cZ c fun c'=>fw cs fun dC=>k (c'::dC)
def xn (v:V) (k:V→Act):Act:=
 if v.aj then k v else
 match v with
 | .agg cs=>fw cs fun dC=>k (.agg dC)
 | v=>cZ v k
def kJ (vs:List V) (k:List V→Act):Act:=
 if V.ae vs then k vs else go vs k
where
 go:List V→(List V→Act)→Act
 | [],k=>k []
 | c::cs,k=>xn c fun c'=>go cs fun dC=>k (c'::dC)
def rG (f:V→(V→List Nat→Act)→Act):List V→(List V→List Nat→Act)→Act
 | [],k=>k [] []
 | c::cs,k=>f c fun c' r=>rG f cs fun dC rs=>k (c'::dC) (r++rs)
def xJ (f:V→(V→List Nat→Act)→Act) (vs:List V) (k:List V→List Nat→Act):Act:=
 if V.ae vs then k vs [] else rG f vs k
def gC:Nat→V→(V→List Nat→Act)→Act
 | 0,v,k=>if v.aj then k v [] else .fail
 | d+1,v,k=>if v.aj then k v [] else
   match v with
   | .agg cs=>rG (gC d) cs fun dC rs=>k (.agg dC) rs
   | .fn f cs=>rG (gC d) cs fun dC rs=>k (.fn f dC) rs
   | .iface t x=>gC d x fun x' rs=>k (.iface t x') rs
   | .sl r g off len=> .cr r fun o=>match o.es with
     | some es=>if o.gen=g∧o.arr=true∧off+len≤es.length then xJ (gC d) (bb es off len) fun xs rs=>k (.lit o.sz xs) (r::rs) else .fail
     | none=> .fail
   | .ptr r g idx off=> .cr r fun o=>match o.es with
     | some es=>if o.gen=g then match es[idx]? with
        | some e=>gC d e fun e' rs=>k (.eptr e' off) (r::rs)
        | none=> .fail
       else .fail
     | none=> .fail
   | _=> .fail
def snap (v:V) (k:V→List Nat→Act):Act:=gC 5 v k
structure fk where
 i:Nat
 r:Nat
 fresh:Option Nat
def eA (   r0:Nat):List V→List (Option Nat)→Nat→(List V→List Nat→List fk→Act)→Act
 | [],_,_,k=>k [] [] []
 | v::vs,m::ms,i,k=>
   match m with
   | some sz=>match v with
     | .nils=>if 0 <sz then eA r0 vs ms (i+1) fun as rs ws=>k (.msl sz [] 0 0::as) rs (⟨i,r0+i,some sz⟩::ws) else .fail
     | .sl r g off len=> .cr r fun o=>match o.es with
       | some es=>if o.gen=g∧o.fz=false∧o.sz=sz∧off+len≤es.length∧V.ae es=true then
          eA r0 vs ms (i+1) fun as rs ws=>k (.msl sz es off len::as) rs (⟨i,r,none⟩::ws) else .fail
       | none=> .fail
     | .ptr r g idx off=> .cr r fun o=>match o.es with
       | some es=>if o.gen=g∧o.fz=false∧o.sz=sz∧V.ae es=true then
          eA r0 vs ms (i+1) fun as rs ws=>k (.mptr sz es idx off::as) rs (⟨i,r,none⟩::ws) else .fail
       | none=> .fail
     | _=> .fail
   | none=>snap v fun v' rs=>eA r0 vs ms (i+1) fun as rs' ws=>k (v'::as) (rs++rs') ws
 | v::vs,[],i,k=>snap v fun v' rs=>eA r0 vs [] (i+1) fun as rs' ws=>k (v'::as) (rs++rs') ws
def dg:List Nat→Act→Act
 | [],k=>k
 | r::rs,k=> .cr r fun o=> .bW r {o with fz:=true} (dg rs k)
def dB:List fk→List (Nat×List V)→(List (Nat×Nat×Nat)→Act)→Act
 | [],[],k=>k []
 | w::ws,(IF,es)::outs,k=> .cr w.r fun o=>match w.fresh with
   | none=> .bW w.r {o with gen:=o.gen+IF,es:=some es} (dB ws outs fun gs=>k ((w.i,w.r,o.gen+IF)::gs))
   | some sz=> .bW w.r {gen:=o.gen+1,sz,arr:=true,fz:=false,es:=some es} (dB ws outs fun gs=>k ((w.i,w.r,o.gen+1)::gs))
 | _,_,_=> .fail
def gJ (i:Nat):List (Nat×Nat×Nat)→Option (Nat×Nat)
 | []=>none
 | (j,r,g)::gs=>if j=i then some (r,g) else gJ i gs
def cG (b6:Bool) (r:Nat) (gs:List (Nat×Nat×Nat)) (c:V) (k:V→Act):Act:=
 match c with
 | .own sz xs=>if b6 then .cr r fun o=> .bW r {gen:=o.gen+1,sz,arr:=true,fz:=false,es:=some xs} (k (.sl r (o.gen+1) 0 xs.length)) else k (.lit sz xs)
 | .sl i _ off len=>match gJ i gs with
   | some (r',g')=>k (.sl r' g' off len)
   | none=> .fail
 | c=>if c.aj then k c else .fail
def dp (b6:Bool):Nat→List (Nat×Nat×Nat)→List V→(List V→Act)→Act
 | _,_,[],k=>k []
 | r,gs,c::cs,k=>cG b6 r gs c fun c'=>dp b6 (r+1) gs cs fun dC=>k (c'::dC)
def fL (b6:Bool) (r:Nat) (gs:List (Nat×Nat×Nat)) (v:V) (k:V→Act):Act:=
 if v.aj then k v else
 match v with
 | .agg cs=>dp b6 r gs cs fun dC=>k (.agg dC)
 | v=>cG b6 r gs v k
def eW (b6:Bool):Nat→List (Nat×Nat×Nat)→List V→(List V→Act)→Act
 | _,_,[],k=>k []
 | r,gs,v::vs,k=>fL b6 r gs v fun v'=>eW b6 (r+8) gs vs fun vs'=>k (v'::vs')
def df (b6:Bool) (r:Nat) (gs:List (Nat×Nat×Nat)) (v:V) (k:V→Act):Act:=
 if v.aj then k v else
 match v with
 | .tuple vs=>eW b6 r gs vs fun vs'=>k (.tuple vs')
 | v=>fL b6 r gs v k
def apart (rs ws:List Nat):Bool:=ws.all fun w=> !rs.contains w
def distinct:List Nat→Bool
 | []=>true
 | w::ws=> !ws.contains w &&distinct ws
def pq (E:Env) (r:Nat) (b6:Bool) (f:Nat) (args:List V):Act:=
 let yq:=match E.fn f with| some af=>af.yq| none=> []
 eA (r+8) args yq 0 fun as rs ws=>
  if apart rs (ws.map (·.r)) &&distinct (ws.map (·.r)) then
   .call f as fun res=>
    let go:=dB ws res.outs fun gs=>df b6 r gs res.val .done
    if res.val.isScalar &&res.outs.all (fun o=>V.bS o.2) then go else dg rs go
  else .fail
def Kw (b:Bool):Option V:=some (.bool b)
def ew (op:BinOp) (a b:Int):Option V:=
 match op with
 | .eql=>some (.bool (a==b))
 | .neq=>some (.bool (a !=b))
 | .lss=>some (.bool (a<b))
 | .leq=>some (.bool (a≤b))
 | .gtr=>some (.bool (b<a))
 | .geq=>some (.bool (b≤a))
 | _=>none
def ml (op:BinOp) (k:IntKind) (x y:Int):Option V:=
 let a:=BitVec.ofInt k.bits x
 let b:=BitVec.ofInt k.bits y
 let back (r:BitVec k.bits):Option V:=some (.int k (k.wrap r.toNat))
 match op with
 | .and=>back (a &&&b)
 | .or=>back (a ||| b)
 | .xor=>back (a ^^^ b)
 | .andNot=>back (a &&& ~~~b)
 | _=>none
def Aj (k:Nat) (a b:V):Option Bool:=
 match k,a,b with
 | 0,.bool a,.bool b=>some (a==b)
 | 1,.int k a,.int k' b=>if k=k' then some (a==b) else none
 | 2,.str a,.str b=>some (decide (a=b))
 | _,_,_=>none
def gk:List Nat→List V→List V→Option Bool
 | [],[],[]=>some true
 | k::ks,a::as,b::bs=>match Aj k a b,gk ks as bs with
   | some x,some y=>some (x &&y)
   | _,_=>none
 | _,_,_=>none
def GZ:V→V→Option Bool
 | .nilp,.nilp=>some true
 | .nilp,.eptr .. | .nilp,.epk .. | .eptr ..,.nilp| .epk ..,.nilp=>some false
 | .epk i z _ 0,.epk i' z' _ 0=>if z=z'∧0 <z then some (i==i') else none
 | _,_=>none
def sj (t:Nat):List (Nat×Nat)→Option Nat
 | []=>none
 | (t',k)::ks=>bif Nat.beq t' t then some k else sj t ks
def cQ (op:BinOp) (x y:V):Option V:=
 match x,y with
 | .int k a,.int k' b=>
   match op with
   | .shl=>if b< 0 then none else some (.int k (k.wrap (a*2 ^ (min b.toNat k.bits))))
   | .shr=>if b< 0 then none else some (.int k (a.fdiv (2 ^ (min b.toNat k.bits))))
   | op=>
     if k=k' then
      match op with
      | .add=>some (.int k (k.wrap (a+b)))
      | .sub=>some (.int k (k.wrap (a - b)))
      | .mul=>some (.int k (k.wrap (a*b)))
      | .quo=>if b=0 then none else some (.int k (k.wrap (a.tdiv b)))
      | .rem=>if b=0 then none else some (.int k (a.tmod b))
      | .and| .or| .xor| .andNot=>ml op k a b
      | op=>ew op a b
     else none
 | .str a,.str b=>
   match op with
   | .add=>if a.length+b.length≤9223372036854775807 then some (.str (a++b)) else none
   | .eql=>some (.bool (decide (a=b)))
   | .neq=>some (.bool (!decide (a=b)))
   | .lss=>some (.bool (Op.bytesLess a b))
   | .leq=>some (.bool (Op.bytesLess a b || decide (a=b)))
   | .gtr=>some (.bool (!(Op.bytesLess a b || decide (a=b))))
   | .geq=>some (.bool (!Op.bytesLess a b))
   | _=>none
 | _,_=>none
def Fv (op:UnOp) (x:V):Option V:=
 match op,x with
 | .neg,.int k n=>some (.int k (k.wrap (0 - n)))
 | .not,.bool b=>some (.bool (!b))
 | .xor,.int k n=>ml .xor k (if k.signed then -1 else k.max) n
 | _,_=>none
def min2 (x y:V):Option V:=
 match x,y with
 | .int k a,.int k' b=>if k=k' then some (.int k (if b<a then b else a)) else none
 | _,_=>none
def max2 (x y:V):Option V:=
 match x,y with
 | .int k a,.int k' b=>if k=k' then some (.int k (if a<b then b else a)) else none
 | _,_=>none
def iZ (f:V→V→Option V) (x:V):List V→Option V
 | []=>some x
 | y::ys=>match f x y with
   | some z=>iZ f z ys
   | none=>none
def js (f:V→V→Option V):List V→Option V
 | []=>none
 | x::xs=>iZ f x xs
def rf:V→Option V
 | .nils=>some (.int .i64 0)
 | .lit _ xs=>some (.int .i64 xs.length)
 | .litk _ xs=>some (.int .i64 xs.length)
 | .sl _ _ _ len=>some (.int .i64 len)
 | _=>none
def cf (d:Nat):Option V→Option Nat
 | none=>some d
 | some (.int _ n)=>if 0≤n then some n.toNat else none
 | some _=>none
def gg (x:V) (lo hi:Option V):Option V:=
 match x with
 | .str s=>match cf 0 lo,cf s.length hi with
   | some l,some h=>if l≤h∧h≤s.length then some (.str ((s.drop l).take (h - l))) else none
   | _,_=>none
 | _=>none
def lr (sz:Nat) (x:V) (lo hi mx:Option V):Option V:=
 match x with
 | .nils=>match cf 0 lo,cf 0 hi,cf 0 mx with
   | some l,some h,some m=>if l≤h∧h≤m∧m≤0∧(hi.isSome=true∨mx.isNone=true) then some .nils else none
   | _,_,_=>none
 | .lit sz' xs=>if sz'=sz then match cf 0 lo,cf xs.length hi,mx with
    | some l,some h,none=>if l≤h∧h≤xs.length then some (.lit sz (bb xs l (h - l))) else none
    | some l,some h,some m=>match hi,cf 0 (some m) with
      | some _,some m=>if l≤h∧h≤m∧m≤xs.length then some (if m=l then .nils else .any) else none
      | _,_=>none
    | _,_,_=>none
   else none
 | _=>none
def eG:List V→List (Nat×Nat×V)→Option (List V)
 | cs,[]=>some cs
 | cs,(off,sz,v)::rest=>if v.cells.length=sz∧off+sz≤cs.length∧v.dX=true then eG (cs.take off++v.cells++cs.drop (off+sz)) rest else none
def gp:List (Nat×Nat×bg)→(List (Nat×Nat×V)→Act)→Act
 | [],k=>k []
 | (o,s,x)::ps,k=>ev x fun v=>gp ps fun vs=>k ((o,s,v)::vs)
def fu:List (Nat×bg)→(List (Nat×V)→Act)→Act
 | [],k=>k []
 | (i,x)::ps,k=>ev x fun v=>xn v fun v=>fu ps fun vs=>k ((i,v)::vs)
def j8:List (Nat×bg)→(List (Nat×V)→Act)→Act
 | [],k=>k []
 | (i,x)::ps,k=>ev x fun v=>j8 ps fun vs=>k ((i,v)::vs)
def cX (sz:Nat):List V→List (Nat×V)→Option (List V)
 | es,[]=>some es
 | es,(i,v)::rest=>if i<es.length∧aZ v sz=true then cX sz (es.set i v) rest else none
def content (sz:Nat) (x:V) (k:List V→Act):Act:=
 match x with
 | .nils=>k []
 | .lit sz' xs=>if sz'=sz then k xs else .fail
 | .sl r g off len=> .cr r fun o=>match o.es with
   | some es=>if o.gen=g∧o.sz=sz∧off+len≤es.length then k (bb es off len) else .fail
   | none=> .fail
 | .str s=>if sz=1 then k (s.map fun b=> .int .u8 b.toNat) else .fail
 | _=> .fail
def bytesOf:List V→Option (List UInt8)
 | []=>some []
 | .int .u8 n::vs=>if 0≤n∧n< 256 then(bytesOf vs).map (UInt8.ofNat n.toNat:: ·) else none
 | _=>none
def Q5 (r sz:Nat) (zero:V) (n:Nat) (parts:List (Nat×bg)):Act:=fu parts fun ps=>match cX sz (List.replicate n zero) ps with
 | some es=>if aZ zero sz &&decide (0 <sz∧n*sz≤16777216) then .cr r fun o=> .bW r {gen:=o.gen+1,sz,arr:=true,fz:=false,es:=some es} (.done (.sl r (o.gen+1) 0 n)) else .fail
 | none=> .fail
def DA (r sz dW:Nat) (s:V) (ys:List V):Act:=
 if ys.all (aZ · sz) &&decide (0 <sz) then match s with
 | .nils=>if ys.isEmpty then .done .nils else if ys.length≤dW then
     .cr r fun o=> .bW r {gen:=o.gen+1,sz,arr:=true,fz:=false,es:=some ys} (.done (.sl r (o.gen+1) 0 ys.length)) else .fail
 | .lit sz' xs=>if ys.isEmpty then .done (.lit sz' xs) else .fail
 | .sl r' g off len=> .cr r' fun o=>match o.es with
   | some es=>if o.gen=g∧o.arr=true∧o.fz=false∧o.sz=sz∧off+len≤es.length∧len+ys.length≤dW then
         if off+len+ys.length≤es.length then
          .bW r' {o with es:=some (overwrite es (off+len) ys)} (.done (.sl r' g off (len+ys.length)))
         else
          .bW r' {o with gen:=g+1,es:=some (bb es off len++ys)} (.done (.sl r' (g+1) 0 (len+ys.length)))
     else .fail
   | none=> .fail
 | _=> .fail
 else .fail
def B8:List Nat→List V→List V
 | k::ks,c::cs=> (match k,c with
   | (k+1),.nils=> .lit (k+1) []
   | _,c=>c)::B8 ks cs
 | _,cs=>cs
def Fi (ks:List Nat) (v:V):V:=match v with
 | .agg cs=> .agg (B8 ks cs)
 | .nils=> (match ks with
   | (k+1)::_=> .lit (k+1) []
   | _=> .nils)
 | v=>v
def BZ (v:V):Act:=match v with
 | .sl r g off len=> .cr r fun o=>match o.es with
   | some es=>if o.gen=g then kJ es fun es'=> .cr r fun o'=>if o'.gen=o.gen∧o'.es.isSome=true∧es'.all (aZ · o.sz)=true then .bW r {o' with es:=some es'} (.done (.sl r g off len)) else .fail else .fail
   | none=> .fail
 | v=> .done v
def DB:V→V→Option Bool
 | .int k a,.int k' b=>if k=k' then some (a==b) else none
 | .str a,.str b=>some (decide (a=b))
 | _,_=>none
def nQ (k:V):List V→Option (Option V)
 | []=>some none
 | .tuple [k',v]::es=>match DB k k' with
   | some true=>some (some v)
   | some false=>nQ k es
   | none=>none
 | _::_=>none
def lC (k v:V):List V→Option (List V)
 | []=>some [.tuple [k,v]]
 | .tuple [k',v']::es=>match DB k k' with
   | some true=>some (.tuple [k,v]::es)
   | some false=> (lC k v es).map (.tuple [k',v']:: ·)
   | none=>none
 | _::_=>none
def isKey (q:Option IntKind) (k:V):Bool:=match q,k with
 | some q,.int k _=>decide (k=q)
 | none,.str _=>true
 | _,_=>false
def jR (ok:Bool) (zero:V) (es:List V) (k:V):Act:=
 match nQ k es with
 | some (some v)=> .done (if ok then .tuple [v,.bool true] else v)
 | some none=> .done (if ok then .tuple [zero,.bool false] else zero)
 | none=> .fail
def aF (  E:Env):vb→Act
 | .move x=>ev x .done
 | .pick c a b=>ev c fun| .bool true=>ev a .done| .bool false=>ev b .done| _=> .fail
 | .new r sz x=>ev x fun v=>if aZ v sz &&decide (0 <sz) then .cr r fun o=> .bW r {gen:=o.gen+1,sz,arr:=false,fz:=false,es:=some [v]} (.done (.ptr r (o.gen+1) 0 0)) else .fail
 | .build cells parts=>gp parts fun ps=>match eG cells ps with
   | some cs=> .done (.agg cs)
   | none=> .fail
 | .buildSlice r sz zero n parts=>fu parts fun ps=>match cX sz (List.replicate n zero) ps with
   | some es=>if aZ zero sz &&decide (0 <sz∧n*sz≤16777216) then .cr r fun o=> .bW r {gen:=o.gen+1,sz,arr:=true,fz:=false,es:=some es} (.done (.sl r (o.gen+1) 0 n)) else .fail
   | none=> .fail
 | .cN r sz=>if 0 <sz then .cr r fun o=> .bW r {gen:=o.gen+1,sz,arr:=true,fz:=false,es:=some []} (.done (.sl r (o.gen+1) 0 0)) else .fail
 | .oY r x=>ev x fun
   | .sl r1 g off len=>if r1=r then .done (.sl r1 g off len) else .cr r1 fun o=>if o.gen=g then
       .cr r fun o'=> .bW r ⟨o'.gen+1,o.sz,o.arr,o.fz,o.es⟩ (.bW r1 ⟨o.gen+1,o.sz,o.arr,o.fz,none⟩ (.done (.sl r (o'.gen+1) off len))) else .fail
   | v=> .done v
 | .makeSlice r sz bytes zero len cap=>ev len fun l=>ev cap fun c=>match l,c with
   | .int _ n,.int _ m=>if 0≤n∧n≤m∧m*bytes≤140737488355328∧aZ zero sz∧0 <sz∧m≤9223372036854775807 then
       .cr r fun o=> .bW r {gen:=o.gen+1,sz,arr:=true,fz:=false,es:=some (List.replicate m.toNat zero)} (.done (.sl r (o.gen+1) 0 n.toNat)) else .fail
   | _,_=> .fail
 | .load agg sz x=>ev x fun
   | .ptr r g idx off=> .cr r fun o=>match o.es with
     | some es=>if o.gen=g then match es[idx]? with
         | some e=>dF (part agg off sz e)
         | none=> .fail
       else .fail
     | none=> .fail
   | .eptr e off=>dF (part agg off sz e)
   | .epk _ _ e off=>dF (part agg off sz e)
   | _=> .fail
 | .store agg sz x v=>ev x fun
   | .ptr r g idx off=> .cr r fun o=>if o.arr
     then ev v fun v=>xn v fun v=>mh agg sz r g idx off v
     else ev v fun v=>mh agg sz r g idx off v
   | _=> .fail
 | .nilCheck x=>ev x fun
   | .ptr r g idx off=> .done (.ptr r g idx off)
   | .eptr e off=> .done (.eptr e off)
   | .epk i z e off=> .done (.epk i z e off)
   | .fn f caps=> .done (.fn f caps)
   | .bfn f caps=> .done (.bfn f caps)
   | _=> .fail
 | .bin op x y=>ev x fun a=>ev y fun b=>dF (cQ op a b)
 | .tI neg x y=>ev x fun a=>ev y fun b=>match a,b with
   | .bool a,.bool b=> .done (.bool ((a==b) !=neg))
   | _,_=> .fail
 | .KC neg ks x y=>ev x fun a=>ev y fun b=>match a,b with
   | .agg as,.agg bs=>match gk ks as bs with
       | some b=> .done (.bool (b !=neg))
       | none=> .fail
   | _,_=> .fail
 | .un op x=>ev x fun a=>dF (Fv op a)
 | .il k x=>ev x fun| .int _ n=> .done (.int k (k.wrap n)) | _=> .fail
 | .yt x=>ev x fun| .int _ n=> .done (.float (FloatKind.f64.nearest n)) | _=> .fail
 | .yu k x=>ev x fun
   | .float b=>match (FloatKind.f64.decode b).toInt .zero with
     | some n=>if k.min≤n∧n≤k.max then .done (.int k n) else .fail
     | none=> .fail
   | _=> .fail
 | .tJ x=>ev x fun| .str s=> .done (.str s) | _=> .fail
 | .cU t x=>ev x fun v=> .done (.iface t v)
 | .assert t ok zero x=>ev x fun
   | .nili=>if ok then .done (.tuple [zero,.bool false]) else .fail
   | .iface t' v=>if t'=t then .done (if ok then .tuple [v,.bool true] else v) else if ok then .done (.tuple [zero,.bool false]) else .fail
   | _=> .fail
 | .iH f caps=>ym caps fun vs=> .done (.fn f vs)
 | .eX x lo hi=>ev x fun v=>Aa lo fun l=>Aa hi fun h=>dF (gg v l h)
 | .slice sz x lo hi mx=>ev x fun v=>Aa lo fun l=>Aa hi fun h=>Aa mx fun m=>match v with
   | .sl r g off len=> .cr r fun o=>match o.es with
     | some es=>if o.gen=g∧o.sz=sz then
         match cf 0 l,cf len h,m with
         | some l,some h,none=>if l≤h∧off+h≤es.length then .done (.sl r g (off+l) (h - l)) else .fail
         | some l,some h',some m=>match h,cf 0 (some m) with
           | some _,some m=>if l≤h'∧h'≤m∧off+m≤es.length then .done (if m=l then .nils else .any) else .fail
           | _,_=> .fail
         | _,_,_=> .fail
       else .fail
     | none=> .fail
   | v=>dF (lr sz v l h m)
 | .fieldAddr off x=>ev x fun
   | .ptr r g idx o=> .done (.ptr r g idx (o+off))
   | .eptr e o=> .done (.eptr e (o+off))
   | .epk i z e o=> .done (.epk i z e (o+off))
   | _=> .fail
 | .field agg off sz x=>ev x fun v=>if v.isAgg then dF (part agg off sz v) else .fail
 | .indexAddr sz x i=>ev x fun v=>ev i fun i=>match v,i with
   | .sl r g off len,.int _ n=> .cr r fun o=>if 0≤n∧n<len∧o.sz=sz∧o.gen=g then .done (.ptr r g (off+n.toNat) 0) else .fail
   | .lit sz' xs,.int _ n=>if 0≤n∧sz'=sz then match xs[n.toNat]? with
       | some e=> .done (.eptr e 0)
       | none=> .fail
     else .fail
   | .litk sz' xs,.int _ n=>if 0≤n∧sz'=sz∧0 <sz then match xs[n.toNat]? with
       | some e=> .done (.epk n.toNat sz e 0)
       | none=> .fail
     else .fail
   | _,_=> .fail
 | .bZ n sz x i=>ev x fun v=>ev i fun i=>match v,i with
   | .ptr r g idx off,.int _ j=>if 0≤j∧j<n then .done (.ptr r g idx (off+j.toNat*sz)) else .fail
   | .eptr e off,.int _ j=>if 0≤j∧j<n then .done (.eptr e (off+j.toNat*sz)) else .fail
   | _,_=> .fail
 | .cj x i=>ev x fun v=>ev i fun i=>match v,i with
   | .str s,.int _ n=>if 0≤n then match s[n.toNat]? with
       | some b=> .done (.int .u8 b.toNat)
       | none=> .fail
     else .fail
   | _,_=> .fail
 | .pr agg n sz x i=>ev x fun v=>ev i fun i=>match i with
   | .int _ j=>if 0≤j∧j<n∧v.isAgg then dF (part agg (j.toNat*sz) sz v) else .fail
   | _=> .fail
 | .len x=>ev x fun v=>dF (rf v)
 | .dM x=>ev x fun| .str s=> .done (.int .i64 s.length) | _=> .fail
 | .min xs=>ym xs fun vs=>dF (js min2 vs)
 | .max xs=>ym xs fun vs=>dF (js max2 vs)
 | .append r sz dW s x=>ev s fun s=>ev x fun x=>content sz x fun ys=>kJ ys fun ys=>
   if ys.all (aZ · sz) &&decide (0 <sz) then match s with
   | .nils=>if ys.isEmpty then .done .nils else if ys.length≤dW then
       .cr r fun o=> .bW r {gen:=o.gen+1,sz,arr:=true,fz:=false,es:=some ys} (.done (.sl r (o.gen+1) 0 ys.length)) else .fail
   | .lit sz' xs=>if ys.isEmpty then .done (.lit sz' xs) else .fail
   | .sl r' g off len=> .cr r' fun o=>match o.es with
     | some es=>if o.gen=g∧o.arr=true∧o.fz=false∧o.sz=sz∧off+len≤es.length∧len+ys.length≤dW then
           if off+len+ys.length≤es.length then
            .bW r' {o with es:=some (overwrite es (off+len) ys)} (.done (.sl r' g off (len+ys.length)))
           else
            .bW r' {o with gen:=g+1,es:=some (bb es off len++ys)} (.done (.sl r' (g+1) 0 (len+ys.length)))
       else .fail
     | none=> .fail
   | _=> .fail
   else .fail
 | .copy sz d s=>ev d fun d=>ev s fun s=>content sz s fun ys=>match d with
   | .nils=> .done (.int .i64 0)
   | .sl r g off len=> .cr r fun o=>match o.es with
     | some es=>
       if o.gen=g∧o.arr=true∧o.fz=false∧o.sz=sz∧off+len≤es.length∧(ys.take len).all (aZ · sz)=true then
         .bW r {o with es:=some (overwrite es off (ys.take len))} (.done (.int .i64 (ys.take len).length)) else .fail
     | none=> .fail
   | _=> .fail
 | .clear sz zero x=>ev x fun
   | .nils=> .done (.tuple [])
   | .sl r g off len=> .cr r fun o=>match o.es with
     | some es=>if o.gen=g∧o.arr=true∧o.fz=false∧o.sz=sz∧off+len≤es.length∧aZ zero sz then
         .bW r {o with es:=some (overwrite es off (List.replicate len zero))} (.done (.tuple [])) else .fail
     | none=> .fail
   | _=> .fail
 | .extract x i=>ev x fun
   | .tuple vs=>dF vs[i]?
   | _=> .fail
 | .call r b6 f args=>ev f fun
   | .fn f caps=>ym args fun as=>pq E r b6 f (as++caps)
   | .bfn f first=>ym args fun as=>pq E r b6 f (first++as)
   | _=> .fail
 | .j9 i r sz zero n parts=>ev (.tmp i) fun| .int _ j=>Q5 (r+16*j.toNat) sz zero n parts| _=> .fail
 | .tK r sz dW s x=>ev s fun s=>ev x fun x=>content sz x fun ys=>DA r sz dW s ys
 | .deep x=>ev x BZ
 | .AG ks agg sz x=>ev x fun
   | .ptr r g idx off=> .cr r fun o=>match o.es with
     | some es=>if o.gen=g then match es[idx]? with
         | some e=>dF ((part agg off sz e).map (Fi ks))
         | none=> .fail
       else .fail
     | none=> .fail
   | .eptr e off=>dF ((part agg off sz e).map (Fi ks))
   | .epk _ _ e off=>dF ((part agg off sz e).map (Fi ks))
   | _=> .fail
 | .ka r sz zero n parts=>j8 parts fun ps=>match cX sz (List.replicate n zero) ps with
   | some es=>if aZ zero sz &&decide (0 <sz∧n*sz≤16777216) then .cr r fun o=> .bW r {gen:=o.gen+1,sz,arr:=true,fz:=false,es:=some es} (.done (.sl r (o.gen+1) 0 n)) else .fail
   | none=> .fail
 | .mkMap r=> .cr r fun o=> .bW r {gen:=o.gen+1,sz:=0,arr:=false,fz:=false,es:=some []} (.done (.mp r (o.gen+1)))
 | .pw q x k v=>ev x fun
   | .mp r g=>ev k fun k=>ev v fun v=>xn v fun v=> .cr r fun o=>match o.es with
     | some es=>if o.gen=g∧o.sz=0∧o.fz=false∧isKey q k=true∧v.dX=true then(match lC k v es with
         | some es'=> .bW r {o with es:=some es'} (.done (.tuple []))
         | none=> .fail) else .fail
     | none=> .fail
   | _=> .fail
 | .vA q ok zero x k=>ev x fun x=>ev k fun k=>if isKey q k then(match x with
   | .mp r g=> .cr r fun o=>match o.es with
     | some es=>if o.gen=g∧o.sz=0 then jR ok zero es k else .fail
     | none=> .fail
   | .mlit es=>jR ok zero es k
   | _=> .fail) else .fail
 | .FA x=>ev x fun v=> (match v with
   | .fn .. =>snap v fun v' rs=>dg rs (.done v')
   | _=>xn v .done)
 | .qF r x=>ev x fun
   | .str s=> .cr r fun o=> .bW r {gen:=o.gen+1,sz:=0,arr:=false,fz:=false,es:=some [.str s,.int .i64 0]} (.done (.it r (o.gen+1)))
   | _=> .fail
 | .qG x=>  ev x fun
   | .it r g=> .cr r fun o=>match o.es with
     | some [.str s,.int .i64 p]=>if o.gen=g∧o.sz=0∧o.fz=false then
         (if p.toNat<s.length then .bW r {o with es:=some [.str s,.int .i64 ((p.toNat+(Utf8.decode ⟨s.toArray⟩ p.toNat).2:Nat):Int)]}
           (.done (.tuple [.bool true,.int .i64 (p.toNat:Int),.int .i32 ((Utf8.decode ⟨s.toArray⟩ p.toNat).1:Int)]))
         else .done (.tuple [.bool false])) else .fail
     | _=> .fail
   | _=> .fail
 | .YC neg ks x y=>ev x fun a=>ev y fun b=>match a,b with
   | .iface t p,.iface t' q=>if t=t' then(match sj t ks with
       | some k=> (match Aj k p q with
         | some b=> .done (.bool (b !=neg))
         | none=> .fail)
       | none=> .fail) else .fail
   | .nili,.iface _ _=> .done (.bool neg)
   | .iface _ _,.nili=> .done (.bool neg)
   | _,_=> .fail
 | .Sk neg x y=>ev x fun a=>ev y fun b=>dF ((GZ a b).map fun c=> .bool (c !=neg))
 | .mapIter r x=>ev x fun
   | .mlit es=> .cr r fun o=> .bW r {gen:=o.gen+1,sz:=0,arr:=false,fz:=false,es:=some [.mlit es]} (.done (.it r (o.gen+1)))
   | _=> .fail
 | .mX x=>ev x fun
   | .str s=> .done (.lit 1 (s.map fun b=> .int .u8 b.toNat))
   | _=> .fail
 | .kb x=>ev x fun
   | .str _=> .fail
   | x=>content 1 x fun ys=>dF ((bytesOf ys).map .str)
 | .qH f xs=>ym xs fun vs=> .done (.bfn f vs)
 | .yw r sz x=>ev x fun v=>xn v fun v=>if aZ v sz &&decide (0 <sz) then .cr r fun o=> .bW r {gen:=o.gen+1,sz,arr:=false,fz:=false,es:=some [v]} (.done (.ptr r (o.gen+1) 0 0)) else .fail
 | .qI r g N sz s x=>ev s fun s=>ev x fun x=>content sz x fun ys=>if ys.all (aZ · sz) &&decide (0 <sz) then match s with
   | .sl r' g' off len=>if r'=r∧g'=g∧off=0∧0 <ys.length∧len+ys.length≤N then .cr r fun o=>match o.es with
     | some es=>if o.gen=g∧o.fz=false∧o.sz=sz∧es.length=len then .bW r {o with es:=some (es++ys)} (.done (.sl r g 0 (len+ys.length))) else .fail
     | none=> .fail
     else .fail
   | _=> .fail
   else .fail
 | .qJ m r g N sz dW s x=>ev s fun s=>ev x fun x=>content sz x fun ys=>if ys.all (aZ · sz) &&decide (0 <sz) then match s with
   | .sl r' g' off len=>if r'=r∧g'=g∧off=0∧0 <ys.length∧N<len+ys.length∧len+ys.length≤dW then .cr r fun o=>match o.es with
     | some es=>if o.gen=g∧o.fz=false∧o.sz=sz∧es.length=len then
         .cr m fun om=> .bW m {gen:=om.gen+1,sz,arr:=true,fz:=false,es:=some (es++ys)} (.done (.sl m (om.gen+1) 0 (len+ys.length))) else .fail
     | none=> .fail
     else .fail
   | _=> .fail
   else .fail
 | .bad=> .fail
where
 mh ( agg:Bool) (sz r g idx off:Nat) (v:V):Act:=
  .cr r fun o=>match o.es with
   | some es=>if o.gen=g∧o.fz=false then match es[idx]? with
       | some e=>match dY agg off sz e v with
         | some e'=> .bW r {o with es:=some (es.set idx e')} (.done (.tuple []))
         | none=> .fail
       | none=> .fail
     else .fail
   | none=> .fail
def eM (E:Env) (o:cF):Act:=
 match o.guard with
 | none=>aF E o.op
 | some (t,want)=> .oR t fun
   | .bool b=>if b=want then aF E o.op else .done fj
   | .tuple []=> .done fj
   | _=> .fail
structure St where
 T:Nat→V
 O:Nat→Obj
def eI {α:Type} (f:Nat→α) (t:Nat) (v:α):Nat→α:=fun n=>if n=t then v else f n
abbrev bO:=Nat→List V→Option iE
def Act.run (C:bO):Act→St→Option (V×St)
 | .done v,σ=>some (v,σ)
 | .fail,_=>none
 | .oR t k,σ=> (k (σ.T t)).run C σ
 | .cr r k,σ=> (k (σ.O r)).run C σ
 | .bW r o k,σ=>k.run C {σ with O:=eI σ.O r o}
 | .call f as k,σ=>match C f as with
   | some res=> (k res).run C σ
   | none=>none
def St.put (σ:St) (dst:Option Nat) (v:V):St:=
 match dst with
 | some d=> {σ with T:=eI σ.T d v}
 | none=>σ
def fU (E:Env) (C:bO) (o:cF) (σ:St):Option St:=
 match (eM E o).run C σ with
 | some (v,σ')=>some (σ'.put o.dst v)
 | none=>none
def ko (E:Env) (C:bO):List cF→St→Option St
 | [],σ=>some σ
 | o::os,σ=>match fU E C o σ with
   | some σ'=>ko E C os σ'
   | none=>none
inductive Loc where
 | t (n:Nat)
 | o (n:Nat)
 deriving DecidableEq
structure fK where
 reads:List Loc
 writes:List Loc
def Act.fi (C:bO):Act→St→fK
 | .done _,_=> ⟨[],[]⟩
 | .fail,_=> ⟨[],[]⟩
 | .oR t k,σ=>let f:=(k (σ.T t)).fi C σ; ⟨.t t::f.reads,f.writes⟩
 | .cr r k,σ=>let f:=(k (σ.O r)).fi C σ; ⟨.o r::f.reads,f.writes⟩
 | .bW r o k,σ=>let f:=k.fi C {σ with O:=eI σ.O r o}; ⟨f.reads,.o r::f.writes⟩
 | .call f as k,σ=>match C f as with
   | some res=> (k res).fi C σ
   | none=> ⟨[],[]⟩
def dH (E:Env) (C:bO) (o:cF) (σ:St):fK:=
 let f:=(eM E o).fi C σ
 ⟨f.reads,(match o.dst with| some d=> [.t d] | none=> [])++f.writes⟩
def meets (a b:List Loc):Bool:=a.any b.contains
def fK.oH (a b:fK):Bool:=meets a.writes b.writes || meets a.writes b.reads || meets a.reads b.writes
def closure (before:List (List Nat)) (pre:List Nat):List Nat:=pre++pre.flatMap fun i=>before.getD i []
def fits (cL:List fK) (wait:List Nat) (f:fK):Nat→Bool
 | 0=>true
 | i+1=> (wait.contains i || !(cL.getD i ⟨[],[]⟩).oH f) &&fits cL wait f i
def eV (E:Env) (C:bO):List cF→List fK→List (List Nat)→St→Option St
 | [],_,_,σ=>some σ
 | o::os,cL,before,σ=>
   let f:=dH E C o σ
   let wait:=closure before o.pre
   if fits cL wait f cL.length &&o.pre.all (· <cL.length) then
    match fU E C o σ with
    | some σ'=>eV E C os (cL++[f]) (before++[wait]) σ'
    | none=>none
   else none
inductive bF where
 | normal
 | exit (id:Nat)
 | ret
def bM (σ:St):bg→V
 | .tmp t=>σ.T t
 | .const v=>v
mutual
def V.beq:V→V→Bool
 | .bool a,.bool b=>a==b
 | .int k n,.int k' n'=>decide (k=k') &&decide (n=n')
 | .float a,.float b=>Nat.beq a b
 | .str a,.str b=>decide (a=b)
 | .agg a,.agg b=>V.oT a b
 | .tuple a,.tuple b=>V.oT a b
 | .nilp,.nilp=>true
 | .nilfn,.nilfn=>true
 | .nili,.nili=>true
 | .fn f a,.fn g b=>Nat.beq f g &&V.oT a b
 | .bfn f a,.bfn g b=>Nat.beq f g &&V.oT a b
 | .iface t a,.iface t' b=>Nat.beq t t' &&V.beq a b
 | .nils,.nils=>true
 | .lit s a,.lit s' b=>Nat.beq s s' &&V.oT a b
 | .own s a,.own s' b=>Nat.beq s s' &&V.oT a b
 | .sl a b c d,.sl a' b' c' d'=>Nat.beq a a' && (Nat.beq b b' && (Nat.beq c c' &&Nat.beq d d'))
 | .ptr a b c d,.ptr a' b' c' d'=>Nat.beq a a' && (Nat.beq b b' && (Nat.beq c c' &&Nat.beq d d'))
 | .eptr e a,.eptr e' a'=>V.beq e e' &&Nat.beq a a'
 | .mp a b,.mp a' b'=>Nat.beq a a' &&Nat.beq b b'
 | .mlit a,.mlit b=>V.oT a b
 | .it a b,.it a' b'=>Nat.beq a a' &&Nat.beq b b'
 | .litk s a,.litk s' b=>Nat.beq s s' &&V.oT a b
 | .epk a b e c,.epk a' b' e' c'=>Nat.beq a a' && (Nat.beq b b' && (V.beq e e' &&Nat.beq c c'))
 | .any,.any=>true
 | .msl s a b c,.msl s' a' b' c'=>Nat.beq s s' && (V.oT a a' && (Nat.beq b b' &&Nat.beq c c'))
 | .mptr s a b c,.mptr s' a' b' c'=>Nat.beq s s' && (V.oT a a' && (Nat.beq b b' &&Nat.beq c c'))
 | _,_=>false
def V.oT:List V→List V→Bool
 | [],[]=>true
 | a::as,b::bs=>V.beq a b &&V.oT as bs
 | _,_=>false
end
def KL:Option (List V)→Option (List V)→Bool
 | none,none=>true
 | some a,some b=>V.oT a b
 | _,_=>false
def Obj.beq (a b:Obj):Bool:=Nat.beq a.gen b.gen && (Nat.beq a.sz b.sz && ((a.arr==b.arr) && ((a.fz==b.fz) &&KL a.es b.es)))
def nR {α:Type} (x:α):List α→List (List α)
 | []=> [[x]]
 | y::ys=> (x::y::ys):: (nR x ys).map (y:: ·)
def perms {α:Type}:List α→List (List α)
 | []=> [[]]
 | x::xs=> (perms xs).flatMap (nR x)
def xp (it r g:Nat) (σ:St):Bool:=match σ.T it with
 | .it r' g'=>Nat.beq r' r && (Nat.beq g' g &&Nat.beq (σ.O r).gen g)
 | _=>false
def runK (rec:aB→St→Option (bF×St)) (it r g nx ne id:Nat) (ahead body last:aB):List V→St→Option St
 | [],σ=>  if xp it r g σ then(match rec ahead (σ.put (some nx) (.tuple [.bool false])) with
     | some (.exit kj,σ')=>if kj=id then(match rec last σ' with
          | some (.normal,σ'')=>some σ''
          | _=>none) else none
     | _=>none) else none
 | e::p,σ=>match e with
   | .tuple [k,v]=>if xp it r g σ then(match rec ahead (σ.put (some nx) (.tuple [.bool true,k,v])) with
      |   some (.normal,σ1)=>if xp it r g σ1 then(match rec body (σ1.put (some ne) (.tuple [k,v])) with
          | some (.normal,σ')=>runK rec it r g nx ne id ahead body last p σ'
          | _=>none) else none
      | _=>none) else none
   | _=>none
def kL {α β:Type} (f:α→Option β):List α→Option (List β)
 | []=>some []
 | x::xs=>match f x,kL f xs with
   | some y,some ys=>some (y::ys)
   | _,_=>none
def tM (kT kO:List Nat) (σ1 σ:St):Bool:=kT.all (fun t=>V.beq (σ.T t) (σ1.T t)) &&kO.all fun r=>Obj.beq (σ.O r) (σ1.O r)
def forget (kT kO:List Nat) (σ1:St) (σs:List St):St:=
 {T:=fun t=>if kT.contains t then σ1.T t else .any
  O:=fun r=>if kO.contains r then σ1.O r else {gen:=(σ1::σs).foldr (fun σ m=>max (σ.O r).gen m) 0+1,sz:=0,arr:=false,fz:=false,es:=none}}
def pB (T:Nat→V) (ps:List Nat) (x:List V):Nat→V:=(ps.zip x).foldl (fun T p=>eI T p.1 p.2) T
def tL (rec:aB→St→Option (bF×St)) (ps:List Nat) (ZY body:aB) (T:Nat→V):List (List V)→(Nat→Obj)→Option (bF×St)
 | [],O=>some (.normal,⟨T,O⟩)
 | x::xs,O=>match rec ZY ⟨pB T ps x,O⟩ with
   | some (.normal,σ1)=>match rec body σ1 with
     | some (.normal,σ2)=>tL rec ps ZY body T xs σ2.O
     | some (e,σ2)=>some (e,⟨T,σ2.O⟩)
     | none=>none
   | _=>none
def aT ( E:Env) (C:bO) (rec:aB→St→Option (bF×St)):aB→St→Option (bF×St)
 | .skip,σ=>some (.normal,σ)
 | .region ops,σ=> (ko E C ops σ).map fun σ=> (.normal,σ)
 | .drawn ops,σ=> (eV E C ops [] [] σ).map fun σ=> (.normal,σ)
 | .seq a b,σ=>match rec a σ with
   | some (.normal,σ')=>rec b σ'
   | r=>r
 | .cond c a b,σ=>match bM σ c with
   | .bool true=>rec a σ
   | .bool false=>rec b σ
   | _=>none
 | .block id b,σ=>match rec b σ with
   | some (.exit kj,σ')=>if kj=id then some (.normal,σ') else some (.exit kj,σ')
   | r=>r
 | .loop b,σ=>match rec b σ with
   | some (.normal,σ')=>rec (.loop b) σ'
   | r=>r
 | .exit id,σ=>some (.exit id,σ)
 | .ret,σ=>some (.ret,σ)
 | .scope b,σ=>rec b σ
 | .bad,_=>none
 | .keys it nx ne id kT kO ahead body last,σ=>match σ.T it with
   | .it r g=> (match (σ.O r).es with
     | some [.mlit es]=>if (σ.O r).gen=g∧(σ.O r).sz=0∧(σ.O r).fz=false then
        (match kL (fun p=>runK rec it r g nx ne id ahead body last p ⟨σ.T,eI σ.O r ⟨g,0,false,false,none⟩⟩) (perms es) with
        | some (σ1::σs)=>if σs.all (tM kT kO σ1) then some (.normal,forget kT kO σ1 σs) else none
        | _=>none) else none
     | _=>none)
   | _=>none
 | .pf x ps ZY body,σ=>match bM σ x with
   | .fn g caps=>match E.iter g caps with
     | some xs=>if xs.all (fun x=>Nat.beq x.length ps.length)=true then tL rec ps ZY body σ.T xs σ.O else none
     | none=>none
   | _=>none
def cb:Obj:={gen:=0,sz:=0,arr:=false,fz:=false,es:=none}
def enter (args:List V):St:=
 {T:=fun t=>match args[t]? with
   | some (.msl _ _ off len)=> .sl t 0 off len
   | some (.mptr _ _ idx off)=> .ptr t 0 idx off
   | some v=>v
   | none=>fj
  O:=fun r=>match args[r]? with
   | some (.msl sz es _ _)=> {gen:=0,sz,arr:=true,fz:=false,es:=some es}
   | some (.mptr sz es _ _)=> {gen:=0,sz,arr:=false,fz:=false,es:=some es}
   | _=>cb}
def cp (n:Nat) (σ:St) (c:V):Option (V×List Nat):=
 match c with
 | .sl r g off len=>match (σ.O r).es with
   | some es=>if (σ.O r).gen=g∧off+len≤es.length∧(σ.O r).arr=true∧V.ae (bb es off len)=true then
      if r<n then some (.sl r g off len,[r])
      else if (σ.O r).fz then some (.lit (σ.O r).sz (bb es off len),[]) else some (.own (σ.O r).sz (bb es off len),[r])
     else none
   | none=>none
 | c=>if c.aj then some (c,[]) else none
def bV (n:Nat) (σ:St):List V→Option (List V×List Nat)
 | []=>some ([],[])
 | c::cs=>match cp n σ c,bV n σ cs with
   | some (c',r),some (dC,rs)=>some (c'::dC,r++rs)
   | _,_=>none
def dI (n:Nat) (σ:St) (v:V):Option (V×List Nat):=
 if v.aj then some (v,[]) else
 match v with
 | .agg cs=>match bV n σ cs with
   | some (dC,rs)=>some (.agg dC,rs)
   | none=>none
 | .fn f cs=>match bV n σ cs with
   | some (dC,rs)=>if V.ae dC then some (.fn f dC,rs) else none
   | none=>none
 | v=>cp n σ v
def da (n:Nat) (σ:St):List V→Option (List V×List Nat)
 | []=>some ([],[])
 | c::cs=>match dI n σ c,da n σ cs with
   | some (c',r),some (dC,rs)=>some (c'::dC,r++rs)
   | _,_=>none
def fV ( σ:St):sf→Option V
 | .tmp t=>some (σ.T t)
 | .cell t agg sz=>match σ.T t with
   | .ptr r g idx off=>match (σ.O r).es with
     | some es=>if (σ.O r).gen=g then match es[idx]? with
        | some e=>part agg off sz e
        | none=>none
       else none
     | none=>none
   | _=>none
def dL (σ:St):List sf→Option (List V)
 | []=>some []
 | r::rs=>match fV σ r,dL σ rs with
   | some v,some vs=>some (v::vs)
   | _,_=>none
def cA (O:Nat→Obj):Nat→List V→Option (List (Nat×List V))
 | _,[]=>some []
 | i,.msl sz .. ::as| i,.mptr sz .. ::as=>match (O i).es,cA O (i+1) as with
   | some es,some outs=>if (O i).fz=false∧(O i).sz=sz∧V.ae es=true then some (((O i).gen,es)::outs) else none
   | _,_=>none
 | i,_::as=>cA O (i+1) as
mutual
def V.erase:V→V
 | .litk sz xs=> .lit sz (V.erases xs)
 | .epk _ _ e off=> .eptr (V.erase e) off
 | .agg cs=> .agg (V.erases cs)
 | .tuple cs=> .tuple (V.erases cs)
 | .fn f cs=> .fn f (V.erases cs)
 | .bfn f cs=> .bfn f (V.erases cs)
 | .iface t v=> .iface t (V.erase v)
 | .lit sz xs=> .lit sz (V.erases xs)
 | .own sz xs=> .own sz (V.erases xs)
 | .eptr e off=> .eptr (V.erase e) off
 | .mlit es=> .mlit (V.erases es)
 | .msl sz es off len=> .msl sz es off len
 | .mptr sz es idx off=> .mptr sz es idx off
 | .bool b=> .bool b
 | .int k n=> .int k n
 | .float b=> .float b
 | .str s=> .str s
 | .nilp=> .nilp
 | .nilfn=> .nilfn
 | .nili=> .nili
 | .nils=> .nils
 | .sl r g off len=> .sl r g off len
 | .ptr r g idx off=> .ptr r g idx off
 | .mp r g=> .mp r g
 | .it r g=> .it r g
 | .any=> .any
def V.erases:List V→List V
 | []=> []
 | v::vs=>V.erase v::V.erases vs
end
def yF (v:V):V:=match v with
 | .lit sz xs=> .litk sz xs
 | v=>v
def DC (c:Nat) (v:V):V:=match v with
 | .agg cs=> .agg (cs.modify c yF)
 | v=>v
def eo (p:Nat×Nat) (args:List V):List V:=(V.erases args).modify p.1 (DC p.2)
def leave (af:aU) (args:List V) (σ:St):Option iE:=
 match dL σ af.results,cA σ.O 0 args with
 | some vs,some outs=>match da args.length σ vs with
   | some ([v],rs)=>if distinct rs then some ⟨v,outs⟩ else none
   | some (vs,rs)=>if distinct rs then some ⟨.tuple vs,outs⟩ else none
   | none=>none
 | _,_=>none
def kp ( E:Env) (rec:aB→St→Option (bF×St)):bO:=fun f args=>
 match E.ext f args with
 | some r=>some r
 | none=>match E.fn f with
   | some af=>if args.length=af.nparams then match af.tag with
      | none=> (match rec af.body (enter args) with
        | some (.normal,σ) | some (.ret,σ)=>leave af args σ
        | _=>none)
      | some p=>if V.ae args=true then(match rec af.body (enter (eo p args)) with
        | some (.normal,σ) | some (.ret,σ)=> (leave af (eo p args) σ).map fun res=> ⟨res.val.erase,[]⟩
        | _=>none) else none
     else none
   | none=>none
def eH (E:Env) (rec:aB→St→Option (bF×St)):bO:=fun f args=>
 match E.hyb f with
 | some h=>h (kp E rec) args
 | none=>kp E rec f args
def exec (E:Env):Nat→aB→St→Option (bF×St)
 | 0=>fun _ _=>none
 | n+1=>aT E (eH E (exec E n)) (exec E n)
def call (E:Env) (n:Nat):bO:=eH E (exec E n)
end Go.AM
namespace Go.AM
mutual
theorem V.beq_eq: ∀ {a b:V},V.beq a b=true→a=b
 | .bool _,b,h| .int ..,b,h| .float _,b,h| .str _,b,h| .nilp,b,h| .nilfn,b,h| .nili,b,h| .nils,b,h| .any,b,h=>by
   cases b<;>simp_all[V.beq]
 | .sl ..,b,h| .ptr ..,b,h| .mp ..,b,h| .it ..,b,h=>by
   cases b<;>simp_all[V.beq]
 | .msl s as o l,b,h=>by
   cases b<;>simp only[V.beq,Bool.and_eq_true,Nat.beq_eq,reduceCtorEq,Bool.false_eq_true] at h
   rw[h.1,V.im h.2.1,h.2.2.1,h.2.2.2]
 | .mptr s as o l,b,h=>by
   cases b<;>simp only[V.beq,Bool.and_eq_true,Nat.beq_eq,reduceCtorEq,Bool.false_eq_true] at h
   rw[h.1,V.im h.2.1,h.2.2.1,h.2.2.2]
 | .agg as,b,h=>by
   cases b<;>simp only[V.beq,reduceCtorEq,Bool.false_eq_true] at h
   rw[V.im h]
 | .tuple as,b,h=>by
   cases b<;>simp only[V.beq,reduceCtorEq,Bool.false_eq_true] at h
   rw[V.im h]
 | .mlit as,b,h=>by
   cases b<;>simp only[V.beq,reduceCtorEq,Bool.false_eq_true] at h
   rw[V.im h]
 | .bfn f as,b,h=>by
   cases b<;>simp only[V.beq,Bool.and_eq_true,Nat.beq_eq,reduceCtorEq,Bool.false_eq_true] at h
   rw[h.1,V.im h.2]
 | .fn f as,b,h=>by
   cases b<;>simp only[V.beq,Bool.and_eq_true,Nat.beq_eq,reduceCtorEq,Bool.false_eq_true] at h
   rw[h.1,V.im h.2]
 | .iface t a,b,h=>by
   cases b<;>simp only[V.beq,Bool.and_eq_true,Nat.beq_eq,reduceCtorEq,Bool.false_eq_true] at h
   rw[h.1,V.beq_eq h.2]
 | .lit s as,b,h=>by
   cases b<;>simp only[V.beq,Bool.and_eq_true,Nat.beq_eq,reduceCtorEq,Bool.false_eq_true] at h
   rw[h.1,V.im h.2]
 | .litk s as,b,h=>by
   cases b<;>simp only[V.beq,Bool.and_eq_true,Nat.beq_eq,reduceCtorEq,Bool.false_eq_true] at h
   rw[h.1,V.im h.2]
 | .own s as,b,h=>by
   cases b<;>simp only[V.beq,Bool.and_eq_true,Nat.beq_eq,reduceCtorEq,Bool.false_eq_true] at h
   rw[h.1,V.im h.2]
 | .eptr e o,b,h=>by
   cases b<;>simp only[V.beq,Bool.and_eq_true,Nat.beq_eq,reduceCtorEq,Bool.false_eq_true] at h
   rw[h.2,V.beq_eq h.1]
 | .epk i z e o,b,h=>by
   cases b<;>simp only[V.beq,Bool.and_eq_true,Nat.beq_eq,reduceCtorEq,Bool.false_eq_true] at h
   rw[h.1,h.2.1,V.beq_eq h.2.2.1,h.2.2.2]
theorem V.im: ∀ {a b:List V},V.oT a b=true→a=b
 | [],[],_=>rfl
 | [],_::_,h=>by simp[V.oT] at h
 | _::_,[],h=>by simp[V.oT] at h
 | a::as,b::bs,h=>by
   simp only[V.oT,Bool.and_eq_true] at h
   rw[V.beq_eq h.1,V.im h.2]
end
mutual
theorem V.lD: ∀ (a:V),V.beq a a=true
 | .bool _| .int .. | .float _| .str _| .nilp| .nilfn| .nili| .nils| .any| .sl .. | .ptr .. | .mp .. | .it .. =>by simp[V.beq]
 | .agg as| .tuple as| .mlit as=>by simp only[V.beq];exact V.mZ as
 | .fn f as| .bfn f as| .lit f as| .litk f as| .own f as=>by
   simp only[V.beq,Nat.beq_refl,Bool.true_and]
   exact V.mZ as
 | .msl f as _ _| .mptr f as _ _=>by
   simp only[V.beq,Nat.beq_refl,Bool.true_and,Bool.and_true]
   exact V.mZ as
 | .iface t a=>by
   simp only[V.beq,Nat.beq_refl,Bool.true_and]
   exact V.lD a
 | .eptr e o=>by
   simp only[V.beq,Nat.beq_refl,Bool.and_true]
   exact V.lD e
 | .epk i z e o=>by
   simp only[V.beq,Nat.beq_refl,Bool.true_and,Bool.and_true]
   exact V.lD e
theorem V.mZ: ∀ (a:List V),V.oT a a=true
 | []=>rfl
 | a::as=>by simp only[V.oT,V.lD a,V.mZ as,Bool.and_self]
end
theorem Obj.beq_eq {a b:Obj} (h:Obj.beq a b=true):a=b:=by
 obtain⟨g,s,r,f,es⟩:=a
 obtain⟨g',s',r',f',es'⟩:=b
 simp only[Obj.beq,Bool.and_eq_true,Nat.beq_eq,beq_iff_eq] at h
 obtain⟨rfl,rfl,rfl,rfl,h⟩:=h
 congr 1
 unfold KL at h
 split at h
 · rfl
 · rw[V.im h]
 · simp at h
theorem Obj.lD (a:Obj):Obj.beq a a=true:=by
 obtain⟨g,s,r,f,es⟩:=a
 simp only[Obj.beq,Nat.beq_refl,beq_self_eq_true,Bool.true_and]
 unfold KL
 cases es with
 | none=>rfl
 | some es=>exact V.mZ es
section
variable {α β:Type}
theorem yG {x:α}: ∀ {l p:List α},p ∈ nR x l→p.Perm (x::l)
 | [],p,h=>by simp[nR] at h;subst h;exact .refl _
 | y::ys,p,h=>by
   simp only[nR,List.mem_cons,List.mem_map] at h
   rcases h with rfl| ⟨q,hq,rfl⟩
   · exact .refl _
   · exact((yG hq).cons y).trans (.swap x y ys)
theorem yH {x:α}: ∀ {a b:List α},a++x::b ∈ nR x (a++b)
 | [],[]=>by simp[nR]
 | [],y::ys=>by simp[nR]
 | y::a,b=>by
   simp only[List.cons_append,nR,List.mem_cons,List.mem_map]
   exact .inr ⟨_,yH,rfl⟩
theorem wy: ∀ {l p:List α},p ∈ perms l→p.Perm l
 | [],p,h=>by simp[perms] at h;subst h;exact .refl _
 | x::xs,p,h=>by
   simp only[perms,List.mem_flatMap] at h
   obtain⟨q,hq,hp⟩:=h
   exact(yG hp).trans ((wy hq).cons x)
theorem pC: ∀ {l p:List α},p.Perm l→p ∈ perms l
 | [],p,h=>by rw[h.eq_nil];simp[perms]
 | x::xs,p,h=>by
   obtain⟨a,b,rfl⟩:=List.append_of_mem (h.mem_iff.2 (by simp):x ∈ p)
   have h': (a++b).Perm xs:=List.Perm.cons_inv (List.perm_middle.symm.trans h)
   simp only[perms,List.mem_flatMap]
   exact⟨a++b,pC h',yH⟩
theorem wB {f:α→Option β}: ∀ {l:List α} {ys:List β},kL f l=some ys→ ∀x ∈ l,∃y ∈ ys,f x=some y
 | [],ys,_,x,hx=>by simp at hx
 | a::l,ys,h,x,hx=>by
   simp only[kL] at h
   split at h
   · rename_i y ys' h1 h2
     injection h with h;subst h
     rcases List.mem_cons.1 hx with rfl| hx
     · exact⟨y,by simp,h1⟩
     · obtain⟨z,hz,e⟩:=wB h2 x hx
       exact⟨z,by simp[hz],e⟩
   · simp at h
theorem nE {f f':α→Option β} (h: ∀x y,f x=some y→f' x=some y): ∀ {l:List α} {ys:List β},kL f l=some ys→kL f' l=some ys
 | [],ys,e=>e
 | a::l,ys,e=>by
   simp only[kL] at e ⊢
   split at e
   · rename_i y ys' h1 h2
     rw[h _ _ h1,nE h h2];exact e
   · simp at e
theorem yA {f:Nat→α→Option β} (hm: ∀n m x y,n≤m→f n x=some y→f m x=some y) {P:β→Prop}: ∀ {l:List α},(∀x ∈ l,∃n y,f n x=some y∧P y)→ ∃n ys,kL (f n) l=some ys∧ys.length=l.length∧ ∀y ∈ ys,P y
 | [],_=> ⟨0,[],rfl,rfl,by simp⟩
 | a::l,h=>by
   obtain⟨n1,y,h1,h2⟩:=h a (by simp)
   obtain⟨n2,ys,h3,h4,h5⟩:=yA hm (l:=l) fun x hx=>h x (by simp[hx])
   refine⟨max n1 n2,y::ys,?_,by simp[h4],?_⟩
   · have e1:=hm n1 (max n1 n2) a y (Nat.le_max_left ..) h1
     have e2:=nE (f:=f n2) (f':=f (max n1 n2)) (fun x y h=>hm n2 _ x y (Nat.le_max_right ..) h) h3
     simp only[kL,e1,e2]
   · intro z hz
     rcases List.mem_cons.1 hz with rfl| hz
     · exact h2
     · exact h5 z hz
end
theorem qA {  r r':aB→St→Option (bF×St)} (h: ∀c σ x,r c σ=some x→r' c σ=some x) {it ri g nx ne id:Nat} {ahead body last:aB}: ∀ {p:List V} {σ σ':St},runK r it ri g nx ne id ahead body last p σ=some σ'→runK r' it ri g nx ne id ahead body last p σ=some σ'
 | [],σ,σ',e=>by
   simp only[runK] at e ⊢
   split at e
   · rename_i hi
     rw[if_pos hi]
     split at e
     · rename_i kj σ1 h1
       rw[h _ _ _ h1]
       simp only
       split at e
       · rename_i hid
         rw[if_pos hid]
         split at e
         · rename_i σ2 h2
           rw[h _ _ _ h2];exact e
         · simp at e
       · simp at e
     · simp at e
   · simp at e
 | x::p,σ,σ',e=>by
   simp only[runK] at e ⊢
   split at e
   · split at e
     · rename_i hi
       rw[if_pos hi]
       split at e
       · rename_i σ1 h1
         rw[h _ _ _ h1]
         simp only
         split at e
         · rename_i xr
           rw[if_pos xr]
           split at e
           · rename_i σ2 h2
             rw[h _ _ _ h2]
             exact qA h e
           · simp at e
         · simp at e
       · simp at e
     · simp at e
   · simp at e
theorem vj {r r':aB→St→Option (bF×St)} (h: ∀c σ x,r c σ=some x→r' c σ=some x) {ps:List Nat} {a b:aB} {T:Nat→V}: ∀ {xs:List (List V)} {O:Nat→Obj} {y},tL r ps a b T xs O=some y→tL r' ps a b T xs O=some y
 | [],O,y,e=>by simpa [tL] using e
 | x::xs,O,y,e=>by
   simp only[tL] at e ⊢
   split at e
   · rename_i σ1 h1
     rw[h _ _ _ h1]
     simp only
     split at e
     · rename_i σ2 h2
       rw[h _ _ _ h2];exact vj h e
     · rename_i e2 σ2 hn h2
       rw[h _ _ _ h2]
       simp only
       cases e2 with
       | normal=>exact absurd rfl (hn ·)
       | exit id=>exact e
       | ret=>exact e
     · simp at e
   · simp at e
theorem tV {α:Type} (f:α→Nat): ∀ {l:List α} {x:α},x ∈ l→f x≤l.foldr (fun x m=>max (f x) m) 0
 | a::l,x,h=>by
   simp only[List.foldr_cons]
   rcases List.mem_cons.1 h with rfl| h
   · exact Nat.le_max_left ..
   · exact Nat.le_trans (tV f h) (Nat.le_max_right ..)
end Go.AM
