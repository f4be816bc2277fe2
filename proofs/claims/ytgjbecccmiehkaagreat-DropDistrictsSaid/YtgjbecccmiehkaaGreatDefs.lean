/- Texts of the proof. -/
import Derived.KernelRfl
import GoSem.Step
set_option linter.unusedSimpArgs false
set_option linter.unusedVariables false
namespace Go.AM
theorem Zl {p:Prop} (h:p:=by omega):p:=h
theorem Zm {p:Prop} (h:p:=by simp):p:=h
theorem Zn {p:Prop} (h:p:=by decide):p:=h
theorem Zo {p:Prop} (h:p:=by kernel_rfl):p:=h
theorem Zp {p:Prop} (h:p:=by dsimp only;omega):p:=h
abbrev Zq:=@Option.map_eq_some_iff
abbrev Zr:=@Option.some.injEq
abbrev Zs:=@List.getElem?_eq_some_iff
abbrev Zt:=@Bool.and_eq_true
abbrev Zu:=@Array.getElem?_eq_some_iff
abbrev Zv:=@List.getElem?_eq_getElem
abbrev Zw:=@Prod.mk.injEq
abbrev Zx:=@List.all_eq_true
abbrev Zy:=@Nat.le_refl
abbrev Zz:=@List.mem_cons
abbrev ZA:=@Option.isSome_iff_exists
abbrev ZB:=@Bool.false_eq_true
abbrev ZC:=@Nat.lt_of_lt_of_le
abbrev ZD:=@Int.mul_le_mul_of_nonneg_left
abbrev ZE:=@Option.map_some
abbrev ZF:=@List.mem_append
abbrev ZG:=@Array.length_toList
abbrev ZH:=@List.length_cons
abbrev ZI:=@List.getElem?_map
abbrev ZJ:=@List.mem_map
abbrev ZK:=@List.getD_eq_getElem?_getD
abbrev ZL:=@List.length_nil
abbrev ZM:=@Nat.eq_zero_or_pos
abbrev ZN:=@List.forall_mem_cons
abbrev ZO:=@Nat.le_max_right
abbrev ZP:=@List.drop_eq_getElem_cons
abbrev ZQ:=@Array.getElem?_eq_getElem
abbrev ZR:=@Nat.add_mul
abbrev ZS:=@List.mem_iff_getElem?
abbrev ZT:=@Nat.eq_of_beq_eq_true
abbrev ZU:=@List.mem_of_mem_take
abbrev ZV:=@List.getElem?_modify
abbrev ZW:=@List.getElem?_append_left
abbrev ZX:=@Nat.le_max_left
abbrev ZY:=@Nat.mul_le_mul_right
abbrev ZZ:=@List.mem_singleton
abbrev Z0:=@List.mem_of_find?_eq_some
abbrev Z1:=@Nat.le_trans
abbrev Z2:=@List.cons_append
abbrev Z3:=@List.length_eq_zero_iff
abbrev Z4:=@Bool.not_eq_true'
abbrev Z5:=@List.mem_of_mem_drop
abbrev Z6:=@Bool.and_self
abbrev Z7:=@List.getElem?_take
abbrev Z8:=@List.nil_append
abbrev Z9:=@List.take_succ_cons
abbrev aaa:=@Nat.zero_add
abbrev aab:=@List.getElem?_eq_none
abbrev aac:=@List.length_take
abbrev aad:=@List.all_cons
abbrev aae:=@Array.getElem?_setIfInBounds_ne
abbrev aaf:=@List.getElem?_append_right
abbrev aag:=@List.length_drop
abbrev aah:=@List.ext_getElem?
abbrev aai:=@List.map_append
abbrev aaj:=@Nat.zero_le
abbrev aak:=@List.getElem_mem
abbrev aal:=@List.drop_eq_nil_of_le
abbrev aam:=@List.mem_or_eq_of_mem_set
abbrev aan:=@List.extract_eq_take_drop
abbrev aao:=@List.all_append
abbrev aap:=@Nat.beq_eq
abbrev aaq:=@Array.toList_inj
abbrev aar:=@List.range_eq_range'
abbrev aas:=@Array.getElem?_setIfInBounds
abbrev aat:=@List.getElem?_set
abbrev aau:=@Option.map_eq_map
abbrev aav:=@List.find?_some
abbrev aaw:=@List.findIdx?_eq_some_iff_getElem
abbrev aax:=@Bool.true_and
abbrev aay:=@Nat.mul_comm
abbrev aaz:=@Nat.add_zero
abbrev aaA:=@Nat.le_of_ble_eq_true
abbrev aaB:=@List.take_zero
abbrev aaC:=@Int.mul_nonneg
abbrev aaD:=@Int.le_of_mul_le_mul_left
abbrev aaE:=@Array.toList_extract
abbrev aaF:=@List.getElem?_of_mem
abbrev aaG:=@List.contains_eq_mem
abbrev aaH:=@Bool.or_eq_true
abbrev aaI:=@List.map_nil
abbrev aaJ:=@Nat.add_assoc
abbrev aaK:=@Array.toList_modify
abbrev aaL:=@Nat.shiftLeft_eq
abbrev aaM:=@List.drop_drop
abbrev aaN:=@Array.getElem?_eq_none
abbrev aaO:=@List.drop_of_length_le
abbrev aaP:=@Array.getElem?_toList
abbrev aaQ:=@Bool.eq_iff_iff
abbrev aaR:=@List.length_replicate
abbrev aaS:=@List.nodup_cons
abbrev aaT:=@Array.getElem?_append
abbrev aaU:=@List.append_nil
abbrev aaV:=@Bool.and_true
abbrev aaW:=@List.append_assoc
abbrev aaX:=@List.getElem?_append
abbrev aaY:=@List.mem_cons_of_mem
abbrev aaZ:=@Classical.byContradiction
abbrev aa0:=@Nat.mod_eq_of_lt
abbrev aa1:=@Array.toList_map
abbrev aa2:=@Option.getD_some
abbrev aa3:=@List.getElem?_range
abbrev aa4:=@List.drop_succ_cons
abbrev aa5:=@Array.getElem?_replicate
inductive V where
 | bool (b:Bool)
 | int (k:IntKind) (n:Int)
 | float (bits:Nat)
 | str (s:List UInt8)
 | agg (cs:List V)
 | tuple (vs:List V)
 | nilp| nilfn| nili
 | fn (f:Nat) (caps:List V)
 | bfn (f:Nat) (first:List V)
 | iface (t:Nat) (v:V)
 | nils
 | lit (sz:Nat) (xs:List V)
 | own (sz:Nat) (xs:List V)
 | sl (r g off len:Nat)
 | ptr (r g idx off:Nat)
 | eptr (e:V) (off:Nat)
 | mp (r g:Nat)
 | mlit (es:List V)
 | it (r g:Nat)
 | litk (sz:Nat) (xs:List V)
 | epk (i sz:Nat) (e:V) (off:Nat)
 | msl (sz:Nat) (es:List V) (off len:Nat)
 | mptr (sz:Nat) (es:List V) (idx off:Nat)
 | any
 deriving Inhabited
def cY:V:= .tuple []
structure Obj where
 gen:Nat
 sz:Nat
 arr:Bool
 fz:Bool
 es:Option (List V)
structure eV where
 val:V
 outs:List (Nat×List V)
inductive aD where
 | tmp (t:Nat)
 | const (v:V)
inductive qS where
 | move (x:aD)
 | pick (c a b:aD)
 | new (r sz:Nat) (x:aD)
 | build (cells:List V) (parts:List (Nat×Nat×aD))
 | buildSlice (r sz:Nat) (zero:V) (n:Nat) (parts:List (Nat×aD))
 | pR (r sz:Nat)
 | QI (r:Nat) (x:aD)
 | load (agg:Bool) (sz:Nat) (x:aD)
 | store (agg:Bool) (sz:Nat) (x v:aD)
 | nilCheck (x:aD)
 | bin (op:BinOp) (x y:aD)
 | Nj (neg:Bool) (ks:List Nat) (x y:aD)
 | un (op:UnOp) (x:aD)
 | pS (k:IntKind) (x:aD)
 | tZ (x:aD)
 | ua (k:IntKind) (x:aD)
 | ub (f:Nat) (caps:List aD)
 | slice (sz:Nat) (x:aD) (lo hi mx:Option aD)
 | fieldAddr (off:Nat) (x:aD)
 | indexAddr (sz:Nat) (x i:aD)
 | mr (n sz:Nat) (x i:aD)
 | mu (x i:aD)
 | len (x:aD)
 | ud (x:aD)
 | min (xs:List aD)
 | max (xs:List aD)
 | append (r sz lim:Nat) (s x:aD)
 | clear (sz:Nat) (zero:V) (x:aD)
 | extract (x:aD) (i:Nat)
 | call (r:Nat) (aY:Bool) (f:aD) (args:List aD)
 | deep (x:aD)
 | vV (ks:List Nat) (agg:Bool) (sz:Nat) (x:aD)
 | mkMap (r:Nat)
 | rf (q:Option IntKind) (x k v:aD)
 | ue (q:Option IntKind) (ok:Bool) (zero:V) (x k:aD)
 | FW (x:aD)
 | Lf (neg:Bool) (x y:aD)
 | mapIter (r:Nat) (x:aD)
 | pW (f:Nat) (first:List aD)
 | pX (f:Nat) (caps:List (Bool×aD))
 | nr (ks:List Nat) (x k v:aD)
 | ns (ks:List Nat) (ok:Bool) (zero:V) (x k:aD)
 | pV (i r sz lim:Nat) (s x:aD)
 | pT (ks:List Nat) (zero:V) (x k:aD)
 | uf (agg:Bool) (sz:Nat) (x v:aD)
 | iK (ks:List Nat) (x k:aD)
 | iL (ks:List Nat) (x k:aD)
 | pU (x s v:aD)
 | bad
structure bC where
 dst:Option Nat
 op:qS
 guard:Option (Nat×Bool)
 pre:List Nat
inductive aM where
 | skip
 | region (ops:List bC)
 | drawn (ops:List bC)
 | seq (a b:aM)
 | cond (c:aD) (a b:aM)
 | block (id:Nat) (b:aM)
 | loop (b:aM)
 | exit (id:Nat)
 | ret
 | scope (b:aM)
 | bad
 | keys (it nx ne id:Nat) (kT kO:List Nat) (ahead body last:aM)
 | mh (x:aD) (ps:List Nat) (N6 body:aM)
inductive pI where
 | tmp (t:Nat)
 | cell (t:Nat) (agg:Bool) (sz:Nat)
structure bF where
 nparams:Nat
 ntmps:Nat
 gU:List (Option Nat)
 results:List pI
 body:aM
 tag:Option (Nat×Nat):=none
structure Env where
 fn:Nat→Option bF
 ext:Nat→List V→Option eV
 hyb:Nat→Option ((Nat→List V→Option eV)→List V→Option eV):=fun _=>none
 mono: ∀f h,hyb f=some h→ ∀ (C C':Nat→List V→Option eV),(∀g vs r,C g vs=some r→C' g vs=some r)→ ∀vs r,h C vs=some r→h C' vs=some r:=by exact fun _ _ h=>nomatch h
 iter:Nat→List V→Option (List (List V)):=fun _ _=>none
 xl:Nat→Option (List V→List V→Option (V×List V)):=fun _=>none
def V.cells:V→List V
 | .agg cs=>cs
 | v=> [v]
def V.isAgg:V→Bool
 | .agg _=>true
 | _=>false
def V.isTuple:V→Bool
 | .tuple _=>true
 | _=>false
def V.aF:V→Bool
 | .agg _| .tuple _| .any| .own .. | .msl .. | .mptr .. =>false
 | _=>true
mutual
def V.aq:V→Bool
 | .bool _| .int .. | .float _| .str _| .nilp| .nilfn| .nili| .nils| .lit .. | .eptr .. | .litk .. | .epk .. | .any=>true
 | .agg cs=>V.al cs
 | .tuple cs=>V.al cs
 | .mlit es=>V.al es
 | .fn _ caps=>V.al caps
 | .bfn _ caps=>V.al caps
 | .iface _ v=>V.aq v
 | .own .. | .sl .. | .ptr .. | .mp .. | .it .. | .msl .. | .mptr .. =>false
def V.al:List V→Bool
 | []=>true
 | c::cs=>V.aq c &&V.al cs
end
mutual
def V.isScalar:V→Bool
 | .bool _| .int .. | .float _| .str _| .nilp| .nilfn| .nili| .nils=>true
 | .agg cs=>V.aR cs
 | .tuple cs=>V.aR cs
 | _=>false
def V.aR:List V→Bool
 | []=>true
 | c::cs=>V.isScalar c &&V.aR cs
end
def part (agg:Bool) (off sz:Nat) (e:V):Option V:=
 match agg,e with
 | true,.agg cs=>if off+sz≤cs.length then some (.agg ((cs.drop off).take sz)) else none
 | true,_=>none
 | false,.agg cs=>cs[off]?
 | false,v=>if v.aF∧off=0 then some v else none
def iG (agg:Bool) (off sz:Nat) (e v:V):Option V:=
 match agg with
 | true=>match e,v with
   | .agg cs,.agg vs=>if vs.length=sz∧off+sz≤cs.length then some (.agg (cs.take off++vs++cs.drop (off+sz))) else none
   | _,_=>none
 | false=>if v.aF∧sz=1 then match e with
    | .agg cs=>if off<cs.length then some (.agg (cs.set off v)) else none
    | e=>if e.aF∧off=0 then some v else none
   else none
def V.cq (v:V):Bool:=v.isAgg || v.aF
def aJ (v:V) (sz:Nat):Bool:=v.cells.length==sz &&v.cq
def aw (es:List V) (off len:Nat):List V:=(es.drop off).take len
def overwrite (es:List V) (off:Nat) (ys:List V):List V:=es.take off++ys++es.drop (off+ys.length)
inductive Act where
 | done (v:V)
 | fail
 | kq (t:Nat) (k:V→Act)
 | bn (r:Nat) (k:Obj→Act)
 | bl (r:Nat) (o:Obj) (k:Act)
 | call (f:Nat) (args:List V) (k:eV→Act)
def ev (x:aD) (k:V→Act):Act:=
 match x with
 | .tmp t=> .kq t k
 | .const v=>k v
def yM:List aD→(List V→Act)→Act
 | [],k=>k []
 | x::xs,k=>ev x fun v=>yM xs fun vs=>k (v::vs)
def Fo:Option aD→(Option V→Act)→Act
 | none,k=>k none
 | some x,k=>ev x fun v=>k (some v)
def dq:Option V→Act
 | some v=> .done v
 | none=> .fail
def gJ (c:V) (k:V→Act):Act:=
 match c with
 | .sl r g off len=> .bn r fun o=>match o.es with
   | some es=>if o.gen=g∧o.arr=true∧off+len≤es.length∧V.al (aw es off len)=true then .bl r {o with fz:=true} (k (.lit o.sz (aw es off len))) else .fail
   | none=> .fail
 | .mp r g=> .bn r fun o=>match o.es with
   | some es=>if o.gen=g∧o.sz=0∧V.al es=true∧es.all V.isTuple=true then .bl r {o with fz:=true} (k (.mlit es)) else .fail
   | none=> .fail
 | .own .. | .msl .. | .mptr .. | .any| .it .. => .fail
 | c=>k c
def jf:List V→(List V→Act)→Act
 | [],k=>k []
 | c::cs,k=>gJ c fun c'=>jf cs fun b6=>k (c'::b6)
def xp (v:V) (k:V→Act):Act:=
 if v.aq then k v else
 match v with
 | .agg cs=>jf cs fun b6=>k (.agg b6)
 | v=>gJ v k
def ml (vs:List V) (k:List V→Act):Act:=
 if V.al vs then k vs else go vs k
where
 go:List V→(List V→Act)→Act
 | [],k=>k []
 | c::cs,k=>xp c fun c'=>go cs fun b6=>k (c'::b6)
def oT (b:Bool) (c:V) (k:V→Act):Act:=
 match b,c with
 | true,.ptr r g 0 off=> .bn r fun o=>match o.es with
   | some [e]=>if o.gen=g∧0 <o.sz∧V.aq e=true then .bl r {o with fz:=true} (k (.eptr e off)) else .fail
   | _=> .fail
 | _,c=>k c
def iH:List (Bool×aD)→(List V→Act)→Act
 | [],k=>k []
 | (b,x)::xs,k=>ev x fun c=>oT b c fun c'=>iH xs fun cs=>k (c'::cs)
def n0 (f:V→(V→List Nat→Act)→Act):List V→(List V→List Nat→Act)→Act
 | [],k=>k [] []
 | c::cs,k=>f c fun c' r=>n0 f cs fun b6 rs=>k (c'::b6) (r++rs)
def tB (f:V→(V→List Nat→Act)→Act) (vs:List V) (k:List V→List Nat→Act):Act:=
 if V.al vs then k vs [] else n0 f vs k
def ek:Nat→V→(V→List Nat→Act)→Act
 | 0,v,k=>if v.aq then k v [] else .fail
 | d+1,v,k=>if v.aq then k v [] else
   match v with
   | .agg cs=>n0 (ek d) cs fun b6 rs=>k (.agg b6) rs
   | .fn f cs=>n0 (ek d) cs fun b6 rs=>k (.fn f b6) rs
   | .iface t x=>ek d x fun x' rs=>k (.iface t x') rs
   | .sl r g off len=> .bn r fun o=>match o.es with
     | some es=>if o.gen=g∧o.arr=true∧off+len≤es.length then tB (ek d) (aw es off len) fun xs rs=>k (.lit o.sz xs) (r::rs) else .fail
     | none=> .fail
   | .ptr r g idx off=> .bn r fun o=>match o.es with
     | some es=>if o.gen=g then match es[idx]? with
        | some e=>ek d e fun e' rs=>k (.eptr e' off) (r::rs)
        | none=> .fail
       else .fail
     | none=> .fail
   | _=> .fail
def snap (v:V) (k:V→List Nat→Act):Act:=ek 5 v k
structure c9 where
 i:Nat
 r:Nat
 fresh:Option Nat
def cQ (   r0:Nat):List V→List (Option Nat)→Nat→(List V→List Nat→List c9→Act)→Act
 | [],_,_,k=>k [] [] []
 | v::vs,m::ms,i,k=>
   match m with
   | some sz=>match v with
     | .nils=>if 0 <sz then cQ r0 vs ms (i+1) fun au rs ws=>k (.msl sz [] 0 0::au) rs (⟨i,r0+i,some sz⟩::ws) else .fail
     | .sl r g off len=> .bn r fun o=>match o.es with
       | some es=>if o.gen=g∧o.fz=false∧o.sz=sz∧off+len≤es.length∧V.al es=true then
          cQ r0 vs ms (i+1) fun au rs ws=>k (.msl sz es off len::au) rs (⟨i,r,none⟩::ws) else .fail
       | none=> .fail
     | .ptr r g idx off=> .bn r fun o=>match o.es with
       | some es=>if o.gen=g∧o.fz=false∧o.sz=sz∧V.al es=true then
          cQ r0 vs ms (i+1) fun au rs ws=>k (.mptr sz es idx off::au) rs (⟨i,r,none⟩::ws) else .fail
       | none=> .fail
     | _=> .fail
   | none=>snap v fun v' rs=>cQ r0 vs ms (i+1) fun au rs' ws=>k (v'::au) (rs++rs') ws
 | v::vs,[],i,k=>snap v fun v' rs=>cQ r0 vs [] (i+1) fun au rs' ws=>k (v'::au) (rs++rs') ws
def cV:List Nat→Act→Act
 | [],k=>k
 | r::rs,k=> .bn r fun o=> .bl r {o with fz:=true} (cV rs k)
def dE:List c9→List (Nat×List V)→(List (Nat×Nat×Nat)→Act)→Act
 | [],[],k=>k []
 | w::ws,(bump,es)::outs,k=> .bn w.r fun o=>match w.fresh with
   | none=> .bl w.r {o with gen:=o.gen+bump,es:=some es} (dE ws outs fun gs=>k ((w.i,w.r,o.gen+bump)::gs))
   | some sz=> .bl w.r {gen:=o.gen+1,sz,arr:=true,fz:=false,es:=some es} (dE ws outs fun gs=>k ((w.i,w.r,o.gen+1)::gs))
 | _,_,_=> .fail
def lu (i:Nat):List (Nat×Nat×Nat)→Option (Nat×Nat)
 | []=>none
 | (j,r,g)::gs=>if j=i then some (r,g) else lu i gs
def cN (aY:Bool) (r:Nat) (gs:List (Nat×Nat×Nat)) (c:V) (k:V→Act):Act:=
 match c with
 | .own sz xs=>if aY then .bn r fun o=> .bl r {gen:=o.gen+1,sz,arr:=true,fz:=false,es:=some xs} (k (.sl r (o.gen+1) 0 xs.length)) else k (.lit sz xs)
 | .sl i _ off len=>match lu i gs with
   | some (r',g')=>k (.sl r' g' off len)
   | none=> .fail
 | c=>if c.aq then k c else .fail
def dB (aY:Bool):Nat→List (Nat×Nat×Nat)→List V→(List V→Act)→Act
 | _,_,[],k=>k []
 | r,gs,c::cs,k=>cN aY r gs c fun c'=>dB aY (r+1) gs cs fun b6=>k (c'::b6)
def gK (aY:Bool) (r:Nat) (gs:List (Nat×Nat×Nat)) (v:V) (k:V→Act):Act:=
 if v.aq then k v else
 match v with
 | .agg cs=>dB aY r gs cs fun b6=>k (.agg b6)
 | v=>cN aY r gs v k
def gT (aY:Bool):Nat→List (Nat×Nat×Nat)→List V→(List V→Act)→Act
 | _,_,[],k=>k []
 | r,gs,v::vs,k=>gK aY r gs v fun v'=>gT aY (r+8) gs vs fun vs'=>k (v'::vs')
def db (aY:Bool) (r:Nat) (gs:List (Nat×Nat×Nat)) (v:V) (k:V→Act):Act:=
 if v.aq then k v else
 match v with
 | .tuple vs=>gT aY r gs vs fun vs'=>k (.tuple vs')
 | v=>gK aY r gs v k
def apart (rs ws:List Nat):Bool:=ws.all fun w=> !rs.contains w
def distinct:List Nat→Bool
 | []=>true
 | w::ws=> !ws.contains w &&distinct ws
def re (r:Nat) (aY:Bool):V→Bool
 | .own _ xs=>Nat.beq (r % 2) 1 && (!aY &&V.aR xs)
 | _=>false
def jg (E:Env) (r:Nat) (aY:Bool) (f:Nat) (args:List V):Act:=
 let gU:=match E.fn f with| some af=>af.gU| none=> []
 cQ (r+8) args gU 0 fun au rs ws=>
  if apart rs (ws.map (·.r)) &&distinct (ws.map (·.r)) then
   .call f au fun res=>
    let go:=dE ws res.outs fun gs=>db aY r gs res.val .done
    if (res.val.isScalar || re r aY res.val) &&res.outs.all (fun o=>V.aR o.2) then go else cV rs go
  else .fail
def Bn (op:BinOp) (a b:Int):Option V:=
 match op with
 | .eql=>some (.bool (a==b))
 | .neq=>some (.bool (a !=b))
 | .lss=>some (.bool (a<b))
 | .leq=>some (.bool (a≤b))
 | .gtr=>some (.bool (b<a))
 | .geq=>some (.bool (b≤a))
 | _=>none
def jM (op:BinOp) (k:IntKind) (x y:Int):Option V:=
 let a:=BitVec.ofInt k.bits x
 let b:=BitVec.ofInt k.bits y
 let back (r:BitVec k.bits):Option V:=some (.int k (k.wrap r.toNat))
 match op with
 | .and=>back (a &&&b)
 | .or=>back (a ||| b)
 | .xor=>back (a ^^^ b)
 | .andNot=>back (a &&& ~~~b)
 | _=>none
def Fs (k:Nat) (a b:V):Option Bool:=
 match k,a,b with
 | 0,.bool a,.bool b=>some (a==b)
 | 1,.int k a,.int k' b=>if k=k' then some (a==b) else none
 | 2,.str a,.str b=>some (decide (a=b))
 | _,_,_=>none
def cu:List Nat→List V→List V→Option Bool
 | [],[],[]=>some true
 | k::ks,a::au,b::bs=>match Fs k a b,cu ks au bs with
   | some x,some y=>some (x &&y)
   | _,_=>none
 | _,_,_=>none
def C5:V→V→Option Bool
 | .nilp,.nilp=>some true
 | .nilp,.eptr .. | .nilp,.epk .. | .eptr ..,.nilp| .epk ..,.nilp=>some false
 | .epk i z _ 0,.epk i' z' _ 0=>if z=z'∧0 <z then some (i==i') else none
 | _,_=>none
def oU (op:BinOp) (x y:V):Option V:=
 match x,y with
 | .int k a,.int k' b=>
   match op with
   | .shl=>if b< 0 then none else some (.int k (k.wrap (a*2 ^ (min b.toNat k.bits))))
   | .shr=>if b< 0 then none else some (.int k (a.fdiv (2 ^ (min b.toNat k.bits))))
   | op=>
     if k=k' then
      match op with
      | .add=>some (.int k (k.wrap (a+b)))
      | .sub=>some (.int k (k.wrap (a - b)))
      | .mul=>some (.int k (k.wrap (a*b)))
      | .quo=>if b=0 then none else some (.int k (k.wrap (a.tdiv b)))
      | .rem=>if b=0 then none else some (.int k (a.tmod b))
      | .and| .or| .xor| .andNot=>jM op k a b
      | op=>Bn op a b
     else none
 | .str a,.str b=>
   match op with
   | .add=>if a.length+b.length≤9223372036854775807 then some (.str (a++b)) else none
   | .eql=>some (.bool (decide (a=b)))
   | .neq=>some (.bool (!decide (a=b)))
   | .lss=>some (.bool (Op.bytesLess a b))
   | .leq=>some (.bool (Op.bytesLess a b || decide (a=b)))
   | .gtr=>some (.bool (!(Op.bytesLess a b || decide (a=b))))
   | .geq=>some (.bool (!Op.bytesLess a b))
   | _=>none
 | _,_=>none
def Rs (op:UnOp) (x:V):Option V:=
 match op,x with
 | .neg,.int k n=>some (.int k (k.wrap (0 - n)))
 | .not,.bool b=>some (.bool (!b))
 | .xor,.int k n=>jM .xor k (if k.signed then -1 else k.max) n
 | _,_=>none
def min2 (x y:V):Option V:=
 match x,y with
 | .int k a,.int k' b=>if k=k' then some (.int k (if b<a then b else a)) else none
 | _,_=>none
def max2 (x y:V):Option V:=
 match x,y with
 | .int k a,.int k' b=>if k=k' then some (.int k (if a<b then b else a)) else none
 | _,_=>none
def mB (f:V→V→Option V) (x:V):List V→Option V
 | []=>some x
 | y::ys=>match f x y with
   | some z=>mB f z ys
   | none=>none
def lU (f:V→V→Option V):List V→Option V
 | []=>none
 | x::xs=>mB f x xs
def IL:V→Option V
 | .nils=>some (.int .i64 0)
 | .lit _ xs=>some (.int .i64 xs.length)
 | .litk _ xs=>some (.int .i64 xs.length)
 | .sl _ _ _ len=>some (.int .i64 len)
 | _=>none
def bU (d:Nat):Option V→Option Nat
 | none=>some d
 | some (.int _ n)=>if 0≤n then some n.toNat else none
 | some _=>none
def tN (sz:Nat) (x:V) (lo hi mx:Option V):Option V:=
 match x with
 | .nils=>match bU 0 lo,bU 0 hi,bU 0 mx with
   | some l,some h,some m=>if l≤h∧h≤m∧m≤0∧(hi.isSome=true∨mx.isNone=true) then some .nils else none
   | _,_,_=>none
 | .lit sz' xs=>if sz'=sz then match bU 0 lo,bU xs.length hi,mx with
    | some l,some h,none=>if l≤h∧h≤xs.length then some (.lit sz (aw xs l (h - l))) else none
    | some l,some h,some m=>match hi,bU 0 (some m) with
      | some _,some m=>if l≤h∧h≤m∧m≤xs.length then some (if m=l then .nils else .any) else none
      | _,_=>none
    | _,_,_=>none
   else none
 | _=>none
def gi:List V→List (Nat×Nat×V)→Option (List V)
 | cs,[]=>some cs
 | cs,(off,sz,v)::rest=>if v.cells.length=sz∧off+sz≤cs.length∧v.cq=true then gi (cs.take off++v.cells++cs.drop (off+sz)) rest else none
def jL:List (Nat×Nat×aD)→(List (Nat×Nat×V)→Act)→Act
 | [],k=>k []
 | (o,s,x)::ps,k=>ev x fun v=>jL ps fun vs=>k ((o,s,v)::vs)
def gL:List (Nat×aD)→(List (Nat×V)→Act)→Act
 | [],k=>k []
 | (i,x)::ps,k=>ev x fun v=>xp v fun v=>gL ps fun vs=>k ((i,v)::vs)
def cW (sz:Nat):List V→List (Nat×V)→Option (List V)
 | es,[]=>some es
 | es,(i,v)::rest=>if i<es.length∧aJ v sz=true then cW sz (es.set i v) rest else none
def content (sz:Nat) (x:V) (k:List V→Act):Act:=
 match x with
 | .nils=>k []
 | .lit sz' xs=>if sz'=sz then k xs else .fail
 | .sl r g off len=> .bn r fun o=>match o.es with
   | some es=>if o.gen=g∧o.sz=sz∧off+len≤es.length then k (aw es off len) else .fail
   | none=> .fail
 | .str s=>if sz=1 then k (s.map fun b=> .int .u8 b.toNat) else .fail
 | _=> .fail
def ze (r sz lim:Nat) (s:V) (ys:List V):Act:=
 if ys.all (aJ · sz) &&decide (0 <sz) then match s with
 | .nils=>if ys.isEmpty then .done .nils else if ys.length≤lim then
     .bn r fun o=> .bl r {gen:=o.gen+1,sz,arr:=true,fz:=false,es:=some ys} (.done (.sl r (o.gen+1) 0 ys.length)) else .fail
 | .lit sz' xs=>if ys.isEmpty then .done (.lit sz' xs) else .fail
 | .sl r' g off len=> .bn r' fun o=>match o.es with
   | some es=>if o.gen=g∧o.arr=true∧o.fz=false∧o.sz=sz∧off+len≤es.length∧len+ys.length≤lim then
         if off+len+ys.length≤es.length then
          .bl r' {o with es:=some (overwrite es (off+len) ys)} (.done (.sl r' g off (len+ys.length)))
         else
          .bl r' {o with gen:=g+1,es:=some (aw es off len++ys)} (.done (.sl r' (g+1) 0 (len+ys.length)))
     else .fail
   | none=> .fail
 | _=> .fail
 else .fail
def xz:List Nat→List V→List V
 | k::ks,c::cs=> (match k,c with
   | (k+1),.nils=> .lit (k+1) []
   | _,c=>c)::xz ks cs
 | _,cs=>cs
def A0 (ks:List Nat) (v:V):V:=match v with
 | .agg cs=> .agg (xz ks cs)
 | .nils=> (match ks with
   | (k+1)::_=> .lit (k+1) []
   | _=> .nils)
 | v=>v
def xu (v:V):Act:=match v with
 | .sl r g off len=> .bn r fun o=>match o.es with
   | some es=>if o.gen=g then ml es fun es'=> .bn r fun o'=>if o'.gen=o.gen∧o'.es.isSome=true∧es'.all (aJ · o.sz)=true then .bl r {o' with es:=some es'} (.done (.sl r g off len)) else .fail else .fail
   | none=> .fail
 | v=> .done v
def C8:V→V→Option Bool
 | .int k a,.int k' b=>if k=k' then some (a==b) else none
 | .str a,.str b=>some (decide (a=b))
 | _,_=>none
def lB (k:V):List V→Option (Option V)
 | []=>some none
 | .tuple [k',v]::es=>match C8 k k' with
   | some true=>some (some v)
   | some false=>lB k es
   | none=>none
 | _::_=>none
def mw (k v:V):List V→Option (List V)
 | []=>some [.tuple [k,v]]
 | .tuple [k',v']::es=>match C8 k k' with
   | some true=>some (.tuple [k,v]::es)
   | some false=> (mw k v es).map (.tuple [k',v']:: ·)
   | none=>none
 | _::_=>none
def isKey (q:Option IntKind) (k:V):Bool:=match q,k with
 | some q,.int k _=>decide (k=q)
 | none,.str _=>true
 | _,_=>false
def iJ (ok:Bool) (zero:V) (es:List V) (k:V):Act:=
 match lB k es with
 | some (some v)=> .done (if ok then .tuple [v,.bool true] else v)
 | some none=> .done (if ok then .tuple [zero,.bool false] else zero)
 | none=> .fail
def xt:List V→Option (Nat×Nat)
 | [.agg [.mp r g]]=>some (r,g)
 | _=>none
def C9 (h:List V→List V→Option (V×List V)) (r g:Nat) (au:List V):Act:= .bn r fun o=>match o.es with
 | some es=>if o.gen=g∧o.sz=0∧o.fz=false∧V.aR au=true∧es.all V.isTuple=true then(match h es au with
    | some (v,es')=> .bl r {o with es:=some es'} (.done v)
    | none=> .fail) else .fail
 | none=> .fail
def eP (ks:List Nat):V→V→Option Bool
 | .agg a,.agg b=>cu ks a b
 | _,_=>none
def fa (ks:List Nat) (k:V):List V→Option (Option V)
 | []=>some none
 | .tuple [k',v]::es=>match eP ks k k' with
   | some true=>some (some v)
   | some false=>fa ks k es
   | none=>none
 | _::_=>none
def jN (ks:List Nat) (k v:V):List V→Option (List V)
 | []=>some [.tuple [k,v]]
 | .tuple [k',v']::es=>match eP ks k k' with
   | some true=>some (.tuple [k,v]::es)
   | some false=> (jN ks k v es).map (.tuple [k',v']:: ·)
   | none=>none
 | _::_=>none
def eZ (ks:List Nat) (ok:Bool) (zero:V) (es:List V) (k:V):Act:=
 match fa ks k es with
 | some (some v)=> .done (if ok then .tuple [v,.bool true] else v)
 | some none=> .done (if ok then .tuple [zero,.bool false] else zero)
 | none=> .fail
def fD (ks:List Nat) (k:V):Nat→List V→Option (Option (Nat×V))
 | _,[]=>some none
 | i,.tuple [k',v]::es=>match eP ks k k' with
   | some true=>some (some (i,v))
   | some false=>fD ks k (i+1) es
   | none=>none
 | _,_::_=>none
def fF:List Nat→List V→Bool
 | [],[]=>true
 | 0::ks,.bool _::cs=>fF ks cs
 | 1::ks,.int .i64 _::cs=>fF ks cs
 | 2::ks,.str _::cs=>fF ks cs
 | _,_=>false
def vx (ks:List Nat):V→Bool
 | .agg cs=>fF ks cs
 | _=>false
def Bp (ks:List Nat):V→Bool
 | .tuple [k,.int .i64 _]=>vx ks k
 | _=>false
def dG (ks:List Nat) (k:V):List V→V
 | []=> .int .i64 0
 | .tuple [k',v]::es=>match eP ks k k' with
   | some true=>v
   | _=>dG ks k es
 | _::es=>dG ks k es
def iz (ks:List Nat) (o:Obj):Nat×Nat×Option (Bool× (V→V)):=(o.gen,o.sz,o.es.map fun es=> (es.all (Bp ks),fun k=>dG ks k es))
def Bq (ks:List Nat) (g:Nat) (k:V):Nat×Nat×Option (Bool× (V→V))→Act
 | (gen,sz,some (true,f))=>if gen=g∧sz=0∧vx ks k=true then .done (f k) else .fail
 | _=> .fail
def av ( E:Env):qS→Act
 | .move x=>ev x .done
 | .pick c a b=>ev c fun| .bool true=>ev a .done| .bool false=>ev b .done| _=> .fail
 | .new r sz x=>ev x fun v=>if aJ v sz &&decide (0 <sz) then .bn r fun o=> .bl r {gen:=o.gen+1,sz,arr:=false,fz:=false,es:=some [v]} (.done (.ptr r (o.gen+1) 0 0)) else .fail
 | .build cells parts=>jL parts fun ps=>match gi cells ps with
   | some cs=> .done (.agg cs)
   | none=> .fail
 | .buildSlice r sz zero n parts=>gL parts fun ps=>match cW sz (List.replicate n zero) ps with
   | some es=>if aJ zero sz &&decide (0 <sz∧n*sz≤16777216) then .bn r fun o=> .bl r {gen:=o.gen+1,sz,arr:=true,fz:=false,es:=some es} (.done (.sl r (o.gen+1) 0 n)) else .fail
   | none=> .fail
 | .pR r sz=>if 0 <sz then .bn r fun o=> .bl r {gen:=o.gen+1,sz,arr:=true,fz:=false,es:=some []} (.done (.sl r (o.gen+1) 0 0)) else .fail
 | .QI r x=>ev x fun
   | .sl r1 g off len=>if r1=r then .done (.sl r1 g off len) else .bn r1 fun o=>if o.gen=g then
       .bn r fun o'=> .bl r ⟨o'.gen+1,o.sz,o.arr,o.fz,o.es⟩ (.bl r1 ⟨o.gen+1,o.sz,o.arr,o.fz,none⟩ (.done (.sl r (o'.gen+1) off len))) else .fail
   | v=> .done v
 | .load agg sz x=>ev x fun
   | .ptr r g idx off=> .bn r fun o=>match o.es with
     | some es=>if o.gen=g then match es[idx]? with
        | some e=>dq (part agg off sz e)
        | none=> .fail
       else .fail
     | none=> .fail
   | .eptr e off=>dq (part agg off sz e)
   | .epk _ _ e off=>dq (part agg off sz e)
   | _=> .fail
 | .store agg sz x v=>ev x fun
   | .ptr r g idx off=> .bn r fun o=>if o.arr
     then ev v fun v=>xp v fun v=>jj agg sz r g idx off v
     else ev v fun v=>jj agg sz r g idx off v
   | _=> .fail
 | .nilCheck x=>ev x fun
   | .ptr r g idx off=> .done (.ptr r g idx off)
   | .eptr e off=> .done (.eptr e off)
   | .epk i z e off=> .done (.epk i z e off)
   | .fn f caps=> .done (.fn f caps)
   | .bfn f caps=> .done (.bfn f caps)
   | _=> .fail
 | .bin op x y=>ev x fun a=>ev y fun b=>dq (oU op a b)
 | .Nj neg ks x y=>ev x fun a=>ev y fun b=>match a,b with
   | .agg au,.agg bs=>match cu ks au bs with
       | some b=> .done (.bool (b !=neg))
       | none=> .fail
   | _,_=> .fail
 | .un op x=>ev x fun a=>dq (Rs op a)
 | .pS k x=>ev x fun| .int _ n=> .done (.int k (k.wrap n)) | _=> .fail
 | .tZ x=>ev x fun| .int _ n=> .done (.float (FloatKind.f64.nearest n)) | _=> .fail
 | .ua k x=>ev x fun
   | .float b=>match (FloatKind.f64.decode b).toInt .zero with
     | some n=>if k.min≤n∧n≤k.max then .done (.int k n) else .fail
     | none=> .fail
   | _=> .fail
 | .ub f caps=>yM caps fun vs=> .done (.fn f vs)
 | .slice sz x lo hi mx=>ev x fun v=>Fo lo fun l=>Fo hi fun h=>Fo mx fun m=>match v with
   | .sl r g off len=> .bn r fun o=>match o.es with
     | some es=>if o.gen=g∧o.sz=sz then
        match bU 0 l,bU len h,m with
        | some l,some h,none=>if l≤h∧off+h≤es.length then .done (.sl r g (off+l) (h - l)) else .fail
        | some l,some h',some m=>match h,bU 0 (some m) with
          | some _,some m=>if l≤h'∧h'≤m∧off+m≤es.length then .done (if m=l then .nils else .any) else .fail
          | _,_=> .fail
        | _,_,_=> .fail
       else .fail
     | none=> .fail
   | v=>dq (tN sz v l h m)
 | .fieldAddr off x=>ev x fun
   | .ptr r g idx o=> .done (.ptr r g idx (o+off))
   | .eptr e o=> .done (.eptr e (o+off))
   | .epk i z e o=> .done (.epk i z e (o+off))
   | _=> .fail
 | .indexAddr sz x i=>ev x fun v=>ev i fun i=>match v,i with
   | .sl r g off len,.int _ n=> .bn r fun o=>if 0≤n∧n<len∧o.sz=sz∧o.gen=g then .done (.ptr r g (off+n.toNat) 0) else .fail
   | .lit sz' xs,.int _ n=>if 0≤n∧sz'=sz then match xs[n.toNat]? with
       | some e=> .done (.eptr e 0)
       | none=> .fail
     else .fail
   | .litk sz' xs,.int _ n=>if 0≤n∧sz'=sz∧0 <sz then match xs[n.toNat]? with
       | some e=> .done (.epk n.toNat sz e 0)
       | none=> .fail
     else .fail
   | _,_=> .fail
 | .mr n sz x i=>ev x fun v=>ev i fun i=>match v,i with
   | .ptr r g idx off,.int _ j=>if 0≤j∧j<n then .done (.ptr r g idx (off+j.toNat*sz)) else .fail
   | .eptr e off,.int _ j=>if 0≤j∧j<n then .done (.eptr e (off+j.toNat*sz)) else .fail
   | _,_=> .fail
 | .mu x i=>ev x fun v=>ev i fun i=>match v,i with
   | .str s,.int _ n=>if 0≤n then match s[n.toNat]? with
       | some b=> .done (.int .u8 b.toNat)
       | none=> .fail
     else .fail
   | _,_=> .fail
 | .len x=>ev x fun v=>dq (IL v)
 | .ud x=>ev x fun| .str s=> .done (.int .i64 s.length) | _=> .fail
 | .min xs=>yM xs fun vs=>dq (lU min2 vs)
 | .max xs=>yM xs fun vs=>dq (lU max2 vs)
 | .append r sz lim s x=>ev s fun s=>ev x fun x=>content sz x fun ys=>ml ys fun ys=>
   if ys.all (aJ · sz) &&decide (0 <sz) then match s with
   | .nils=>if ys.isEmpty then .done .nils else if ys.length≤lim then
       .bn r fun o=> .bl r {gen:=o.gen+1,sz,arr:=true,fz:=false,es:=some ys} (.done (.sl r (o.gen+1) 0 ys.length)) else .fail
   | .lit sz' xs=>if ys.isEmpty then .done (.lit sz' xs) else .fail
   | .sl r' g off len=> .bn r' fun o=>match o.es with
     | some es=>if o.gen=g∧o.arr=true∧o.fz=false∧o.sz=sz∧off+len≤es.length∧len+ys.length≤lim then
          if off+len+ys.length≤es.length then
           .bl r' {o with es:=some (overwrite es (off+len) ys)} (.done (.sl r' g off (len+ys.length)))
          else
           .bl r' {o with gen:=g+1,es:=some (aw es off len++ys)} (.done (.sl r' (g+1) 0 (len+ys.length)))
       else .fail
     | none=> .fail
   | _=> .fail
   else .fail
 | .clear sz zero x=>ev x fun
   | .nils=> .done (.tuple [])
   | .sl r g off len=> .bn r fun o=>match o.es with
     | some es=>if o.gen=g∧o.arr=true∧o.fz=false∧o.sz=sz∧off+len≤es.length∧aJ zero sz then
        .bl r {o with es:=some (overwrite es off (List.replicate len zero))} (.done (.tuple [])) else .fail
     | none=> .fail
   | _=> .fail
 | .extract x i=>ev x fun
   | .tuple vs=>dq vs[i]?
   | _=> .fail
 | .call r aY f args=>ev f fun
   | .fn f caps=>yM args fun au=>jg E r aY f (au++caps)
   | .bfn f first=>yM args fun au=>match xt first,E.xl f with
     | some (r',g),some h=>C9 h r' g au
     | _,_=>jg E r aY f (first++au)
   | _=> .fail
 | .deep x=>ev x xu
 | .vV ks agg sz x=>ev x fun
   | .ptr r g idx off=> .bn r fun o=>match o.es with
     | some es=>if o.gen=g then match es[idx]? with
        | some e=>dq ((part agg off sz e).map (A0 ks))
        | none=> .fail
       else .fail
     | none=> .fail
   | .eptr e off=>dq ((part agg off sz e).map (A0 ks))
   | .epk _ _ e off=>dq ((part agg off sz e).map (A0 ks))
   | _=> .fail
 | .mkMap r=> .bn r fun o=> .bl r {gen:=o.gen+1,sz:=0,arr:=false,fz:=false,es:=some []} (.done (.mp r (o.gen+1)))
 | .rf q x k v=>ev x fun
   | .mp r g=>ev k fun k=>ev v fun v=>xp v fun v=> .bn r fun o=>match o.es with
     | some es=>if o.gen=g∧o.sz=0∧o.fz=false∧isKey q k=true∧v.cq=true then(match mw k v es with
        | some es'=> .bl r {o with es:=some es'} (.done (.tuple []))
        | none=> .fail) else .fail
     | none=> .fail
   | _=> .fail
 | .nr ks x k v=>ev x fun
   | .mp r g=>ev k fun k=>ev v fun v=>xp v fun v=> .bn r fun o=>match o.es with
     | some es=>if o.gen=g∧o.sz=0∧o.fz=false∧(eP ks k k).isSome=true∧v.cq=true then(match jN ks k v es with
        | some es'=> .bl r {o with es:=some es'} (.done (.tuple []))
        | none=> .fail) else .fail
     | none=> .fail
   | _=> .fail
 | .ns ks ok zero x k=>ev x fun x=>ev k fun k=>if (eP ks k k).isSome then(match x with
   | .mp r g=> .bn r fun o=>match o.es with
     | some es=>if o.gen=g∧o.sz=0 then eZ ks ok zero es k else .fail
     | none=> .fail
   | .mlit es=>eZ ks ok zero es k
   | _=> .fail) else .fail
 | .iK ks x k=>ev x fun
   | .mp r g=>ev k fun k=> .bn r fun o=>Bq ks g k (iz ks o)
   | _=> .fail
 | .iL ks x k=>ev x fun
   | .mp r g=>ev k fun k=> .bn r fun o=>match o.es with
     | some es=>if o.gen=g∧o.sz=0∧o.fz=false∧vx ks k=true∧es.all (Bp ks)=true then(match fD ks k 0 es with
        | some (some (j,v))=> .bl r {o with es:=some es} (.done (.tuple [v,.int .i64 j]))
        | some none=> .bl r {o with es:=some (es++[.tuple [k,.int .i64 0]])} (.done (.tuple [.int .i64 0,.int .i64 es.length]))
        | none=> .fail) else .fail
     | none=> .fail
   | _=> .fail
 | .uf agg sz x v=>ev x fun
   | .ptr r g idx off=>ev v fun v=>jj agg sz r g idx off v
   | _=> .fail
 | .pT ks zero x k=>ev x fun
   | .mp r g=>ev k fun k=> .bn r fun o=>match o.es with
     | some es=>if o.gen=g∧o.sz=0∧o.fz=false∧(eP ks k k).isSome=true∧zero.cq=true then(match fD ks k 0 es with
        | some (some (j,v))=> .bl r {o with es:=some es} (.done (.tuple [v,.int .i64 j]))
        | some none=> .bl r {o with es:=some (es++[.tuple [k,zero]])} (.done (.tuple [zero,.int .i64 es.length]))
        | none=> .fail) else .fail
     | none=> .fail
   | _=> .fail
 | .pU x s v=>ev x fun
   | .mp r g=>ev s fun
     | .int .i64 j=>ev v fun v=>xp v fun v=> .bn r fun o=>match o.es with
       | some es=>if o.gen=g∧o.sz=0∧o.fz=false∧v.cq=true∧0≤j then(match es[j.toNat]? with
          | some (.tuple [k',_])=> .bl r {o with es:=some (es.set j.toNat (.tuple [k',v]))} (.done (.tuple []))
          | _=> .fail) else .fail
       | none=> .fail
     | _=> .fail
   | _=> .fail
 | .pV i r sz lim s x=>ev (.tmp i) fun| .int _ j=> (ev s fun s=>ev x fun x=>content sz x fun ys=>ml ys fun ys=>ze (r+16*j.toNat) sz lim s ys) | _=> .fail
 | .ue q ok zero x k=>ev x fun x=>ev k fun k=>if isKey q k then(match x with
   | .mp r g=> .bn r fun o=>match o.es with
     | some es=>if o.gen=g∧o.sz=0 then iJ ok zero es k else .fail
     | none=> .fail
   | .mlit es=>iJ ok zero es k
   | _=> .fail) else .fail
 | .FW x=>ev x fun v=> (match v with
   | .fn .. =>snap v fun v' rs=>cV rs (.done v')
   | _=>xp v .done)
 | .Lf neg x y=>ev x fun a=>ev y fun b=>dq ((C5 a b).map fun c=> .bool (c !=neg))
 | .mapIter r x=>ev x fun
   | .mlit es=> .bn r fun o=> .bl r {gen:=o.gen+1,sz:=0,arr:=false,fz:=false,es:=some [.mlit es]} (.done (.it r (o.gen+1)))
   | _=> .fail
 | .pW f xs=>yM xs fun vs=> .done (.bfn f vs)
 | .pX f caps=>iH caps fun vs=> .done (.fn f vs)
 | .bad=> .fail
where
 jj ( agg:Bool) (sz r g idx off:Nat) (v:V):Act:=
  .bn r fun o=>match o.es with
   | some es=>if o.gen=g∧o.fz=false then match es[idx]? with
       | some e=>match iG agg off sz e v with
         | some e'=> .bl r {o with es:=some (es.set idx e')} (.done (.tuple []))
         | none=> .fail
       | none=> .fail
     else .fail
   | none=> .fail
def bX (E:Env) (o:bC):Act:=
 match o.guard with
 | none=>av E o.op
 | some (t,want)=> .kq t fun
   | .bool b=>if b=want then av E o.op else .done cY
   | .tuple []=> .done cY
   | _=> .fail
structure St where
 T:Nat→V
 O:Nat→Obj
def cC {α:Type} (f:Nat→α) (t:Nat) (v:α):Nat→α:=fun n=>if n=t then v else f n
abbrev aQ:=Nat→List V→Option eV
def Act.run (C:aQ):Act→St→Option (V×St)
 | .done v,σ=>some (v,σ)
 | .fail,_=>none
 | .kq t k,σ=> (k (σ.T t)).run C σ
 | .bn r k,σ=> (k (σ.O r)).run C σ
 | .bl r o k,σ=>k.run C {σ with O:=cC σ.O r o}
 | .call f au k,σ=>match C f au with
   | some res=> (k res).run C σ
   | none=>none
def St.put (σ:St) (dst:Option Nat) (v:V):St:=
 match dst with
 | some d=> {σ with T:=cC σ.T d v}
 | none=>σ
def dc (E:Env) (C:aQ) (o:bC) (σ:St):Option St:=
 match (bX E o).run C σ with
 | some (v,σ')=>some (σ'.put o.dst v)
 | none=>none
def fo (E:Env) (C:aQ):List bC→St→Option St
 | [],σ=>some σ
 | o::os,σ=>match dc E C o σ with
   | some σ'=>fo E C os σ'
   | none=>none
inductive Loc where
 | t (n:Nat)
 | o (n:Nat)
 | m (n:Nat) (ks:List Nat)
 | e (n:Nat) (ks:List Nat)
 deriving DecidableEq
def Loc.ru:Loc→Loc→Bool
 | .t a,.t b=>Nat.beq a b
 | .o a,.o b=>Nat.beq a b
 | .o a,.m b _=>Nat.beq a b
 | .m a _,.o b=>Nat.beq a b
 | .o a,.e b _=>Nat.beq a b
 | .e a _,.o b=>Nat.beq a b
 | .e a _,.e b _=>Nat.beq a b
 | .e a ks,.m b qU=>Nat.beq a b && !decide (ks=qU)
 | .m a ks,.e b qU=>Nat.beq a b && !decide (ks=qU)
 | _,_=>false
structure dn where
 reads:List Loc
 writes:List Loc
def Act.b5 (C:aQ):Act→St→dn
 | .done _,_=> ⟨[],[]⟩
 | .fail,_=> ⟨[],[]⟩
 | .kq t k,σ=>let f:=(k (σ.T t)).b5 C σ; ⟨.t t::f.reads,f.writes⟩
 | .bn r k,σ=>let f:=(k (σ.O r)).b5 C σ; ⟨.o r::f.reads,f.writes⟩
 | .bl r o k,σ=>let f:=k.b5 C {σ with O:=cC σ.O r o}; ⟨f.reads,.o r::f.writes⟩
 | .call f au k,σ=>match C f au with
   | some res=> (k res).b5 C σ
   | none=> ⟨[],[]⟩
def Wf (ks:List Nat):Loc→Loc
 | .o n=> .m n ks
 | l=>l
def QJ (ks:List Nat):Loc→Loc
 | .o n=> .e n ks
 | l=>l
def dt (o:qS) (f:dn):dn:=match o with
 | .iK ks _ _=> ⟨f.reads.map (Wf ks),f.writes⟩
 | .iL ks _ _=> ⟨f.reads,f.writes.map (QJ ks)⟩
 | _=>f
def cj (E:Env) (C:aQ) (o:bC) (σ:St):dn:=
 let f:=(bX E o).b5 C σ
 dt o.op ⟨f.reads,(match o.dst with| some d=> [.t d] | none=> [])++f.writes⟩
def meets (a b:List Loc):Bool:=a.any fun x=>b.any x.ru
def dn.jl (a b:dn):Bool:=meets a.writes b.writes || meets a.writes b.reads || meets a.reads b.writes
def Nk (x:Nat) (l:List Nat):List Nat:=if l.contains x then l else x::l
def closure (before:List (List Nat)) (pre:List Nat):List Nat:=(pre++pre.flatMap fun i=>before.getD i []).foldr Nk []
def fits (bE:List dn) (wait:List Nat) (f:dn):Nat→Bool
 | 0=>true
 | i+1=> (wait.contains i || !(bE.getD i ⟨[],[]⟩).jl f) &&fits bE wait f i
def df (E:Env) (C:aQ):List bC→List dn→List (List Nat)→St→Option St
 | [],_,_,σ=>some σ
 | o::os,bE,before,σ=>
   let f:=cj E C o σ
   let wait:=closure before o.pre
   if fits bE wait f bE.length &&o.pre.all (· <bE.length) then
    match dc E C o σ with
    | some σ'=>df E C os (bE++[f]) (before++[wait]) σ'
    | none=>none
   else none
inductive aN where
 | normal
 | exit (id:Nat)
 | ret
def aT (σ:St):aD→V
 | .tmp t=>σ.T t
 | .const v=>v
mutual
def V.beq:V→V→Bool
 | .bool a,.bool b=>a==b
 | .int k n,.int k' n'=>decide (k=k') &&decide (n=n')
 | .float a,.float b=>Nat.beq a b
 | .str a,.str b=>decide (a=b)
 | .agg a,.agg b=>V.lA a b
 | .tuple a,.tuple b=>V.lA a b
 | .nilp,.nilp=>true
 | .nilfn,.nilfn=>true
 | .nili,.nili=>true
 | .fn f a,.fn g b=>Nat.beq f g &&V.lA a b
 | .bfn f a,.bfn g b=>Nat.beq f g &&V.lA a b
 | .iface t a,.iface t' b=>Nat.beq t t' &&V.beq a b
 | .nils,.nils=>true
 | .lit s a,.lit s' b=>Nat.beq s s' &&V.lA a b
 | .own s a,.own s' b=>Nat.beq s s' &&V.lA a b
 | .sl a b c d,.sl a' b' c' d'=>Nat.beq a a' && (Nat.beq b b' && (Nat.beq c c' &&Nat.beq d d'))
 | .ptr a b c d,.ptr a' b' c' d'=>Nat.beq a a' && (Nat.beq b b' && (Nat.beq c c' &&Nat.beq d d'))
 | .eptr e a,.eptr e' a'=>V.beq e e' &&Nat.beq a a'
 | .mp a b,.mp a' b'=>Nat.beq a a' &&Nat.beq b b'
 | .mlit a,.mlit b=>V.lA a b
 | .it a b,.it a' b'=>Nat.beq a a' &&Nat.beq b b'
 | .litk s a,.litk s' b=>Nat.beq s s' &&V.lA a b
 | .epk a b e c,.epk a' b' e' c'=>Nat.beq a a' && (Nat.beq b b' && (V.beq e e' &&Nat.beq c c'))
 | .any,.any=>true
 | .msl s a b c,.msl s' a' b' c'=>Nat.beq s s' && (V.lA a a' && (Nat.beq b b' &&Nat.beq c c'))
 | .mptr s a b c,.mptr s' a' b' c'=>Nat.beq s s' && (V.lA a a' && (Nat.beq b b' &&Nat.beq c c'))
 | _,_=>false
def V.lA:List V→List V→Bool
 | [],[]=>true
 | a::au,b::bs=>V.beq a b &&V.lA au bs
 | _,_=>false
end
def F4:Option (List V)→Option (List V)→Bool
 | none,none=>true
 | some a,some b=>V.lA a b
 | _,_=>false
def Obj.beq (a b:Obj):Bool:=Nat.beq a.gen b.gen && (Nat.beq a.sz b.sz && ((a.arr==b.arr) && ((a.fz==b.fz) &&F4 a.es b.es)))
def lC {α:Type} (x:α):List α→List (List α)
 | []=> [[x]]
 | y::ys=> (x::y::ys):: (lC x ys).map (y:: ·)
def perms {α:Type}:List α→List (List α)
 | []=> [[]]
 | x::xs=> (perms xs).flatMap (lC x)
def te (it r g:Nat) (σ:St):Bool:=match σ.T it with
 | .it r' g'=>Nat.beq r' r && (Nat.beq g' g &&Nat.beq (σ.O r).gen g)
 | _=>false
def runK (rec:aM→St→Option (aN×St)) (it r g nx ne id:Nat) (ahead body last:aM):List V→St→Option St
 | [],σ=>  if te it r g σ then(match rec ahead (σ.put (some nx) (.tuple [.bool false])) with
     | some (.exit jF,σ')=>if jF=id then(match rec last σ' with
          | some (.normal,σ'')=>some σ''
          | _=>none) else none
     | _=>none) else none
 | e::p,σ=>match e with
   | .tuple [k,v]=>if te it r g σ then(match rec ahead (σ.put (some nx) (.tuple [.bool true,k,v])) with
      |   some (.normal,σ1)=>if te it r g σ1 then(match rec body (σ1.put (some ne) (.tuple [k,v])) with
          | some (.normal,σ')=>runK rec it r g nx ne id ahead body last p σ'
          | _=>none) else none
      | _=>none) else none
   | _=>none
def iM {α β:Type} (f:α→Option β):List α→Option (List β)
 | []=>some []
 | x::xs=>match f x,iM f xs with
   | some y,some ys=>some (y::ys)
   | _,_=>none
def agree (kT kO:List Nat) (σ1 σ:St):Bool:=kT.all (fun t=>V.beq (σ.T t) (σ1.T t)) &&kO.all fun r=>Obj.beq (σ.O r) (σ1.O r)
def forget (kT kO:List Nat) (σ1:St) (σs:List St):St:=
 {T:=fun t=>if kT.contains t then σ1.T t else .any
  O:=fun r=>if kO.contains r then σ1.O r else {gen:=(σ1::σs).foldr (fun σ m=>max (σ.O r).gen m) 0+1,sz:=0,arr:=false,fz:=false,es:=none}}
def my (T:Nat→V) (ps:List Nat) (x:List V):Nat→V:=(ps.zip x).foldl (fun T p=>cC T p.1 p.2) T
def pY (rec:aM→St→Option (aN×St)) (ps:List Nat) (N6 body:aM) (T:Nat→V):List (List V)→(Nat→Obj)→Option (aN×St)
 | [],O=>some (.normal,⟨T,O⟩)
 | x::xs,O=>match rec N6 ⟨my T ps x,O⟩ with
   | some (.normal,σ1)=>match rec body σ1 with
     | some (.normal,σ2)=>pY rec ps N6 body T xs σ2.O
     | some (e,σ2)=>some (e,⟨T,σ2.O⟩)
     | none=>none
   | _=>none
def ar ( E:Env) (C:aQ) (rec:aM→St→Option (aN×St)):aM→St→Option (aN×St)
 | .skip,σ=>some (.normal,σ)
 | .region ops,σ=> (fo E C ops σ).map fun σ=> (.normal,σ)
 | .drawn ops,σ=> (df E C ops [] [] σ).map fun σ=> (.normal,σ)
 | .seq a b,σ=>match rec a σ with
   | some (.normal,σ')=>rec b σ'
   | r=>r
 | .cond c a b,σ=>match aT σ c with
   | .bool true=>rec a σ
   | .bool false=>rec b σ
   | _=>none
 | .block id b,σ=>match rec b σ with
   | some (.exit jF,σ')=>if jF=id then some (.normal,σ') else some (.exit jF,σ')
   | r=>r
 | .loop b,σ=>match rec b σ with
   | some (.normal,σ')=>rec (.loop b) σ'
   | r=>r
 | .exit id,σ=>some (.exit id,σ)
 | .ret,σ=>some (.ret,σ)
 | .scope b,σ=>rec b σ
 | .bad,_=>none
 | .keys it nx ne id kT kO ahead body last,σ=>match σ.T it with
   | .it r g=> (match (σ.O r).es with
     | some [.mlit es]=>if (σ.O r).gen=g∧(σ.O r).sz=0∧(σ.O r).fz=false then
        (match iM (fun p=>runK rec it r g nx ne id ahead body last p ⟨σ.T,cC σ.O r ⟨g,0,false,false,none⟩⟩) (perms es) with
        | some (σ1::σs)=>if σs.all (agree kT kO σ1) then some (.normal,forget kT kO σ1 σs) else none
        | _=>none) else none
     | _=>none)
   | _=>none
 | .mh x ps N6 body,σ=>match aT σ x with
   | .fn g caps=>match E.iter g caps with
     | some xs=>if xs.all (fun x=>Nat.beq x.length ps.length)=true then pY rec ps N6 body σ.T xs σ.O else none
     | none=>none
   | _=>none
def bk:Obj:={gen:=0,sz:=0,arr:=false,fz:=false,es:=none}
def enter (args:List V):St:=
 {T:=fun t=>match args[t]? with
   | some (.msl _ _ off len)=> .sl t 0 off len
   | some (.mptr _ _ idx off)=> .ptr t 0 idx off
   | some v=>v
   | none=>cY
  O:=fun r=>match args[r]? with
   | some (.msl sz es _ _)=> {gen:=0,sz,arr:=true,fz:=false,es:=some es}
   | some (.mptr sz es _ _)=> {gen:=0,sz,arr:=false,fz:=false,es:=some es}
   | _=>bk}
def bT (n:Nat) (σ:St) (c:V):Option (V×List Nat):=
 match c with
 | .sl r g off len=>match (σ.O r).es with
   | some es=>if (σ.O r).gen=g∧off+len≤es.length∧(σ.O r).arr=true∧V.al (aw es off len)=true then
      if r<n then some (.sl r g off len,[r])
      else if (σ.O r).fz then some (.lit (σ.O r).sz (aw es off len),[]) else some (.own (σ.O r).sz (aw es off len),[r])
     else none
   | none=>none
 | c=>if c.aq then some (c,[]) else none
def bK (n:Nat) (σ:St):List V→Option (List V×List Nat)
 | []=>some ([],[])
 | c::cs=>match bT n σ c,bK n σ cs with
   | some (c',r),some (b6,rs)=>some (c'::b6,r++rs)
   | _,_=>none
def dg (n:Nat) (σ:St) (v:V):Option (V×List Nat):=
 if v.aq then some (v,[]) else
 match v with
 | .agg cs=>match bK n σ cs with
   | some (b6,rs)=>some (.agg b6,rs)
   | none=>none
 | .fn f cs=>match bK n σ cs with
   | some (b6,rs)=>if V.al b6 then some (.fn f b6,rs) else none
   | none=>none
 | v=>bT n σ v
def cF (n:Nat) (σ:St):List V→Option (List V×List Nat)
 | []=>some ([],[])
 | c::cs=>match dg n σ c,cF n σ cs with
   | some (c',r),some (b6,rs)=>some (c'::b6,r++rs)
   | _,_=>none
def kz ( σ:St):pI→Option V
 | .tmp t=>some (σ.T t)
 | .cell t agg sz=>match σ.T t with
   | .ptr r g idx off=>match (σ.O r).es with
     | some es=>if (σ.O r).gen=g then match es[idx]? with
        | some e=>part agg off sz e
        | none=>none
       else none
     | none=>none
   | _=>none
def dX (σ:St):List pI→Option (List V)
 | []=>some []
 | r::rs=>match kz σ r,dX σ rs with
   | some v,some vs=>some (v::vs)
   | _,_=>none
def bS (O:Nat→Obj):Nat→List V→Option (List (Nat×List V))
 | _,[]=>some []
 | i,.msl sz .. ::au| i,.mptr sz .. ::au=>match (O i).es,bS O (i+1) au with
   | some es,some outs=>if (O i).fz=false∧(O i).sz=sz∧V.al es=true then some (((O i).gen,es)::outs) else none
   | _,_=>none
 | i,_::au=>bS O (i+1) au
mutual
def V.erase:V→V
 | .litk sz xs=> .lit sz (V.erases xs)
 | .epk _ _ e off=> .eptr (V.erase e) off
 | .agg cs=> .agg (V.erases cs)
 | .tuple cs=> .tuple (V.erases cs)
 | .fn f cs=> .fn f (V.erases cs)
 | .bfn f cs=> .bfn f (V.erases cs)
 | .iface t v=> .iface t (V.erase v)
 | .lit sz xs=> .lit sz (V.erases xs)
 | .own sz xs=> .own sz (V.erases xs)
 | .eptr e off=> .eptr (V.erase e) off
 | .mlit es=> .mlit (V.erases es)
 | .msl sz es off len=> .msl sz es off len
 | .mptr sz es idx off=> .mptr sz es idx off
 | .bool b=> .bool b
 | .int k n=> .int k n
 | .float b=> .float b
 | .str s=> .str s
 | .nilp=> .nilp
 | .nilfn=> .nilfn
 | .nili=> .nili
 | .nils=> .nils
 | .sl r g off len=> .sl r g off len
 | .ptr r g idx off=> .ptr r g idx off
 | .mp r g=> .mp r g
 | .it r g=> .it r g
 | .any=> .any
def V.erases:List V→List V
 | []=> []
 | v::vs=>V.erase v::V.erases vs
end
def uh (v:V):V:=match v with
 | .lit sz xs=> .litk sz xs
 | v=>v
def zf (c:Nat) (v:V):V:=match v with
 | .agg cs=> .agg (cs.modify c uh)
 | v=>v
def cO (p:Nat×Nat) (args:List V):List V:=(V.erases args).modify p.1 (zf p.2)
def leave (af:bF) (args:List V) (σ:St):Option eV:=
 match dX σ af.results,bS σ.O 0 args with
 | some vs,some outs=>match cF args.length σ vs with
   | some ([v],rs)=>if distinct rs then some ⟨v,outs⟩ else none
   | some (vs,rs)=>if distinct rs then some ⟨.tuple vs,outs⟩ else none
   | none=>none
 | _,_=>none
def lh ( E:Env) (rec:aM→St→Option (aN×St)):aQ:=fun f args=>
 match E.ext f args with
 | some r=>some r
 | none=>match E.fn f with
   | some af=>if args.length=af.nparams then match af.tag with
      | none=> (match rec af.body (enter args) with
        | some (.normal,σ) | some (.ret,σ)=>leave af args σ
        | _=>none)
      | some p=>if V.al args=true then(match rec af.body (enter (cO p args)) with
        | some (.normal,σ) | some (.ret,σ)=> (leave af (cO p args) σ).map fun res=> ⟨res.val.erase,[]⟩
        | _=>none) else none
     else none
   | none=>none
def cX (E:Env) (rec:aM→St→Option (aN×St)):aQ:=fun f args=>
 match E.hyb f with
 | some h=>h (lh E rec) args
 | none=>lh E rec f args
def exec (E:Env):Nat→aM→St→Option (aN×St)
 | 0=>fun _ _=>none
 | n+1=>ar E (cX E (exec E n)) (exec E n)
def call (E:Env) (n:Nat):aQ:=cX E (exec E n)
end Go.AM
namespace Go.AM
mutual
theorem V.beq_eq: ∀ {a b:V},V.beq a b=true→a=b
 | .bool _,b,h| .int ..,b,h| .float _,b,h| .str _,b,h| .nilp,b,h| .nilfn,b,h| .nili,b,h| .nils,b,h| .any,b,h=>by
   cases b<;>simp_all[V.beq]
 | .sl ..,b,h| .ptr ..,b,h| .mp ..,b,h| .it ..,b,h=>by
   cases b<;>simp_all[V.beq]
 | .msl s au o l,b,h=>by
   cases b<;>simp only[V.beq,Zt,aap,reduceCtorEq,ZB] at h
   rw[h.1,V.eK h.2.1,h.2.2.1,h.2.2.2]
 | .mptr s au o l,b,h=>by
   cases b<;>simp only[V.beq,Zt,aap,reduceCtorEq,ZB] at h
   rw[h.1,V.eK h.2.1,h.2.2.1,h.2.2.2]
 | .agg au,b,h=>by
   cases b<;>simp only[V.beq,reduceCtorEq,ZB] at h
   rw[V.eK h]
 | .tuple au,b,h=>by
   cases b<;>simp only[V.beq,reduceCtorEq,ZB] at h
   rw[V.eK h]
 | .mlit au,b,h=>by
   cases b<;>simp only[V.beq,reduceCtorEq,ZB] at h
   rw[V.eK h]
 | .bfn f au,b,h=>by
   cases b<;>simp only[V.beq,Zt,aap,reduceCtorEq,ZB] at h
   rw[h.1,V.eK h.2]
 | .fn f au,b,h=>by
   cases b<;>simp only[V.beq,Zt,aap,reduceCtorEq,ZB] at h
   rw[h.1,V.eK h.2]
 | .iface t a,b,h=>by
   cases b<;>simp only[V.beq,Zt,aap,reduceCtorEq,ZB] at h
   rw[h.1,V.beq_eq h.2]
 | .lit s au,b,h=>by
   cases b<;>simp only[V.beq,Zt,aap,reduceCtorEq,ZB] at h
   rw[h.1,V.eK h.2]
 | .litk s au,b,h=>by
   cases b<;>simp only[V.beq,Zt,aap,reduceCtorEq,ZB] at h
   rw[h.1,V.eK h.2]
 | .own s au,b,h=>by
   cases b<;>simp only[V.beq,Zt,aap,reduceCtorEq,ZB] at h
   rw[h.1,V.eK h.2]
 | .eptr e o,b,h=>by
   cases b<;>simp only[V.beq,Zt,aap,reduceCtorEq,ZB] at h
   rw[h.2,V.beq_eq h.1]
 | .epk i z e o,b,h=>by
   cases b<;>simp only[V.beq,Zt,aap,reduceCtorEq,ZB] at h
   rw[h.1,h.2.1,V.beq_eq h.2.2.1,h.2.2.2]
theorem V.eK: ∀ {a b:List V},V.lA a b=true→a=b
 | [],[],_=>rfl
 | [],_::_,h=>by simp[V.lA] at h
 | _::_,[],h=>by simp[V.lA] at h
 | a::au,b::bs,h=>by
   simp only[V.lA,Zt] at h
   rw[V.beq_eq h.1,V.eK h.2]
end
mutual
theorem V.jk: ∀ (a:V),V.beq a a=true
 | .bool _| .int .. | .float _| .str _| .nilp| .nilfn| .nili| .nils| .any| .sl .. | .ptr .. | .mp .. | .it .. =>by simp[V.beq]
 | .agg au| .tuple au| .mlit au=>by simp only[V.beq];exact V.kA au
 | .fn f au| .bfn f au| .lit f au| .litk f au| .own f au=>by
   simp only[V.beq,Nat.beq_refl,aax]
   exact V.kA au
 | .msl f au _ _| .mptr f au _ _=>by
   simp only[V.beq,Nat.beq_refl,aax,aaV]
   exact V.kA au
 | .iface t a=>by
   simp only[V.beq,Nat.beq_refl,aax]
   exact V.jk a
 | .eptr e o=>by
   simp only[V.beq,Nat.beq_refl,aaV]
   exact V.jk e
 | .epk i z e o=>by
   simp only[V.beq,Nat.beq_refl,aax,aaV]
   exact V.jk e
theorem V.kA: ∀ (a:List V),V.lA a a=true
 | []=>rfl
 | a::au=>by simp only[V.lA,V.jk a,V.kA au,Z6]
end
theorem Obj.beq_eq {a b:Obj} (h:Obj.beq a b=true):a=b:=by
 obtain⟨g,s,r,f,es⟩:=a
 obtain⟨g',s',r',f',es'⟩:=b
 simp only[Obj.beq,Zt,aap,beq_iff_eq] at h
 obtain⟨rfl,rfl,rfl,rfl,h⟩:=h
 congr 1
 unfold F4 at h
 split at h
 ·rfl
 ·rw[V.eK h]
 ·simp at h
theorem Obj.jk (a:Obj):Obj.beq a a=true:=by
 obtain⟨g,s,r,f,es⟩:=a
 simp only[Obj.beq,Nat.beq_refl,beq_self_eq_true,aax]
 unfold F4
 cases es with
 | none=>rfl
 | some es=>exact V.kA es
section
variable {α β:Type}
theorem ui {x:α}: ∀ {l p:List α},p ∈ lC x l→p.Perm (x::l)
 | [],p,h=>by simp[lC] at h;subst h;exact .refl _
 | y::ys,p,h=>by
   simp only[lC,Zz,ZJ] at h
   rcases h with rfl| ⟨q,hq,rfl⟩
   ·exact .refl _
   ·exact((ui hq).cons y).trans (.swap x y ys)
theorem uj {x:α}: ∀ {a b:List α},a++x::b ∈ lC x (a++b)
 | [],[]=>by simp[lC]
 | [],y::ys=>by simp[lC]
 | y::a,b=>by
   simp only[Z2,lC,Zz,ZJ]
   exact .inr ⟨_,uj,rfl⟩
theorem sb: ∀ {l p:List α},p ∈ perms l→p.Perm l
 | [],p,h=>by simp[perms] at h;subst h;exact .refl _
 | x::xs,p,h=>by
   simp only[perms,List.mem_flatMap] at h
   obtain⟨q,hq,hp⟩:=h
   exact(ui hp).trans ((sb hq).cons x)
theorem mz: ∀ {l p:List α},p.Perm l→p ∈ perms l
 | [],p,h=>by rw[h.eq_nil];simp[perms]
 | x::xs,p,h=>by
   obtain⟨a,b,rfl⟩:=List.append_of_mem (h.mem_iff.2 Zm:x ∈ p)
   have h': (a++b).Perm xs:=List.Perm.cons_inv (List.perm_middle.symm.trans h)
   simp only[perms,List.mem_flatMap]
   exact⟨a++b,mz h',uj⟩
theorem sg {f:α→Option β}: ∀ {l:List α} {ys:List β},iM f l=some ys→ ∀x ∈ l,∃y ∈ ys,f x=some y
 | [],ys,_,x,hx=>by simp at hx
 | a::l,ys,h,x,hx=>by
   simp only[iM] at h
   split at h
   ·rename_i y RA h1 h2
    injection h with h;subst h
    rcases Zz.1 hx with rfl| hx
    ·exact⟨y,Zm,h1⟩
    ·obtain⟨z,hz,e⟩:=sg h2 x hx
     exact⟨z,by simp[hz],e⟩
   ·simp at h
theorem lj {f f':α→Option β} (h: ∀x y,f x=some y→f' x=some y): ∀ {l:List α} {ys:List β},iM f l=some ys→iM f' l=some ys
 | [],ys,e=>e
 | a::l,ys,e=>by
   simp only[iM] at e ⊢
   split at e
   ·rename_i y RA h1 h2
    rw[h _ _ h1,lj h h2];exact e
   ·simp at e
theorem ug {f:Nat→α→Option β} (hm: ∀n m x y,n≤m→f n x=some y→f m x=some y) {P:β→Prop}: ∀ {l:List α},(∀x ∈ l,∃n y,f n x=some y∧P y)→ ∃n ys,iM (f n) l=some ys∧ys.length=l.length∧ ∀y ∈ ys,P y
 | [],_=> ⟨0,[],rfl,rfl,Zm⟩
 | a::l,h=>by
   obtain⟨n1,y,h1,h2⟩:=h a Zm
   obtain⟨n2,ys,h3,h4,h5⟩:=ug hm (l:=l) fun x hx=>h x (by simp[hx])
   refine⟨max n1 n2,y::ys,?_,by simp[h4],?_⟩
   ·have e1:=hm n1 (max n1 n2) a y (ZX ..) h1
    have e2:=lj (f:=f n2) (f':=f (max n1 n2)) (fun x y h=>hm n2 _ x y (ZO ..) h) h3
    simp only[iM,e1,e2]
   ·intro z hz
    rcases Zz.1 hz with rfl| hz
    ·exact h2
    ·exact h5 z hz
end
theorem nq {r r':aM→St→Option (aN×St)} (h: ∀c σ x,r c σ=some x→r' c σ=some x) {it ri g nx ne id:Nat} {ahead body last:aM}: ∀ {p:List V} {σ σ':St},runK r it ri g nx ne id ahead body last p σ=some σ'→runK r' it ri g nx ne id ahead body last p σ=some σ'
 | [],σ,σ',e=>by
   simp only[runK] at e ⊢
   split at e
   · rename_i hi
     rw[if_pos hi]
     split at e
     ·rename_i jF σ1 h1
      rw[h _ _ _ h1]
      simp only
      split at e
      ·rename_i Nl
       rw[if_pos Nl]
       split at e
       ·rename_i σ2 h2
        rw[h _ _ _ h2];exact e
       ·simp at e
      ·simp at e
     ·simp at e
   ·simp at e
 | x::p,σ,σ',e=>by
   simp only[runK] at e ⊢
   split at e
   · split at e
     ·rename_i hi
      rw[if_pos hi]
      split at e
      ·rename_i σ1 h1
       rw[h _ _ _ h1]
       simp only
       split at e
       ·rename_i pG
        rw[if_pos pG]
        split at e
        ·rename_i σ2 h2
         rw[h _ _ _ h2]
         exact nq h e
        ·simp at e
       ·simp at e
      ·simp at e
     ·simp at e
   ·simp at e
theorem qZ {r r':aM→St→Option (aN×St)} (h: ∀c σ x,r c σ=some x→r' c σ=some x) {ps:List Nat} {a b:aM} {T:Nat→V}: ∀ {xs:List (List V)} {O:Nat→Obj} {y},pY r ps a b T xs O=some y→pY r' ps a b T xs O=some y
 | [],O,y,e=>by simpa [pY] using e
 | x::xs,O,y,e=>by
   simp only[pY] at e ⊢
   split at e
   ·rename_i σ1 h1
    rw[h _ _ _ h1]
    simp only
    split at e
    ·rename_i σ2 h2
     rw[h _ _ _ h2];exact qZ h e
    ·rename_i e2 σ2 hn h2
     rw[h _ _ _ h2]
     simp only
     cases e2 with
     | normal=>exact absurd rfl (hn ·)
     | exit id=>exact e
     | ret=>exact e
    ·simp at e
   ·simp at e
theorem p9 {α:Type} (f:α→Nat): ∀ {l:List α} {x:α},x ∈ l→f x≤l.foldr (fun x m=>max (f x) m) 0
 | a::l,x,h=>by
   simp only[List.foldr_cons]
   rcases Zz.1 h with rfl| h
   ·exact ZX ..
   ·exact Z1 (p9 f h) (ZO ..)
end Go.AM
