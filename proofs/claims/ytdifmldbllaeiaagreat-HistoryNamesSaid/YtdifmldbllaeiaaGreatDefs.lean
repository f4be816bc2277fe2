/- Texts of the proof. -/
import Derived.KernelRfl
import GoSem.Step
set_option linter.unusedSimpArgs false
set_option linter.unusedVariables false
namespace Go.AM
theorem ajk {p:Prop} (h:p:=by omega):p:=h
theorem ajl {p:Prop} (h:p:=by simp):p:=h
theorem ajm {p:Prop} (h:p:=by decide):p:=h
theorem ajn {p:Prop} (h:p:=by kernel_rfl):p:=h
theorem ajo {p:Prop} (h:p:=by dsimp only;omega):p:=h
abbrev ajp:=@List.getElem?_eq_some_iff
abbrev ajq:=@Option.some.injEq
abbrev ajr:=@Option.map_eq_some_iff
abbrev ajs:=@Array.getElem?_eq_some_iff
abbrev ajt:=@Bool.and_eq_true
abbrev aju:=@List.getElem?_eq_getElem
abbrev ajv:=@Prod.mk.injEq
abbrev ajw:=@Nat.le_refl
abbrev ajx:=@List.all_eq_true
abbrev ajy:=@List.mem_cons
abbrev ajz:=@Option.isSome_iff_exists
abbrev ajA:=@Bool.false_eq_true
abbrev ajB:=@Nat.lt_of_lt_of_le
abbrev ajC:=@List.length_cons
abbrev ajD:=@List.mem_append
abbrev ajE:=@Option.map_some
abbrev ajF:=@List.getElem?_map
abbrev ajG:=@Int.mul_le_mul_of_nonneg_left
abbrev ajH:=@List.getElem?_of_mem
abbrev ajI:=@Array.length_toList
abbrev ajJ:=@List.length_nil
abbrev ajK:=@List.cons_append
abbrev ajL:=@List.mem_map
abbrev ajM:=@List.all_cons
abbrev ajN:=@List.mem_of_mem_take
abbrev ajO:=@List.drop_eq_getElem_cons
abbrev ajP:=@Array.getElem?_eq_getElem
abbrev ajQ:=@Nat.le_trans
abbrev ajR:=@List.getElem?_append_right
abbrev ajS:=@List.drop_eq_nil_of_le
abbrev ajT:=@List.mem_or_eq_of_mem_set
abbrev ajU:=@Nat.le_max_right
abbrev ajV:=@List.map_append
abbrev ajW:=@List.getElem?_take
abbrev ajX:=@List.mem_singleton
abbrev ajY:=@Nat.eq_zero_or_pos
abbrev ajZ:=@Int.toNat_natCast
abbrev aj0:=@List.mem_iff_getElem?
abbrev aj1:=@List.getElem?_modify
abbrev aj2:=@List.getElem?_append_left
abbrev aj3:=@Nat.le_max_left
abbrev aj4:=@Nat.add_mul
abbrev aj5:=@Nat.eq_of_beq_eq_true
abbrev aj6:=@List.take_add_one
abbrev aj7:=@List.filterMap_cons
abbrev aj8:=@List.nil_append
abbrev aj9:=@Bool.and_true
abbrev aka:=@List.mem_cons_of_mem
abbrev akb:=@Nat.mul_le_mul_right
abbrev akc:=@List.getD_eq_getElem?_getD
abbrev akd:=@List.take_length
abbrev ake:=@Bool.not_eq_true'
abbrev akf:=@List.getElem?_cons_succ
abbrev akg:=@Nat.zero_add
abbrev akh:=@Bool.and_self
abbrev aki:=@List.mem_of_mem_drop
abbrev akj:=@List.length_take
abbrev akk:=@Nat.zero_le
abbrev akl:=@List.map_set
abbrev akm:=@List.getElem?_eq_none
abbrev akn:=@List.take_succ_cons
abbrev ako:=@List.nodup_cons
abbrev akp:=@List.ext_getElem?
abbrev akq:=@List.mem_of_find?_eq_some
abbrev akr:=@List.mem_filter
abbrev aks:=@List.length_eq_zero_iff
abbrev akt:=@Array.getElem?_setIfInBounds_ne
abbrev aku:=@List.length_eraseIdx
abbrev akv:=@List.mem_cons_self
abbrev akw:=@List.mem_filterMap
abbrev akx:=@Array.getElem?_eq_none
abbrev aky:=@List.getElem_mem
abbrev akz:=@List.getElem?_set
abbrev akA:=@List.length_filter_le
abbrev akB:=@List.append_assoc
abbrev akC:=@Array.getElem?_setIfInBounds
abbrev akD:=@Bool.or_eq_true
abbrev akE:=@List.findIdx?_eq_some_iff_getElem
abbrev akF:=@List.getElem?_cons_zero
abbrev akG:=@List.any_eq_true
abbrev akH:=@List.length_drop
abbrev akI:=@Array.toList_inj
abbrev akJ:=@Classical.byContradiction
abbrev akK:=@List.extract_eq_take_drop
abbrev akL:=@List.all_append
abbrev akM:=@Array.getElem?_append
abbrev akN:=@Ne.symm
abbrev akO:=@List.filter_cons
abbrev akP:=@List.range_eq_range'
abbrev akQ:=@Nat.add_zero
abbrev akR:=@List.take_zero
abbrev akS:=@List.drop_drop
abbrev akT:=@Int.mul_nonneg
abbrev akU:=@List.any_eq_false
abbrev akV:=@Nat.beq_eq
abbrev akW:=@Option.map_eq_map
abbrev akX:=@Array.toList_modify
abbrev akY:=@List.append_nil
abbrev akZ:=@List.filterMap_append
abbrev ak0:=@List.eraseIdx_append_of_length_le
abbrev ak1:=@Nat.lt_or_ge
abbrev ak2:=@Nat.mul_comm
abbrev ak3:=@List.length_replicate
abbrev ak4:=@Nat.le_of_ble_eq_true
abbrev ak5:=@List.getElem?_drop
abbrev ak6:=@List.pairwise_iff_getElem
abbrev ak7:=@Int.le_of_mul_le_mul_left
abbrev ak8:=@List.getElem?_set_ne
abbrev ak9:=@Array.toList_extract
abbrev ala:=@List.contains_eq_mem
abbrev alb:=@Array.replicate_succ
abbrev alc:=@Array.replicate_zero
abbrev ale:=@List.mem_of_mem_eraseIdx
abbrev alf:=@List.size_toArray
abbrev alg:=@Bool.eq_iff_iff
abbrev alh:=@Array.getElem?_replicate
abbrev ali:=@List.find?_some
abbrev alj:=@List.map_nil
abbrev alk:=@List.mem_map_of_mem
abbrev alm:=@Bool.true_and
abbrev aln:=@Nat.add_assoc
abbrev alo:=@List.append_toArray
abbrev alp:=@List.drop_append
abbrev alq:=@Nat.shiftLeft_eq
abbrev alr:=@List.drop_of_length_le
abbrev alu:=@List.cons.injEq
abbrev alv:=@Array.getElem?_toList
abbrev alw:=@Int.le_trans
abbrev alx:=@List.map_take
abbrev aly:=@List.push_toArray
abbrev alz:=@List.getElem?_append
abbrev alA:=@List.findIdx?_eq_none_iff
abbrev alB:=@Nat.mod_eq_of_lt
abbrev alC:=@Option.getD_some
abbrev alD:=@Array.toList_map
abbrev alE:=@List.getElem?_range
abbrev alF:=@List.drop_succ_cons
abbrev alG:=@List.length_filterMap_le
inductive V where
 | bool (b:Bool)
 | int (k:IntKind) (n:Int)
 | float (bits:Nat)
 | str (s:List UInt8)
 | agg (cs:List V)
 | tuple (vs:List V)
 | nilp| nilfn| nili
 | fn (f:Nat) (caps:List V)
 | bfn (f:Nat) (first:List V)
 | iface (t:Nat) (v:V)
 | nils
 | lit (sz:Nat) (xs:List V)
 | own (sz:Nat) (xs:List V)
 | sl (r g off len:Nat)
 | ptr (r g idx off:Nat)
 | eptr (e:V) (off:Nat)
 | mp (r g:Nat)
 | mlit (es:List V)
 | it (r g:Nat)
 | litk (sz:Nat) (xs:List V)
 | epk (i sz:Nat) (e:V) (off:Nat)
 | msl (sz:Nat) (es:List V) (off len:Nat)
 | mptr (sz:Nat) (es:List V) (idx off:Nat)
 | any
 deriving Inhabited
def ee:V:= .tuple []
structure Obj where
 gen:Nat
 sz:Nat
 arr:Bool
 fz:Bool
 es:Option (List V)
structure fu where
 val:V
 outs:List (Nat×List V)
inductive ba where
 | tmp (t:Nat)
 | const (v:V)
inductive vH where
 | move (x:ba)
 | pick (c a b:ba)
 | new (r sz:Nat) (x:ba)
 | build (cells:List V) (parts:List (Nat×Nat×ba))
 | buildSlice (r sz:Nat) (zero:V) (n:Nat) (parts:List (Nat×ba))
 | vQ (r sz:Nat)
 | ren (r:Nat) (x:ba)
 | load (agg:Bool) (sz:Nat) (x:ba)
 | store (agg:Bool) (sz:Nat) (x v:ba)
 | nilCheck (x:ba)
 | bin (op:BinOp) (x y:ba)
 | eqA (neg:Bool) (ks:List Nat) (x y:ba)
 | un (op:UnOp) (x:ba)
 | vS (k:IntKind) (x:ba)
 | A0 (x:ba)
 | A3 (k:IntKind) (x:ba)
 | A4 (f:Nat) (caps:List ba)
 | slice (sz:Nat) (x:ba) (lo hi mx:Option ba)
 | fieldAddr (off:Nat) (x:ba)
 | indexAddr (sz:Nat) (x i:ba)
 | rf (n sz:Nat) (x i:ba)
 | rj (x i:ba)
 | len (x:ba)
 | A5 (x:ba)
 | min (xs:List ba)
 | max (xs:List ba)
 | append (r sz lim:Nat) (s x:ba)
 | clear (sz:Nat) (zero:V) (x:ba)
 | extract (x:ba) (i:Nat)
 | call (r:Nat) (bG:Bool) (f:ba) (args:List ba)
 | deep (x:ba)
 | DK (ks:List Nat) (agg:Bool) (sz:Nat) (x:ba)
 | mkMap (r:Nat)
 | xQ (q:Option IntKind) (x k v:ba)
 | A6 (q:Option IntKind) (ok:Bool) (zero:V) (x k:ba)
 | QE (x:ba)
 | YO (neg:Bool) (x y:ba)
 | mapIter (r:Nat) (x:ba)
 | vX (f:Nat) (first:List ba)
 | vY (f:Nat) (caps:List (Bool×ba))
 | sR (ks:List Nat) (x k v:ba)
 | sS (ks:List Nat) (ok:Bool) (zero:V) (x k:ba)
 | vW (i r sz lim:Nat) (s x:ba)
 | vU (ks:List Nat) (zero:V) (x k:ba)
 | A7 (agg:Bool) (sz:Nat) (x v:ba)
 | lZ (ks:List Nat) (x k:ba)
 | mc (ks:List Nat) (x k:ba)
 | vV (x s v:ba)
 | bad
structure bN where
 dst:Option Nat
 op:vH
 guard:Option (Nat×Bool)
 pre:List Nat
inductive a8 where
 | skip
 | region (ops:List bN)
 | drawn (ops:List bN)
 | seq (a b:a8)
 | cond (c:ba) (a b:a8)
 | block (id:Nat) (b:a8)
 | loop (b:a8)
 | exit (id:Nat)
 | ret
 | scope (b:a8)
 | bad
 | keys (it nx ne id:Nat) (kT kO:List Nat) (ahead body last:a8)
 | pY (x:ba) (ps:List Nat) (asg body:a8)
inductive vF where
 | tmp (t:Nat)
 | cell (t:Nat) (agg:Bool) (sz:Nat)
structure aT where
 nparams:Nat
 ntmps:Nat
 c6:List (Option Nat)
 results:List vF
 body:a8
 tag:Option (Nat×Nat):=none
structure Env where
 fn:Nat->Option aT
 ext:Nat->List V->Option fu
 hyb:Nat->Option ((Nat->List V->Option fu)->List V->Option fu):=fun _=>none
 mono: ∀f h,hyb f=some h-> ∀ (C C':Nat->List V->Option fu),(∀g vs r,C g vs=some r->C' g vs=some r)-> ∀vs r,h C vs=some r->h C' vs=some r:=by exact fun _ _ h=>nomatch h
 iter:Nat->List V->Option (List (List V)):=fun _ _=>none
 Fc:Nat->Option (List V->List V->Option (V×List V)):=fun _=>none
def V.cells:V->List V
 | .agg cs=>cs
 | v=> [v]
def V.isAgg:V->Bool
 | .agg _=>true
 | _=>false
def V.isTuple:V->Bool
 | .tuple _=>true
 | _=>false
def V.aZ:V->Bool
 | .agg _| .tuple _| .any| .own .. | .msl .. | .mptr .. =>false
 | _=>true
mutual
def V.az:V->Bool
 | .bool _| .int .. | .float _| .str _| .nilp| .nilfn| .nili| .nils| .lit .. | .eptr .. | .litk .. | .epk .. | .any=>true
 | .agg cs=>V.al cs
 | .tuple cs=>V.al cs
 | .mlit es=>V.al es
 | .fn _ caps=>V.al caps
 | .bfn _ caps=>V.al caps
 | .iface _ v=>V.az v
 | .own .. | .sl .. | .ptr .. | .mp .. | .it .. | .msl .. | .mptr .. =>false
def V.al:List V->Bool
 | []=>true
 | c::cs=>V.az c &&V.al cs
end
mutual
def V.isScalar:V->Bool
 | .bool _| .int .. | .float _| .str _| .nilp| .nilfn| .nili| .nils=>true
 | .agg cs=>V.bz cs
 | .tuple cs=>V.bz cs
 | _=>false
def V.bz:List V->Bool
 | []=>true
 | c::cs=>V.isScalar c &&V.bz cs
end
def part (agg:Bool) (off sz:Nat) (e:V):Option V:=
 match agg,e with
 | true,.agg cs=>if off+sz<=cs.length then some (.agg ((cs.drop off).take sz)) else none
 | true,_=>none
 | false,.agg cs=>cs[off]?
 | false,v=>if v.aZ/\off=0 then some v else none
def lW (agg:Bool) (off sz:Nat) (e v:V):Option V:=
 match agg with
 | true=>match e,v with
   | .agg cs,.agg vs=>if vs.length=sz/\off+sz<=cs.length then some (.agg (cs.take off++vs++cs.drop (off+sz))) else none
   | _,_=>none
 | false=>if v.aZ/\sz=1 then match e with
    | .agg cs=>if off<cs.length then some (.agg (cs.set off v)) else none
    | e=>if e.aZ/\off=0 then some v else none
   else none
def V.dw (v:V):Bool:=v.isAgg || v.aZ
def bj (v:V) (sz:Nat):Bool:=v.cells.length==sz &&v.dw
def aN (es:List V) (off len:Nat):List V:=(es.drop off).take len
def overwrite (es:List V) (off:Nat) (ys:List V):List V:=es.take off++ys++es.drop (off+ys.length)
inductive Act where
 | done (v:V)
 | fail
 | pc (t:Nat) (k:V->Act)
 | bV (r:Nat) (k:Obj->Act)
 | bS (r:Nat) (o:Obj) (k:Act)
 | call (f:Nat) (args:List V) (k:fu->Act)
def ev (x:ba) (k:V->Act):Act:=
 match x with
 | .tmp t=> .pc t k
 | .const v=>k v
def evs:List ba->(List V->Act)->Act
 | [],k=>k []
 | x::xs,k=>ev x fun v=>evs xs fun vs=>k (v::vs)
def P0:Option ba->(Option V->Act)->Act
 | none,k=>k none
 | some x,k=>ev x fun v=>k (some v)
def fi:Option V->Act
 | some v=> .done v
 | none=> .fail
def jN (c:V) (k:V->Act):Act:=
 match c with
 | .sl r g off len=> .bV r fun o=>match o.es with
   | some es=>if o.gen=g/\o.arr=true/\off+len<=es.length/\V.al (aN es off len)=true then .bS r {o with fz:=true} (k (.lit o.sz (aN es off len))) else .fail
   | none=> .fail
 | .mp r g=> .bV r fun o=>match o.es with
   | some es=>if o.gen=g/\o.sz=0/\V.al es=true/\es.all V.isTuple=true then .bS r {o with fz:=true} (k (.mlit es)) else .fail
   | none=> .fail
 | .own .. | .msl .. | .mptr .. | .any| .it .. => .fail
 | c=>k c
def mM:List V->(List V->Act)->Act
 | [],k=>k []
 | c::cs,k=>jN c fun a=>mM cs fun b=>k (a::b)
def DJ (v:V) (k:V->Act):Act:=
 if v.az then k v else
 match v with
 | .agg cs=>mM cs fun a=>k (.agg a)
 | v=>jN v k
def oM (vs:List V) (k:List V->Act):Act:=
 if V.al vs then k vs else go vs k
where
 go:List V->(List V->Act)->Act
 | [],k=>k []
 | c::cs,k=>DJ c fun a=>go cs fun b=>k (a::b)
def uL (b:Bool) (c:V) (k:V->Act):Act:=
 match b,c with
 | true,.ptr r g 0 off=> .bV r fun o=>match o.es with
   | some [e]=>if o.gen=g/\0 <o.sz/\V.az e=true then .bS r {o with fz:=true} (k (.eptr e off)) else .fail
   | _=> .fail
 | _,c=>k c
def lX:List (Bool×ba)->(List V->Act)->Act
 | [],k=>k []
 | (b,x)::xs,k=>ev x fun c=>uL b c fun a=>lX xs fun cs=>k (a::cs)
def tW (f:V->(V->List Nat->Act)->Act):List V->(List V->List Nat->Act)->Act
 | [],k=>k [] []
 | c::cs,k=>f c fun a r=>tW f cs fun b rs=>k (a::b) (r++rs)
def Ae (f:V->(V->List Nat->Act)->Act) (vs:List V) (k:List V->List Nat->Act):Act:=
 if V.al vs then k vs [] else tW f vs k
def iv:Nat->V->(V->List Nat->Act)->Act
 | 0,v,k=>if v.az then k v [] else .fail
 | d+1,v,k=>if v.az then k v [] else
   match v with
   | .agg cs=>tW (iv d) cs fun a rs=>k (.agg a) rs
   | .fn f cs=>tW (iv d) cs fun a rs=>k (.fn f a) rs
   | .iface t x=>iv d x fun b rs=>k (.iface t b) rs
   | .sl r g off len=> .bV r fun o=>match o.es with
     | some es=>if o.gen=g/\o.arr=true/\off+len<=es.length then Ae (iv d) (aN es off len) fun xs rs=>k (.lit o.sz xs) (r::rs) else .fail
     | none=> .fail
   | .ptr r g idx off=> .bV r fun o=>match o.es with
     | some es=>if o.gen=g then match es[idx]? with
        | some e=>iv d e fun e' rs=>k (.eptr e' off) (r::rs)
        | none=> .fail
       else .fail
     | none=> .fail
   | _=> .fail
def snap (v:V) (k:V->List Nat->Act):Act:=iv 5 v k
structure eY where
 i:Nat
 r:Nat
 fresh:Option Nat
def eh (   r0:Nat):List V->List (Option Nat)->Nat->(List V->List Nat->List eY->Act)->Act
 | [],_,_,k=>k [] [] []
 | v::vs,m::a,i,k=>
   match m with
   | some sz=>match v with
     | .nils=>if 0 <sz then eh r0 vs a (i+1) fun aL rs ws=>k (.msl sz [] 0 0::aL) rs (⟨i,r0+i,some sz⟩::ws) else .fail
     | .sl r g off len=> .bV r fun o=>match o.es with
       | some es=>if o.gen=g/\o.fz=false/\o.sz=sz/\off+len<=es.length/\V.al es=true then
          eh r0 vs a (i+1) fun aL rs ws=>k (.msl sz es off len::aL) rs (⟨i,r,none⟩::ws) else .fail
       | none=> .fail
     | .ptr r g idx off=> .bV r fun o=>match o.es with
       | some es=>if o.gen=g/\o.fz=false/\o.sz=sz/\V.al es=true then
          eh r0 vs a (i+1) fun aL rs ws=>k (.mptr sz es idx off::aL) rs (⟨i,r,none⟩::ws) else .fail
       | none=> .fail
     | _=> .fail
   | none=>snap v fun v' rs=>eh r0 vs a (i+1) fun aL rs' ws=>k (v'::aL) (rs++rs') ws
 | v::vs,[],i,k=>snap v fun v' rs=>eh r0 vs [] (i+1) fun aL rs' ws=>k (v'::aL) (rs++rs') ws
def eC:List Nat->Act->Act
 | [],k=>k
 | r::rs,k=> .bV r fun o=> .bS r {o with fz:=true} (eC rs k)
def fY:List eY->List (Nat×List V)->(List (Nat×Nat×Nat)->Act)->Act
 | [],[],k=>k []
 | w::ws,(a,es)::outs,k=> .bV w.r fun o=>match w.fresh with
   | none=> .bS w.r {o with gen:=o.gen+a,es:=some es} (fY ws outs fun b=>k ((w.i,w.r,o.gen+a)::b))
   | some sz=> .bS w.r {gen:=o.gen+1,sz,arr:=true,fz:=false,es:=some es} (fY ws outs fun b=>k ((w.i,w.r,o.gen+1)::b))
 | _,_,_=> .fail
def qc (i:Nat):List (Nat×Nat×Nat)->Option (Nat×Nat)
 | []=>none
 | (j,r,g)::a=>if j=i then some (r,g) else qc i a
def dY (bG:Bool) (r:Nat) (gs:List (Nat×Nat×Nat)) (c:V) (k:V->Act):Act:=
 match c with
 | .own sz xs=>if bG then .bV r fun o=> .bS r {gen:=o.gen+1,sz,arr:=true,fz:=false,es:=some xs} (k (.sl r (o.gen+1) 0 xs.length)) else k (.lit sz xs)
 | .sl i _ off len=>match qc i gs with
   | some (r',a)=>k (.sl r' a off len)
   | none=> .fail
 | c=>if c.az then k c else .fail
def fR (bG:Bool):Nat->List (Nat×Nat×Nat)->List V->(List V->Act)->Act
 | _,_,[],k=>k []
 | r,a,c::cs,k=>dY bG r a c fun b=>fR bG (r+1) a cs fun d=>k (b::d)
def kN (bG:Bool) (r:Nat) (gs:List (Nat×Nat×Nat)) (v:V) (k:V->Act):Act:=
 if v.az then k v else
 match v with
 | .agg cs=>fR bG r gs cs fun a=>k (.agg a)
 | v=>dY bG r gs v k
def la (bG:Bool):Nat->List (Nat×Nat×Nat)->List V->(List V->Act)->Act
 | _,_,[],k=>k []
 | r,a,v::vs,k=>kN bG r a v fun v'=>la bG (r+8) a vs fun vs'=>k (v'::vs')
def eV (bG:Bool) (r:Nat) (gs:List (Nat×Nat×Nat)) (v:V) (k:V->Act):Act:=
 if v.az then k v else
 match v with
 | .tuple vs=>la bG r gs vs fun vs'=>k (.tuple vs')
 | v=>kN bG r gs v k
def apart (rs ws:List Nat):Bool:=ws.all fun w=> !rs.contains w
def distinct:List Nat->Bool
 | []=>true
 | w::ws=> !ws.contains w &&distinct ws
def xP (r:Nat) (bG:Bool):V->Bool
 | .own _ xs=>Nat.beq (r % 2) 1 && (!bG &&V.bz xs)
 | _=>false
def mN (E:Env) (r:Nat) (bG:Bool) (f:Nat) (args:List V):Act:=
 let c6:=match E.fn f with| some af=>af.c6| none=> []
 eh (r+8) args c6 0 fun aL rs ws=>
  if apart rs (ws.map (·.r)) &&distinct (ws.map (·.r)) then
   .call f aL fun res=>
    let go:=fY ws res.outs fun a=>eV bG r a res.val .done
    if (res.val.isScalar || xP r bG res.val) &&res.outs.all (fun o=>V.bz o.2) then go else eC rs go
  else .fail
def J5 (op:BinOp) (a b:Int):Option V:=
 match op with
 | .eql=>some (.bool (a==b))
 | .neq=>some (.bool (a !=b))
 | .lss=>some (.bool (a<b))
 | .leq=>some (.bool (a<=b))
 | .gtr=>some (.bool (b<a))
 | .geq=>some (.bool (b<=a))
 | _=>none
def nV (op:BinOp) (k:IntKind) (x y:Int):Option V:=
 let a:=BitVec.ofInt k.bits x
 let b:=BitVec.ofInt k.bits y
 let back (r:BitVec k.bits):Option V:=some (.int k (k.wrap r.toNat))
 match op with
 | .and=>back (a &&&b)
 | .or=>back (a ||| b)
 | .xor=>back (a ^^^ b)
 | .andNot=>back (a &&& ~~~b)
 | _=>none
def JK (k:Nat) (a b:V):Option Bool:=
 match k,a,b with
 | 0,.bool a,.bool b=>some (a==b)
 | 1,.int k a,.int c b=>if k=c then some (a==b) else none
 | 2,.str a,.str b=>some (decide (a=b))
 | _,_,_=>none
def df:List Nat->List V->List V->Option Bool
 | [],[],[]=>some true
 | k::ks,a::aL,b::c=>match JK k a b,df ks aL c with
   | some x,some y=>some (x &&y)
   | _,_=>none
 | _,_,_=>none
def Mm:V->V->Option Bool
 | .nilp,.nilp=>some true
 | .nilp,.eptr .. | .nilp,.epk .. | .eptr ..,.nilp| .epk ..,.nilp=>some false
 | .epk i z _ 0,.epk a z' _ 0=>if z=z'/\0 <z then some (i==a) else none
 | _,_=>none
def uM (op:BinOp) (x y:V):Option V:=
 match x,y with
 | .int k a,.int c b=>
   match op with
   | .shl=>if b< 0 then none else some (.int k (k.wrap (a*2 ^ (min b.toNat k.bits))))
   | .shr=>if b< 0 then none else some (.int k (a.fdiv (2 ^ (min b.toNat k.bits))))
   | op=>
     if k=c then
      match op with
      | .add=>some (.int k (k.wrap (a+b)))
      | .sub=>some (.int k (k.wrap (a - b)))
      | .mul=>some (.int k (k.wrap (a*b)))
      | .quo=>if b=0 then none else some (.int k (k.wrap (a.tdiv b)))
      | .rem=>if b=0 then none else some (.int k (a.tmod b))
      | .and| .or| .xor| .andNot=>nV op k a b
      | op=>J5 op a b
     else none
 | .str a,.str b=>
   match op with
   | .add=>if a.length+b.length<=9223372036854775807 then some (.str (a++b)) else none
   | .eql=>some (.bool (decide (a=b)))
   | .neq=>some (.bool (!decide (a=b)))
   | .lss=>some (.bool (Op.bytesLess a b))
   | .leq=>some (.bool (Op.bytesLess a b || decide (a=b)))
   | .gtr=>some (.bool (!(Op.bytesLess a b || decide (a=b))))
   | .geq=>some (.bool (!Op.bytesLess a b))
   | _=>none
 | _,_=>none
def unV (op:UnOp) (x:V):Option V:=
 match op,x with
 | .neg,.int k n=>some (.int k (k.wrap (0 - n)))
 | .not,.bool b=>some (.bool (!b))
 | .xor,.int k n=>nV .xor k (if k.signed then -1 else k.max) n
 | _,_=>none
def min2 (x y:V):Option V:=
 match x,y with
 | .int k a,.int c b=>if k=c then some (.int k (if b<a then b else a)) else none
 | _,_=>none
def max2 (x y:V):Option V:=
 match x,y with
 | .int k a,.int c b=>if k=c then some (.int k (if a<b then b else a)) else none
 | _,_=>none
def ru (f:V->V->Option V) (x:V):List V->Option V
 | []=>some x
 | y::a=>match f x y with
   | some z=>ru f z a
   | none=>none
def qJ (f:V->V->Option V):List V->Option V
 | []=>none
 | x::xs=>ru f x xs
def Vp:V->Option V
 | .nils=>some (.int .i64 0)
 | .lit _ xs=>some (.int .i64 xs.length)
 | .litk _ xs=>some (.int .i64 xs.length)
 | .sl _ _ _ len=>some (.int .i64 len)
 | _=>none
def cY (d:Nat):Option V->Option Nat
 | none=>some d
 | some (.int _ n)=>if 0<=n then some n.toNat else none
 | some _=>none
def AL (sz:Nat) (x:V) (lo hi mx:Option V):Option V:=
 match x with
 | .nils=>match cY 0 lo,cY 0 hi,cY 0 mx with
   | some l,some h,some m=>if l<=h/\h<=m/\m<=0/\(hi.isSome=true\/mx.isNone=true) then some .nils else none
   | _,_,_=>none
 | .lit sz' xs=>if sz'=sz then match cY 0 lo,cY xs.length hi,mx with
    | some l,some h,none=>if l<=h/\h<=xs.length then some (.lit sz (aN xs l (h - l))) else none
    | some l,some h,some m=>match hi,cY 0 (some m) with
      | some _,some m=>if l<=h/\h<=m/\m<=xs.length then some (if m=l then .nils else .any) else none
      | _,_=>none
    | _,_,_=>none
   else none
 | _=>none
def kq:List V->List (Nat×Nat×V)->Option (List V)
 | cs,[]=>some cs
 | cs,(off,sz,v)::rest=>if v.cells.length=sz/\off+sz<=cs.length/\v.dw=true then kq (cs.take off++v.cells++cs.drop (off+sz)) rest else none
def nU:List (Nat×Nat×ba)->(List (Nat×Nat×V)->Act)->Act
 | [],k=>k []
 | (o,s,x)::ps,k=>ev x fun v=>nU ps fun vs=>k ((o,s,v)::vs)
def kP:List (Nat×ba)->(List (Nat×V)->Act)->Act
 | [],k=>k []
 | (i,x)::ps,k=>ev x fun v=>DJ v fun v=>kP ps fun vs=>k ((i,v)::vs)
def eD (sz:Nat):List V->List (Nat×V)->Option (List V)
 | es,[]=>some es
 | es,(i,v)::rest=>if i<es.length/\bj v sz=true then eD sz (es.set i v) rest else none
def content (sz:Nat) (x:V) (k:List V->Act):Act:=
 match x with
 | .nils=>k []
 | .lit sz' xs=>if sz'=sz then k xs else .fail
 | .sl r g off len=> .bV r fun o=>match o.es with
   | some es=>if o.gen=g/\o.sz=sz/\off+len<=es.length then k (aN es off len) else .fail
   | none=> .fail
 | .str s=>if sz=1 then k (s.map fun b=> .int .u8 b.toNat) else .fail
 | _=> .fail
def Hp (r sz lim:Nat) (s:V) (ys:List V):Act:=
 if ys.all (bj · sz) &&decide (0 <sz) then match s with
 | .nils=>if ys.isEmpty then .done .nils else if ys.length<=lim then
     .bV r fun o=> .bS r {gen:=o.gen+1,sz,arr:=true,fz:=false,es:=some ys} (.done (.sl r (o.gen+1) 0 ys.length)) else .fail
 | .lit sz' xs=>if ys.isEmpty then .done (.lit sz' xs) else .fail
 | .sl r' g off len=> .bV r' fun o=>match o.es with
   | some es=>if o.gen=g/\o.arr=true/\o.fz=false/\o.sz=sz/\off+len<=es.length/\len+ys.length<=lim then
         if off+len+ys.length<=es.length then
          .bS r' {o with es:=some (overwrite es (off+len) ys)} (.done (.sl r' g off (len+ys.length)))
         else
          .bS r' {o with gen:=g+1,es:=some (aN es off len++ys)} (.done (.sl r' (g+1) 0 (len+ys.length)))
     else .fail
   | none=> .fail
 | _=> .fail
 else .fail
def Fj:List Nat->List V->List V
 | k::ks,c::cs=> (match k,c with
   | (k+1),.nils=> .lit (k+1) []
   | _,c=>c)::Fj ks cs
 | _,cs=>cs
def JJ (ks:List Nat) (v:V):V:=match v with
 | .agg cs=> .agg (Fj ks cs)
 | .nils=> (match ks with
   | (k+1)::_=> .lit (k+1) []
   | _=> .nils)
 | v=>v
def vT (v:V):Act:=match v with
 | .sl r g off len=> .bV r fun o=>match o.es with
   | some es=>if o.gen=g then oM es fun es'=> .bV r fun a=>if a.gen=o.gen/\a.es.isSome=true/\es'.all (bj · o.sz)=true then .bS r {a with es:=some es'} (.done (.sl r g off len)) else .fail else .fail
   | none=> .fail
 | v=> .done v
def tZ:V->V->Option Bool
 | .int k a,.int c b=>if k=c then some (a==b) else none
 | .str a,.str b=>some (decide (a=b))
 | _,_=>none
def cp (k:V):List V->Option (Option V)
 | []=>some none
 | .tuple [a,v]::es=>match tZ k a with
   | some true=>some (some v)
   | some false=>cp k es
   | none=>none
 | _::_=>none
def jt (k v:V):List V->Option (List V)
 | []=>some [.tuple [k,v]]
 | .tuple [a,v']::es=>match tZ k a with
   | some true=>some (.tuple [k,v]::es)
   | some false=> (jt k v es).map (.tuple [a,v']:: ·)
   | none=>none
 | _::_=>none
def isKey (q:Option IntKind) (k:V):Bool:=match q,k with
 | some q,.int k _=>decide (k=q)
 | none,.str _=>true
 | _,_=>false
def cZ (ok:Bool) (zero:V) (es:List V) (k:V):Act:=
 match cp k es with
 | some (some v)=> .done (if ok then .tuple [v,.bool true] else v)
 | some none=> .done (if ok then .tuple [zero,.bool false] else zero)
 | none=> .fail
def Fi:List V->Option (Nat×Nat)
 | [.agg [.mp r g]]=>some (r,g)
 | _=>none
def Mo (h:List V->List V->Option (V×List V)) (r g:Nat) (aL:List V):Act:= .bV r fun o=>match o.es with
 | some es=>if o.gen=g/\o.sz=0/\o.fz=false/\V.bz aL=true/\es.all V.isTuple=true then(match h es aL with
    | some (v,es')=> .bS r {o with es:=some es'} (.done v)
    | none=> .fail) else .fail
 | none=> .fail
def dj (ks:List Nat):V->V->Option Bool
 | .agg a,.agg b=>df ks a b
 | _,_=>none
def cP (ks:List Nat) (k:V):List V->Option (Option V)
 | []=>some none
 | .tuple [a,v]::es=>match dj ks k a with
   | some true=>some (some v)
   | some false=>cP ks k es
   | none=>none
 | _::_=>none
def ef (ks:List Nat) (k v:V):List V->Option (List V)
 | []=>some [.tuple [k,v]]
 | .tuple [a,v']::es=>match dj ks k a with
   | some true=>some (.tuple [k,v]::es)
   | some false=> (ef ks k v es).map (.tuple [a,v']:: ·)
   | none=>none
 | _::_=>none
def dC (ks:List Nat) (ok:Bool) (zero:V) (es:List V) (k:V):Act:=
 match cP ks k es with
 | some (some v)=> .done (if ok then .tuple [v,.bool true] else v)
 | some none=> .done (if ok then .tuple [zero,.bool false] else zero)
 | none=> .fail
def dB (ks:List Nat) (k:V):Nat->List V->Option (Option (Nat×V))
 | _,[]=>some none
 | i,.tuple [a,v]::es=>match dj ks k a with
   | some true=>some (some (i,v))
   | some false=>dB ks k (i+1) es
   | none=>none
 | _,_::_=>none
def jQ:List Nat->List V->Bool
 | [],[]=>true
 | 0::ks,.bool _::cs=>jQ ks cs
 | 1::ks,.int .i64 _::cs=>jQ ks cs
 | 2::ks,.str _::cs=>jQ ks cs
 | _,_=>false
def C3 (ks:List Nat):V->Bool
 | .agg cs=>jQ ks cs
 | _=>false
def Hj (ks:List Nat):V->Bool
 | .tuple [k,.int .i64 _]=>C3 ks k
 | _=>false
def ei (ks:List Nat) (k:V):List V->V
 | []=> .int .i64 0
 | .tuple [a,v]::es=>match dj ks k a with
   | some true=>v
   | _=>ei ks k es
 | _::es=>ei ks k es
def lN (ks:List Nat) (o:Obj):Nat×Nat×Option (Bool× (V->V)):=(o.gen,o.sz,o.es.map fun es=> (es.all (Hj ks),fun k=>ei ks k es))
def J6 (ks:List Nat) (g:Nat) (k:V):Nat×Nat×Option (Bool× (V->V))->Act
 | (gen,sz,some (true,f))=>if gen=g/\sz=0/\C3 ks k=true then .done (f k) else .fail
 | _=> .fail
def aQ ( E:Env):vH->Act
 | .move x=>ev x .done
 | .pick c a b=>ev c fun| .bool true=>ev a .done| .bool false=>ev b .done| _=> .fail
 | .new r sz x=>ev x fun v=>if bj v sz &&decide (0 <sz) then .bV r fun o=> .bS r {gen:=o.gen+1,sz,arr:=false,fz:=false,es:=some [v]} (.done (.ptr r (o.gen+1) 0 0)) else .fail
 | .build cells parts=>nU parts fun ps=>match kq cells ps with
   | some cs=> .done (.agg cs)
   | none=> .fail
 | .buildSlice r sz zero n parts=>kP parts fun ps=>match eD sz (List.replicate n zero) ps with
   | some es=>if bj zero sz &&decide (0 <sz/\n*sz<=16777216) then .bV r fun o=> .bS r {gen:=o.gen+1,sz,arr:=true,fz:=false,es:=some es} (.done (.sl r (o.gen+1) 0 n)) else .fail
   | none=> .fail
 | .vQ r sz=>if 0 <sz then .bV r fun o=> .bS r {gen:=o.gen+1,sz,arr:=true,fz:=false,es:=some []} (.done (.sl r (o.gen+1) 0 0)) else .fail
 | .ren r x=>ev x fun
   | .sl r1 g off len=>if r1=r then .done (.sl r1 g off len) else .bV r1 fun o=>if o.gen=g then
       .bV r fun p=> .bS r ⟨p.gen+1,o.sz,o.arr,o.fz,o.es⟩ (.bS r1 ⟨o.gen+1,o.sz,o.arr,o.fz,none⟩ (.done (.sl r (p.gen+1) off len))) else .fail
   | v=> .done v
 | .load agg sz x=>ev x fun
   | .ptr r g idx off=> .bV r fun o=>match o.es with
     | some es=>if o.gen=g then match es[idx]? with
        | some e=>fi (part agg off sz e)
        | none=> .fail
       else .fail
     | none=> .fail
   | .eptr e off=>fi (part agg off sz e)
   | .epk _ _ e off=>fi (part agg off sz e)
   | _=> .fail
 | .store agg sz x v=>ev x fun
   | .ptr r g idx off=> .bV r fun o=>if o.arr
     then ev v fun v=>DJ v fun v=>mQ agg sz r g idx off v
     else ev v fun v=>mQ agg sz r g idx off v
   | _=> .fail
 | .nilCheck x=>ev x fun
   | .ptr r g idx off=> .done (.ptr r g idx off)
   | .eptr e off=> .done (.eptr e off)
   | .epk i z e off=> .done (.epk i z e off)
   | .fn f caps=> .done (.fn f caps)
   | .bfn f caps=> .done (.bfn f caps)
   | _=> .fail
 | .bin op x y=>ev x fun a=>ev y fun b=>fi (uM op a b)
 | .eqA neg ks x y=>ev x fun a=>ev y fun b=>match a,b with
   | .agg aL,.agg u=>match df ks aL u with
       | some b=> .done (.bool (b !=neg))
       | none=> .fail
   | _,_=> .fail
 | .un op x=>ev x fun a=>fi (unV op a)
 | .vS k x=>ev x fun| .int _ n=> .done (.int k (k.wrap n)) | _=> .fail
 | .A0 x=>ev x fun| .int _ n=> .done (.float (FloatKind.f64.nearest n)) | _=> .fail
 | .A3 k x=>ev x fun
   | .float b=>match (FloatKind.f64.decode b).toInt .zero with
     | some n=>if k.min<=n/\n<=k.max then .done (.int k n) else .fail
     | none=> .fail
   | _=> .fail
 | .A4 f caps=>evs caps fun vs=> .done (.fn f vs)
 | .slice sz x lo hi mx=>ev x fun v=>P0 lo fun l=>P0 hi fun h=>P0 mx fun m=>match v with
   | .sl r g off len=> .bV r fun o=>match o.es with
     | some es=>if o.gen=g/\o.sz=sz then
        match cY 0 l,cY len h,m with
        | some l,some h,none=>if l<=h/\off+h<=es.length then .done (.sl r g (off+l) (h - l)) else .fail
        | some l,some t,some m=>match h,cY 0 (some m) with
          | some _,some m=>if l<=t/\t<=m/\off+m<=es.length then .done (if m=l then .nils else .any) else .fail
          | _,_=> .fail
        | _,_,_=> .fail
       else .fail
     | none=> .fail
   | v=>fi (AL sz v l h m)
 | .fieldAddr off x=>ev x fun
   | .ptr r g idx o=> .done (.ptr r g idx (o+off))
   | .eptr e o=> .done (.eptr e (o+off))
   | .epk i z e o=> .done (.epk i z e (o+off))
   | _=> .fail
 | .indexAddr sz x i=>ev x fun v=>ev i fun i=>match v,i with
   | .sl r g off len,.int _ n=> .bV r fun o=>if 0<=n/\n<len/\o.sz=sz/\o.gen=g then .done (.ptr r g (off+n.toNat) 0) else .fail
   | .lit sz' xs,.int _ n=>if 0<=n/\sz'=sz then match xs[n.toNat]? with
       | some e=> .done (.eptr e 0)
       | none=> .fail
     else .fail
   | .litk sz' xs,.int _ n=>if 0<=n/\sz'=sz/\0 <sz then match xs[n.toNat]? with
       | some e=> .done (.epk n.toNat sz e 0)
       | none=> .fail
     else .fail
   | _,_=> .fail
 | .rf n sz x i=>ev x fun v=>ev i fun i=>match v,i with
   | .ptr r g idx off,.int _ j=>if 0<=j/\j<n then .done (.ptr r g idx (off+j.toNat*sz)) else .fail
   | .eptr e off,.int _ j=>if 0<=j/\j<n then .done (.eptr e (off+j.toNat*sz)) else .fail
   | _,_=> .fail
 | .rj x i=>ev x fun v=>ev i fun i=>match v,i with
   | .str s,.int _ n=>if 0<=n then match s[n.toNat]? with
       | some b=> .done (.int .u8 b.toNat)
       | none=> .fail
     else .fail
   | _,_=> .fail
 | .len x=>ev x fun v=>fi (Vp v)
 | .A5 x=>ev x fun| .str s=> .done (.int .i64 s.length) | _=> .fail
 | .min xs=>evs xs fun vs=>fi (qJ min2 vs)
 | .max xs=>evs xs fun vs=>fi (qJ max2 vs)
 | .append r sz lim s x=>ev s fun s=>ev x fun x=>content sz x fun d=>oM d fun d=>
   if d.all (bj · sz) &&decide (0 <sz) then match s with
   | .nils=>if d.isEmpty then .done .nils else if d.length<=lim then
       .bV r fun o=> .bS r {gen:=o.gen+1,sz,arr:=true,fz:=false,es:=some d} (.done (.sl r (o.gen+1) 0 d.length)) else .fail
   | .lit sz' xs=>if d.isEmpty then .done (.lit sz' xs) else .fail
   | .sl r' g off len=> .bV r' fun o=>match o.es with
     | some es=>if o.gen=g/\o.arr=true/\o.fz=false/\o.sz=sz/\off+len<=es.length/\len+d.length<=lim then
          if off+len+d.length<=es.length then
           .bS r' {o with es:=some (overwrite es (off+len) d)} (.done (.sl r' g off (len+d.length)))
          else
           .bS r' {o with gen:=g+1,es:=some (aN es off len++d)} (.done (.sl r' (g+1) 0 (len+d.length)))
       else .fail
     | none=> .fail
   | _=> .fail
   else .fail
 | .clear sz zero x=>ev x fun
   | .nils=> .done (.tuple [])
   | .sl r g off len=> .bV r fun o=>match o.es with
     | some es=>if o.gen=g/\o.arr=true/\o.fz=false/\o.sz=sz/\off+len<=es.length/\bj zero sz then
        .bS r {o with es:=some (overwrite es off (List.replicate len zero))} (.done (.tuple [])) else .fail
     | none=> .fail
   | _=> .fail
 | .extract x i=>ev x fun
   | .tuple vs=>fi vs[i]?
   | _=> .fail
 | .call r bG f args=>ev f fun
   | .fn f caps=>evs args fun aL=>mN E r bG f (aL++caps)
   | .bfn f first=>evs args fun aL=>match Fi first,E.Fc f with
     | some (r',g),some h=>Mo h r' g aL
     | _,_=>mN E r bG f (first++aL)
   | _=> .fail
 | .deep x=>ev x vT
 | .DK ks agg sz x=>ev x fun
   | .ptr r g idx off=> .bV r fun o=>match o.es with
     | some es=>if o.gen=g then match es[idx]? with
        | some e=>fi ((part agg off sz e).map (JJ ks))
        | none=> .fail
       else .fail
     | none=> .fail
   | .eptr e off=>fi ((part agg off sz e).map (JJ ks))
   | .epk _ _ e off=>fi ((part agg off sz e).map (JJ ks))
   | _=> .fail
 | .mkMap r=> .bV r fun o=> .bS r {gen:=o.gen+1,sz:=0,arr:=false,fz:=false,es:=some []} (.done (.mp r (o.gen+1)))
 | .xQ q x k v=>ev x fun
   | .mp r g=>ev k fun k=>ev v fun v=>DJ v fun v=> .bV r fun o=>match o.es with
     | some es=>if o.gen=g/\o.sz=0/\o.fz=false/\isKey q k=true/\v.dw=true then(match jt k v es with
        | some es'=> .bS r {o with es:=some es'} (.done (.tuple []))
        | none=> .fail) else .fail
     | none=> .fail
   | _=> .fail
 | .sR ks x k v=>ev x fun
   | .mp r g=>ev k fun k=>ev v fun v=>DJ v fun v=> .bV r fun o=>match o.es with
     | some es=>if o.gen=g/\o.sz=0/\o.fz=false/\(dj ks k k).isSome=true/\v.dw=true then(match ef ks k v es with
        | some es'=> .bS r {o with es:=some es'} (.done (.tuple []))
        | none=> .fail) else .fail
     | none=> .fail
   | _=> .fail
 | .sS ks ok zero x k=>ev x fun x=>ev k fun k=>if (dj ks k k).isSome then(match x with
   | .mp r g=> .bV r fun o=>match o.es with
     | some es=>if o.gen=g/\o.sz=0 then dC ks ok zero es k else .fail
     | none=> .fail
   | .mlit es=>dC ks ok zero es k
   | _=> .fail) else .fail
 | .lZ ks x k=>ev x fun
   | .mp r g=>ev k fun k=> .bV r fun o=>J6 ks g k (lN ks o)
   | _=> .fail
 | .mc ks x k=>ev x fun
   | .mp r g=>ev k fun k=> .bV r fun o=>match o.es with
     | some es=>if o.gen=g/\o.sz=0/\o.fz=false/\C3 ks k=true/\es.all (Hj ks)=true then(match dB ks k 0 es with
        | some (some (j,v))=> .bS r {o with es:=some es} (.done (.tuple [v,.int .i64 j]))
        | some none=> .bS r {o with es:=some (es++[.tuple [k,.int .i64 0]])} (.done (.tuple [.int .i64 0,.int .i64 es.length]))
        | none=> .fail) else .fail
     | none=> .fail
   | _=> .fail
 | .A7 agg sz x v=>ev x fun
   | .ptr r g idx off=>ev v fun v=>mQ agg sz r g idx off v
   | _=> .fail
 | .vU ks zero x k=>ev x fun
   | .mp r g=>ev k fun k=> .bV r fun o=>match o.es with
     | some es=>if o.gen=g/\o.sz=0/\o.fz=false/\(dj ks k k).isSome=true/\zero.dw=true then(match dB ks k 0 es with
        | some (some (j,v))=> .bS r {o with es:=some es} (.done (.tuple [v,.int .i64 j]))
        | some none=> .bS r {o with es:=some (es++[.tuple [k,zero]])} (.done (.tuple [zero,.int .i64 es.length]))
        | none=> .fail) else .fail
     | none=> .fail
   | _=> .fail
 | .vV x s v=>ev x fun
   | .mp r g=>ev s fun
     | .int .i64 j=>ev v fun v=>DJ v fun v=> .bV r fun o=>match o.es with
       | some es=>if o.gen=g/\o.sz=0/\o.fz=false/\v.dw=true/\0<=j then(match es[j.toNat]? with
          | some (.tuple [w,_])=> .bS r {o with es:=some (es.set j.toNat (.tuple [w,v]))} (.done (.tuple []))
          | _=> .fail) else .fail
       | none=> .fail
     | _=> .fail
   | _=> .fail
 | .vW i r sz lim s x=>ev (.tmp i) fun| .int _ j=> (ev s fun s=>ev x fun x=>content sz x fun d=>oM d fun d=>Hp (r+16*j.toNat) sz lim s d) | _=> .fail
 | .A6 q ok zero x k=>ev x fun x=>ev k fun k=>if isKey q k then(match x with
   | .mp r g=> .bV r fun o=>match o.es with
     | some es=>if o.gen=g/\o.sz=0 then cZ ok zero es k else .fail
     | none=> .fail
   | .mlit es=>cZ ok zero es k
   | _=> .fail) else .fail
 | .QE x=>ev x fun v=> (match v with
   | .fn .. =>snap v fun v' rs=>eC rs (.done v')
   | _=>DJ v .done)
 | .YO neg x y=>ev x fun a=>ev y fun b=>fi ((Mm a b).map fun c=> .bool (c !=neg))
 | .mapIter r x=>ev x fun
   | .mlit es=> .bV r fun o=> .bS r {gen:=o.gen+1,sz:=0,arr:=false,fz:=false,es:=some [.mlit es]} (.done (.it r (o.gen+1)))
   | _=> .fail
 | .vX f xs=>evs xs fun vs=> .done (.bfn f vs)
 | .vY f caps=>lX caps fun vs=> .done (.fn f vs)
 | .bad=> .fail
where
 mQ ( agg:Bool) (sz r g idx off:Nat) (v:V):Act:=
  .bV r fun o=>match o.es with
   | some es=>if o.gen=g/\o.fz=false then match es[idx]? with
       | some e=>match lW agg off sz e v with
         | some e'=> .bS r {o with es:=some (es.set idx e')} (.done (.tuple []))
         | none=> .fail
       | none=> .fail
     else .fail
   | none=> .fail
def cX (E:Env) (o:bN):Act:=
 match o.guard with
 | none=>aQ E o.op
 | some (t,a)=> .pc t fun
   | .bool b=>if b=a then aQ E o.op else .done ee
   | .tuple []=> .done ee
   | _=> .fail
structure St where
 T:Nat->V
 O:Nat->Obj
def dh {α:Type} (f:Nat->α) (t:Nat) (v:α):Nat->α:=fun n=>if n=t then v else f n
abbrev bB:=Nat->List V->Option fu
def Act.run (C:bB):Act->St->Option (V×St)
 | .done v,σ=>some (v,σ)
 | .fail,_=>none
 | .pc t k,σ=> (k (σ.T t)).run C σ
 | .bV r k,σ=> (k (σ.O r)).run C σ
 | .bS r o k,σ=>k.run C {σ with O:=dh σ.O r o}
 | .call f aL k,σ=>match C f aL with
   | some res=> (k res).run C σ
   | none=>none
def St.put (σ:St) (dst:Option Nat) (v:V):St:=
 match dst with
 | some d=> {σ with T:=dh σ.T d v}
 | none=>σ
def ew (E:Env) (C:bB) (o:bN) (σ:St):Option St:=
 match (cX E o).run C σ with
 | some (v,σ')=>some (σ'.put o.dst v)
 | none=>none
def js (E:Env) (C:bB):List bN->St->Option St
 | [],σ=>some σ
 | o::os,σ=>match ew E C o σ with
   | some σ'=>js E C os σ'
   | none=>none
inductive Loc where
 | t (n:Nat)
 | o (n:Nat)
 | m (n:Nat) (ks:List Nat)
 | e (n:Nat) (ks:List Nat)
 deriving DecidableEq
def Loc.xW:Loc->Loc->Bool
 | .t a,.t b=>Nat.beq a b
 | .o a,.o b=>Nat.beq a b
 | .o a,.m b _=>Nat.beq a b
 | .m a _,.o b=>Nat.beq a b
 | .o a,.e b _=>Nat.beq a b
 | .e a _,.o b=>Nat.beq a b
 | .e a _,.e b _=>Nat.beq a b
 | .e a ks,.m b c=>Nat.beq a b && !decide (ks=c)
 | .m a ks,.e b c=>Nat.beq a b && !decide (ks=c)
 | _,_=>false
structure dU where
 reads:List Loc
 writes:List Loc
def Act.dc (C:bB):Act->St->dU
 | .done _,_=> ⟨[],[]⟩
 | .fail,_=> ⟨[],[]⟩
 | .pc t k,σ=>let f:=(k (σ.T t)).dc C σ; ⟨.t t::f.reads,f.writes⟩
 | .bV r k,σ=>let f:=(k (σ.O r)).dc C σ; ⟨.o r::f.reads,f.writes⟩
 | .bS r o k,σ=>let f:=k.dc C {σ with O:=dh σ.O r o}; ⟨f.reads,.o r::f.writes⟩
 | .call f aL k,σ=>match C f aL with
   | some res=> (k res).dc C σ
   | none=> ⟨[],[]⟩
def asM (ks:List Nat):Loc->Loc
 | .o n=> .m n ks
 | l=>l
def asE (ks:List Nat):Loc->Loc
 | .o n=> .e n ks
 | l=>l
def fA (o:vH) (f:dU):dU:=match o with
 | .lZ ks _ _=> ⟨f.reads.map (asM ks),f.writes⟩
 | .mc ks _ _=> ⟨f.reads,f.writes.map (asE ks)⟩
 | _=>f
def di (E:Env) (C:bB) (o:bN) (σ:St):dU:=
 let f:=(cX E o).dc C σ
 fA o.op ⟨f.reads,(match o.dst with| some d=> [.t d] | none=> [])++f.writes⟩
def meets (a b:List Loc):Bool:=a.any fun x=>b.any x.xW
def dU.mU (a b:dU):Bool:=meets a.writes b.writes || meets a.writes b.reads || meets a.reads b.writes
def ddI (x:Nat) (l:List Nat):List Nat:=if l.contains x then l else x::l
def closure (before:List (List Nat)) (pre:List Nat):List Nat:=(pre++pre.flatMap fun i=>before.getD i []).foldr ddI []
def fits (b:List dU) (a:List Nat) (f:dU):Nat->Bool
 | 0=>true
 | i+1=> (a.contains i || !(b.getD i ⟨[],[]⟩).mU f) &&fits b a f i
def eX (E:Env) (C:bB):List bN->List dU->List (List Nat)->St->Option St
 | [],_,_,σ=>some σ
 | o::os,b,before,σ=>
   let f:=di E C o σ
   let a:=closure before o.pre
   if fits b a f b.length &&o.pre.all (· <b.length) then
    match ew E C o σ with
    | some σ'=>eX E C os (b++[f]) (before++[a]) σ'
    | none=>none
   else none
inductive aW where
 | normal
 | exit (id:Nat)
 | ret
def bE (σ:St):ba->V
 | .tmp t=>σ.T t
 | .const v=>v
mutual
def V.beq:V->V->Bool
 | .bool a,.bool b=>a==b
 | .int k n,.int j l=>decide (k=j) &&decide (n=l)
 | .float a,.float b=>Nat.beq a b
 | .str a,.str b=>decide (a=b)
 | .agg a,.agg b=>V.qQ a b
 | .tuple a,.tuple b=>V.qQ a b
 | .nilp,.nilp=>true
 | .nilfn,.nilfn=>true
 | .nili,.nili=>true
 | .fn f a,.fn g b=>Nat.beq f g &&V.qQ a b
 | .bfn f a,.bfn g b=>Nat.beq f g &&V.qQ a b
 | .iface t a,.iface m b=>Nat.beq t m &&V.beq a b
 | .nils,.nils=>true
 | .lit s a,.lit h b=>Nat.beq s h &&V.qQ a b
 | .own s a,.own h b=>Nat.beq s h &&V.qQ a b
 | .sl a b c d,.sl a' b' i d'=>Nat.beq a a' && (Nat.beq b b' && (Nat.beq c i &&Nat.beq d d'))
 | .ptr a b c d,.ptr a' b' i d'=>Nat.beq a a' && (Nat.beq b b' && (Nat.beq c i &&Nat.beq d d'))
 | .eptr e a,.eptr e' a'=>V.beq e e' &&Nat.beq a a'
 | .mp a b,.mp a' b'=>Nat.beq a a' &&Nat.beq b b'
 | .mlit a,.mlit b=>V.qQ a b
 | .it a b,.it a' b'=>Nat.beq a a' &&Nat.beq b b'
 | .litk s a,.litk h b=>Nat.beq s h &&V.qQ a b
 | .epk a b e c,.epk a' b' e' i=>Nat.beq a a' && (Nat.beq b b' && (V.beq e e' &&Nat.beq c i))
 | .any,.any=>true
 | .msl s a b c,.msl h a' b' i=>Nat.beq s h && (V.qQ a a' && (Nat.beq b b' &&Nat.beq c i))
 | .mptr s a b c,.mptr h a' b' i=>Nat.beq s h && (V.qQ a a' && (Nat.beq b b' &&Nat.beq c i))
 | _,_=>false
def V.qQ:List V->List V->Bool
 | [],[]=>true
 | a::aL,b::c=>V.beq a b &&V.qQ aL c
 | _,_=>false
end
def QL:Option (List V)->Option (List V)->Bool
 | none,none=>true
 | some a,some b=>V.qQ a b
 | _,_=>false
def Obj.beq (a b:Obj):Bool:=Nat.beq a.gen b.gen && (Nat.beq a.sz b.sz && ((a.arr==b.arr) && ((a.fz==b.fz) &&QL a.es b.es)))
def qf {α:Type} (x:α):List α->List (List α)
 | []=> [[x]]
 | y::a=> (x::y::a):: (qf x a).map (y:: ·)
def perms {α:Type}:List α->List (List α)
 | []=> [[]]
 | x::xs=> (perms xs).flatMap (qf x)
def zM (it r g:Nat) (σ:St):Bool:=match σ.T it with
 | .it r' a=>Nat.beq r' r && (Nat.beq a g &&Nat.beq (σ.O r).gen g)
 | _=>false
def runK (rec:a8->St->Option (aW×St)) (it r g nx ne id:Nat) (ahead body last:a8):List V->St->Option St
 | [],σ=>  if zM it r g σ then(match rec ahead (σ.put (some nx) (.tuple [.bool false])) with
     | some (.exit a,σ')=>if a=id then(match rec last σ' with
          | some (.normal,σ'')=>some σ''
          | _=>none) else none
     | _=>none) else none
 | e::p,σ=>match e with
   | .tuple [k,v]=>if zM it r g σ then(match rec ahead (σ.put (some nx) (.tuple [.bool true,k,v])) with
      |   some (.normal,σ1)=>if zM it r g σ1 then(match rec body (σ1.put (some ne) (.tuple [k,v])) with
          | some (.normal,σ')=>runK rec it r g nx ne id ahead body last p σ'
          | _=>none) else none
      | _=>none) else none
   | _=>none
def mg {α β:Type} (f:α->Option β):List α->Option (List β)
 | []=>some []
 | x::xs=>match f x,mg f xs with
   | some y,some a=>some (y::a)
   | _,_=>none
def agree (kT kO:List Nat) (σ1 σ:St):Bool:=kT.all (fun t=>V.beq (σ.T t) (σ1.T t)) &&kO.all fun r=>Obj.beq (σ.O r) (σ1.O r)
def forget (kT kO:List Nat) (σ1:St) (σs:List St):St:=
 {T:=fun t=>if kT.contains t then σ1.T t else .any
  O:=fun r=>if kO.contains r then σ1.O r else {gen:=(σ1::σs).foldr (fun σ m=>max (σ.O r).gen m) 0+1,sz:=0,arr:=false,fz:=false,es:=none}}
def kr (T:Nat->V) (ps:List Nat) (x:List V):Nat->V:=(ps.zip x).foldl (fun T p=>dh T p.1 p.2) T
def vZ (rec:a8->St->Option (aW×St)) (ps:List Nat) (asg body:a8) (T:Nat->V):List (List V)->(Nat->Obj)->Option (aW×St)
 | [],O=>some (.normal,⟨T,O⟩)
 | x::xs,O=>match rec asg ⟨kr T ps x,O⟩ with
   | some (.normal,σ1)=>match rec body σ1 with
     | some (.normal,σ2)=>vZ rec ps asg body T xs σ2.O
     | some (e,σ2)=>some (e,⟨T,σ2.O⟩)
     | none=>none
   | _=>none
def aK ( E:Env) (C:bB) (rec:a8->St->Option (aW×St)):a8->St->Option (aW×St)
 | .skip,σ=>some (.normal,σ)
 | .region ops,σ=> (js E C ops σ).map fun σ=> (.normal,σ)
 | .drawn ops,σ=> (eX E C ops [] [] σ).map fun σ=> (.normal,σ)
 | .seq a b,σ=>match rec a σ with
   | some (.normal,σ')=>rec b σ'
   | r=>r
 | .cond c a b,σ=>match bE σ c with
   | .bool true=>rec a σ
   | .bool false=>rec b σ
   | _=>none
 | .block id b,σ=>match rec b σ with
   | some (.exit d,σ')=>if d=id then some (.normal,σ') else some (.exit d,σ')
   | r=>r
 | .loop b,σ=>match rec b σ with
   | some (.normal,σ')=>rec (.loop b) σ'
   | r=>r
 | .exit id,σ=>some (.exit id,σ)
 | .ret,σ=>some (.ret,σ)
 | .scope b,σ=>rec b σ
 | .bad,_=>none
 | .keys it nx ne id kT kO ahead body last,σ=>match σ.T it with
   | .it r g=> (match (σ.O r).es with
     | some [.mlit es]=>if (σ.O r).gen=g/\(σ.O r).sz=0/\(σ.O r).fz=false then
        (match mg (fun p=>runK rec it r g nx ne id ahead body last p ⟨σ.T,dh σ.O r ⟨g,0,false,false,none⟩⟩) (perms es) with
        | some (σ1::σs)=>if σs.all (agree kT kO σ1) then some (.normal,forget kT kO σ1 σs) else none
        | _=>none) else none
     | _=>none)
   | _=>none
 | .pY x ps asg body,σ=>match bE σ x with
   | .fn g caps=>match E.iter g caps with
     | some xs=>if xs.all (fun x=>Nat.beq x.length ps.length)=true then vZ rec ps asg body σ.T xs σ.O else none
     | none=>none
   | _=>none
def bJ:Obj:={gen:=0,sz:=0,arr:=false,fz:=false,es:=none}
def enter (args:List V):St:=
 {T:=fun t=>match args[t]? with
   | some (.msl _ _ off len)=> .sl t 0 off len
   | some (.mptr _ _ idx off)=> .ptr t 0 idx off
   | some v=>v
   | none=>ee
  O:=fun r=>match args[r]? with
   | some (.msl sz es _ _)=> {gen:=0,sz,arr:=true,fz:=false,es:=some es}
   | some (.mptr sz es _ _)=> {gen:=0,sz,arr:=false,fz:=false,es:=some es}
   | _=>bJ}
def cQ (n:Nat) (σ:St) (c:V):Option (V×List Nat):=
 match c with
 | .sl r g off len=>match (σ.O r).es with
   | some es=>if (σ.O r).gen=g/\off+len<=es.length/\(σ.O r).arr=true/\V.al (aN es off len)=true then
      if r<n then some (.sl r g off len,[r])
      else if (σ.O r).fz then some (.lit (σ.O r).sz (aN es off len),[]) else some (.own (σ.O r).sz (aN es off len),[r])
     else none
   | none=>none
 | c=>if c.az then some (c,[]) else none
def cC (n:Nat) (σ:St):List V->Option (List V×List Nat)
 | []=>some ([],[])
 | c::cs=>match cQ n σ c,cC n σ cs with
   | some (a,r),some (b,rs)=>some (a::b,r++rs)
   | _,_=>none
def ej (n:Nat) (σ:St) (v:V):Option (V×List Nat):=
 if v.az then some (v,[]) else
 match v with
 | .agg cs=>match cC n σ cs with
   | some (a,rs)=>some (.agg a,rs)
   | none=>none
 | .fn f cs=>match cC n σ cs with
   | some (a,rs)=>if V.al a then some (.fn f a,rs) else none
   | none=>none
 | v=>cQ n σ v
def dN (n:Nat) (σ:St):List V->Option (List V×List Nat)
 | []=>some ([],[])
 | c::cs=>match ej n σ c,dN n σ cs with
   | some (a,r),some (b,rs)=>some (a::b,r++rs)
   | _,_=>none
def mT ( σ:St):vF->Option V
 | .tmp t=>some (σ.T t)
 | .cell t agg sz=>match σ.T t with
   | .ptr r g idx off=>match (σ.O r).es with
     | some es=>if (σ.O r).gen=g then match es[idx]? with
        | some e=>part agg off sz e
        | none=>none
       else none
     | none=>none
   | _=>none
def eW (σ:St):List vF->Option (List V)
 | []=>some []
 | r::rs=>match mT σ r,eW σ rs with
   | some v,some vs=>some (v::vs)
   | _,_=>none
def cV (O:Nat->Obj):Nat->List V->Option (List (Nat×List V))
 | _,[]=>some []
 | i,.msl sz .. ::aL| i,.mptr sz .. ::aL=>match (O i).es,cV O (i+1) aL with
   | some es,some outs=>if (O i).fz=false/\(O i).sz=sz/\V.al es=true then some (((O i).gen,es)::outs) else none
   | _,_=>none
 | i,_::aL=>cV O (i+1) aL
mutual
def V.erase:V->V
 | .litk sz xs=> .lit sz (V.erases xs)
 | .epk _ _ e off=> .eptr (V.erase e) off
 | .agg cs=> .agg (V.erases cs)
 | .tuple cs=> .tuple (V.erases cs)
 | .fn f cs=> .fn f (V.erases cs)
 | .bfn f cs=> .bfn f (V.erases cs)
 | .iface t v=> .iface t (V.erase v)
 | .lit sz xs=> .lit sz (V.erases xs)
 | .own sz xs=> .own sz (V.erases xs)
 | .eptr e off=> .eptr (V.erase e) off
 | .mlit es=> .mlit (V.erases es)
 | .msl sz es off len=> .msl sz es off len
 | .mptr sz es idx off=> .mptr sz es idx off
 | .bool b=> .bool b
 | .int k n=> .int k n
 | .float b=> .float b
 | .str s=> .str s
 | .nilp=> .nilp
 | .nilfn=> .nilfn
 | .nili=> .nili
 | .nils=> .nils
 | .sl r g off len=> .sl r g off len
 | .ptr r g idx off=> .ptr r g idx off
 | .mp r g=> .mp r g
 | .it r g=> .it r g
 | .any=> .any
def V.erases:List V->List V
 | []=> []
 | v::vs=>V.erase v::V.erases vs
end
def A9 (v:V):V:=match v with
 | .lit sz xs=> .litk sz xs
 | v=>v
def Hq (c:Nat) (v:V):V:=match v with
 | .agg cs=> .agg (cs.modify c A9)
 | v=>v
def cR (p:Nat×Nat) (args:List V):List V:=(V.erases args).modify p.1 (Hq p.2)
def leave (af:aT) (args:List V) (σ:St):Option fu:=
 match eW σ af.results,cV σ.O 0 args with
 | some vs,some outs=>match dN args.length σ vs with
   | some ([v],rs)=>if distinct rs then some ⟨v,outs⟩ else none
   | some (vs,rs)=>if distinct rs then some ⟨.tuple vs,outs⟩ else none
   | none=>none
 | _,_=>none
def fh ( E:Env) (rec:a8->St->Option (aW×St)):bB:=fun f args=>
 match E.ext f args with
 | some r=>some r
 | none=>match E.fn f with
   | some af=>if args.length=af.nparams then match af.tag with
      | none=> (match rec af.body (enter args) with
        | some (.normal,σ) | some (.ret,σ)=>leave af args σ
        | _=>none)
      | some p=>if V.al args=true then(match rec af.body (enter (cR p args)) with
        | some (.normal,σ) | some (.ret,σ)=> (leave af (cR p args) σ).map fun res=> ⟨res.val.erase,[]⟩
        | _=>none) else none
     else none
   | none=>none
def dM (E:Env) (rec:a8->St->Option (aW×St)):bB:=fun f args=>
 match E.hyb f with
 | some h=>h (fh E rec) args
 | none=>fh E rec f args
def exec (E:Env):Nat->a8->St->Option (aW×St)
 | 0=>fun _ _=>none
 | n+1=>aK E (dM E (exec E n)) (exec E n)
def call (E:Env) (n:Nat):bB:=dM E (exec E n)
end Go.AM
namespace Go.AM
mutual
theorem V.beq_eq: ∀ {a b:V},V.beq a b=true->a=b
 | .bool _,b,h| .int ..,b,h| .float _,b,h| .str _,b,h| .nilp,b,h| .nilfn,b,h| .nili,b,h| .nils,b,h| .any,b,h=>by
   cases b<;>simp_all[V.beq]
 | .sl ..,b,h| .ptr ..,b,h| .mp ..,b,h| .it ..,b,h=>by
   cases b<;>simp_all[V.beq]
 | .msl s aL o l,b,h=>by
   cases b<;>simp only[V.beq,ajt,akV,reduceCtorEq,ajA] at h
   rw[h.1,V.jl h.2.1,h.2.2.1,h.2.2.2]
 | .mptr s aL o l,b,h=>by
   cases b<;>simp only[V.beq,ajt,akV,reduceCtorEq,ajA] at h
   rw[h.1,V.jl h.2.1,h.2.2.1,h.2.2.2]
 | .agg aL,b,h=>by
   cases b<;>simp only[V.beq,reduceCtorEq,ajA] at h
   rw[V.jl h]
 | .tuple aL,b,h=>by
   cases b<;>simp only[V.beq,reduceCtorEq,ajA] at h
   rw[V.jl h]
 | .mlit aL,b,h=>by
   cases b<;>simp only[V.beq,reduceCtorEq,ajA] at h
   rw[V.jl h]
 | .bfn f aL,b,h=>by
   cases b<;>simp only[V.beq,ajt,akV,reduceCtorEq,ajA] at h
   rw[h.1,V.jl h.2]
 | .fn f aL,b,h=>by
   cases b<;>simp only[V.beq,ajt,akV,reduceCtorEq,ajA] at h
   rw[h.1,V.jl h.2]
 | .iface t a,b,h=>by
   cases b<;>simp only[V.beq,ajt,akV,reduceCtorEq,ajA] at h
   rw[h.1,V.beq_eq h.2]
 | .lit s aL,b,h=>by
   cases b<;>simp only[V.beq,ajt,akV,reduceCtorEq,ajA] at h
   rw[h.1,V.jl h.2]
 | .litk s aL,b,h=>by
   cases b<;>simp only[V.beq,ajt,akV,reduceCtorEq,ajA] at h
   rw[h.1,V.jl h.2]
 | .own s aL,b,h=>by
   cases b<;>simp only[V.beq,ajt,akV,reduceCtorEq,ajA] at h
   rw[h.1,V.jl h.2]
 | .eptr e o,b,h=>by
   cases b<;>simp only[V.beq,ajt,akV,reduceCtorEq,ajA] at h
   rw[h.2,V.beq_eq h.1]
 | .epk i z e o,b,h=>by
   cases b<;>simp only[V.beq,ajt,akV,reduceCtorEq,ajA] at h
   rw[h.1,h.2.1,V.beq_eq h.2.2.1,h.2.2.2]
theorem V.jl: ∀ {a b:List V},V.qQ a b=true->a=b
 | [],[],_=>rfl
 | [],_::_,h=>by simp[V.qQ] at h
 | _::_,[],h=>by simp[V.qQ] at h
 | a::aL,b::c,h=>by simp only[V.qQ,ajt] at h;rw[V.beq_eq h.1,V.jl h.2]
end
mutual
theorem V.mS: ∀ (a:V),V.beq a a=true
 | .bool _| .int .. | .float _| .str _| .nilp| .nilfn| .nili| .nils| .any| .sl .. | .ptr .. | .mp .. | .it .. =>by simp[V.beq]
 | .agg aL| .tuple aL| .mlit aL=>by simp only[V.beq];exact V.po aL
 | .fn f aL| .bfn f aL| .lit f aL| .litk f aL| .own f aL=>by
   simp only[V.beq,Nat.beq_refl,alm];exact V.po aL
 | .msl f aL _ _| .mptr f aL _ _=>by
   simp only[V.beq,Nat.beq_refl,alm,aj9];exact V.po aL
 | .iface t a=>by
   simp only[V.beq,Nat.beq_refl,alm];exact V.mS a
 | .eptr e o=>by
   simp only[V.beq,Nat.beq_refl,aj9];exact V.mS e
 | .epk i z e o=>by simp only[V.beq,Nat.beq_refl,alm,aj9];exact V.mS e
theorem V.po: ∀ (a:List V),V.qQ a a=true
 | []=>rfl
 | a::aL=>by simp only[V.qQ,V.mS a,V.po aL,akh]
end
theorem Obj.beq_eq {a b:Obj} (h:Obj.beq a b=true):a=b:=by
 obtain⟨g,s,r,f,es⟩:=a;obtain⟨c,d,r',e,es'⟩:=b;simp only[Obj.beq,ajt,akV,beq_iff_eq] at h;obtain⟨rfl,rfl,rfl,rfl,h⟩:=h;congr 1
 unfold QL at h;split at h
 .rfl
 .rw[V.jl h]
 simp at h
theorem Obj.mS (a:Obj):Obj.beq a a=true:=by
 obtain⟨g,s,r,f,es⟩:=a;simp only[Obj.beq,Nat.beq_refl,beq_self_eq_true,alm];unfold QL;cases es with
 | none=>rfl
 | some es=>exact V.po es
section
variable {α β:Type}
theorem Ba {x:α}: ∀ {l p:List α},p ∈ qf x l->p.Perm (x::l)
 | [],p,h=>by simp[qf] at h;subst h;exact .refl _
 | y::a,p,h=>by
   simp only[qf,ajy,ajL] at h;rcases h with rfl| ⟨q,b,rfl⟩
   .exact .refl _
   exact((Ba b).cons y).trans (.swap x y a)
theorem Bb {x:α}: ∀ {a b:List α},a++x::b ∈ qf x (a++b)
 | [],[]=>by simp[qf]
 | [],y::c=>by simp[qf]
 | y::a,b=>by simp only[ajK,qf,ajy,ajL];exact .inr ⟨_,Bb,rfl⟩
theorem yY: ∀ {l p:List α},p ∈ perms l->p.Perm l
 | [],p,h=>by simp[perms] at h;subst h;exact .refl _
 | x::xs,p,h=>by simp only[perms,List.mem_flatMap] at h;obtain⟨q,a,hp⟩:=h;exact(Ba hp).trans ((yY a).cons x)
theorem rn: ∀ {l p:List α},p.Perm l->p ∈ perms l
 | [],p,h=>by rw[h.eq_nil];simp[perms]
 | x::xs,p,h=>by obtain⟨a,b,rfl⟩:=List.append_of_mem (h.mem_iff.2 ajl:x ∈ p);have c: (a++b).Perm xs:=List.Perm.cons_inv (List.perm_middle.symm.trans h);simp only[perms,List.mem_flatMap];exact⟨a++b,rn c,Bb⟩
theorem y6 {f:α->Option β}: ∀ {l:List α} {ys:List β},mg f l=some ys-> ∀x ∈ l,∃y ∈ ys,f x=some y
 | [],ys,_,x,hx=>by simp at hx
 | a::l,ys,h,x,hx=>by
   simp only[mg] at h;split at h
   .rename_i y b h1 h2;injection h with h;subst h;rcases ajy.1 hx with rfl| hx
    .exact⟨y,ajl,h1⟩
    obtain⟨z,c,e⟩:=y6 h2 x hx;exact⟨z,by simp[c],e⟩
   simp at h
theorem pZ {f f':α->Option β} (h: ∀x y,f x=some y->f' x=some y): ∀ {l:List α} {ys:List β},mg f l=some ys->mg f' l=some ys
 | [],ys,e=>e
 | a::l,ys,e=>by
   simp only[mg] at e ⊢;split at e
   .rename_i y b h1 h2;rw[h _ _ h1,pZ h h2];exact e
   simp at e
theorem A8 {f:Nat->α->Option β} (hm: ∀n m x y,n<=m->f n x=some y->f m x=some y) {P:β->Prop}: ∀ {l:List α},(∀x ∈ l,∃n y,f n x=some y/\P y)-> ∃n ys,mg (f n) l=some ys/\ys.length=l.length/\ ∀y ∈ ys,P y
 | [],_=> ⟨0,[],rfl,rfl,ajl⟩
 | a::l,h=>by
   obtain⟨c,y,h1,h2⟩:=h a ajl;obtain⟨b,ys,h3,h4,h5⟩:=A8 hm (l:=l) fun x hx=>h x (by simp[hx]);refine⟨max c b,y::ys,?_,by simp[h4],?_⟩
   .have e:=hm c (max c b) a y (aj3 ..) h1;have g:=pZ (f:=f b) (f':=f (max c b)) (fun x y h=>hm b _ x y (ajU ..) h) h3;simp only[mg,e,g]
   intro z d;rcases ajy.1 d with rfl| d
   .exact h2
   exact h5 z d
end
theorem sQ {r r':a8->St->Option (aW×St)} (h: ∀c σ x,r c σ=some x->r' c σ=some x) {it a g nx ne id:Nat} {ahead body last:a8}: ∀ {p:List V} {σ σ':St},runK r it a g nx ne id ahead body last p σ=some σ'->runK r' it a g nx ne id ahead body last p σ=some σ'
 | [],σ,σ',e=>by
   simp only[runK] at e ⊢;split at e
   . rename_i hi
     rw[if_pos hi];split at e
     .rename_i f σ1 h1;rw[h _ _ _ h1];simp only;split at e
      .rename_i b;rw[if_pos b];split at e
       .rename_i σ2 h2;rw[h _ _ _ h2];exact e
       simp at e
      simp at e
     simp at e
   simp at e
 | x::p,σ,σ',e=>by
   simp only[runK] at e ⊢;split at e
   . split at e
     .rename_i hi;rw[if_pos hi];split at e
      .rename_i σ1 h1;rw[h _ _ _ h1];simp only;split at e
       .rename_i d;rw[if_pos d];split at e
        .rename_i σ2 h2;rw[h _ _ _ h2];exact sQ h e
        simp at e
       simp at e
      simp at e
     simp at e
   simp at e
theorem xK {r r':a8->St->Option (aW×St)} (h: ∀c σ x,r c σ=some x->r' c σ=some x) {ps:List Nat} {a b:a8} {T:Nat->V}: ∀ {xs:List (List V)} {O:Nat->Obj} {y},vZ r ps a b T xs O=some y->vZ r' ps a b T xs O=some y
 | [],O,y,e=>by simpa [vZ] using e
 | x::xs,O,y,e=>by
   simp only[vZ] at e ⊢;split at e
   .rename_i σ1 h1;rw[h _ _ _ h1];simp only;split at e
    .rename_i σ2 h2;rw[h _ _ _ h2];exact xK h e
    .rename_i d σ2 hn h2;rw[h _ _ _ h2];simp only;cases d with
     | normal=>exact absurd rfl (hn ·)
     | exit id=>exact e
     | ret=>exact e
    simp at e
   simp at e
theorem wc {α:Type} (f:α->Nat): ∀ {l:List α} {x:α},x ∈ l->f x<=l.foldr (fun x m=>max (f x) m) 0
 | a::l,x,h=>by
   simp only[List.foldr_cons];rcases ajy.1 h with rfl| h
   .exact aj3 ..
   exact ajQ (wc f h) (ajU ..)
end Go.AM
