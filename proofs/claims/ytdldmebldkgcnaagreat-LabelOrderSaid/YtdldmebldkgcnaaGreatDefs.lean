/- Texts of the proof. -/
import Derived.KernelRfl
import GoSem.Step
set_option linter.unusedSimpArgs false
set_option linter.unusedVariables false
namespace Go.AM
theorem abV {p:Prop} (h:p:=by omega):p:=h
theorem abW {p:Prop} (h:p:=by simp):p:=h
theorem aiO {p:Prop} (h:p:=by decide):p:=h
theorem aiQ {p:Prop} (h:p:=by kernel_rfl):p:=h
theorem aiR {p:Prop} (h:p:=by dsimp only;omega):p:=h
abbrev aiS:=@List.getElem?_eq_some_iff
abbrev aiT:=@Option.some.injEq
abbrev aiU:=@Option.map_eq_some_iff
abbrev aiV:=@Array.getElem?_eq_some_iff
abbrev aiW:=@List.getElem?_eq_getElem
abbrev aiX:=@Prod.mk.injEq
abbrev aiY:=@List.all_eq_true
abbrev aiZ:=@Nat.le_refl
abbrev ai0:=@List.mem_cons
abbrev ai1:=@Option.isSome_iff_exists
abbrev ai2:=@Nat.lt_of_lt_of_le
abbrev ai3:=@Bool.false_eq_true
abbrev ai4:=@Option.map_some
abbrev ai5:=@List.length_cons
abbrev ai6:=@List.mem_append
abbrev ai7:=@List.drop_eq_nil_of_le
abbrev ai8:=@Array.length_toList
abbrev ai9:=@List.mem_map
abbrev aja:=@List.all_cons
abbrev ajb:=@Nat.le_trans
abbrev ajc:=@List.length_nil
abbrev ajd:=@Array.getElem?_eq_getElem
abbrev aje:=@List.mem_or_eq_of_mem_set
abbrev ajf:=@List.drop_eq_getElem_cons
abbrev ajg:=@List.length_take
abbrev ajh:=@List.mem_of_mem_take
abbrev aji:=@List.mem_iff_getElem?
abbrev ajj:=@Nat.le_max_right
abbrev ajk:=@List.map_append
abbrev ajl:=@List.getElem?_take
abbrev ajm:=@Nat.eq_zero_or_pos
abbrev ajn:=@List.cons_append
abbrev ajo:=@Nat.add_mul
abbrev ajp:=@List.getElem?_append_right
abbrev ajq:=@List.append_nil
abbrev ajr:=@List.getElem?_modify
abbrev ajs:=@Nat.eq_of_beq_eq_true
abbrev ajt:=@List.take_add_one
abbrev aju:=@List.length_drop
abbrev ajv:=@Nat.le_max_left
abbrev ajw:=@List.getElem?_append_left
abbrev ajx:=@List.nil_append
abbrev ajy:=@Bool.and_true
abbrev ajz:=@List.mem_of_mem_drop
abbrev ajA:=@Nat.mul_le_mul_right
abbrev ajB:=@List.getD_eq_getElem?_getD
abbrev ajC:=@List.mem_singleton
abbrev ajD:=@Bool.and_self
abbrev ajE:=@Int.mul_nonneg
abbrev ajF:=@Nat.zero_add
abbrev ajG:=@Nat.zero_le
abbrev ajH:=@List.map_set
abbrev ajI:=@List.getElem_mem
abbrev ajJ:=@Bool.not_eq_true'
abbrev ajK:=@List.mem_of_find?_eq_some
abbrev ajL:=@List.getElem?_of_mem
abbrev ajM:=@List.findIdx?_eq_some_iff_getElem
abbrev ajN:=@List.getElem?_eq_none
abbrev ajO:=@List.take_succ_cons
abbrev ajP:=@List.take_length
abbrev ajQ:=@List.getElem?_set
abbrev ajR:=@List.append_assoc
abbrev ajS:=@List.ext_getElem?
abbrev ajT:=@List.length_eq_zero_iff
abbrev ajU:=@Array.getElem?_setIfInBounds_ne
abbrev ajV:=@List.length_eraseIdx
abbrev ajW:=@List.pairwise_cons
abbrev ajX:=@Bool.or_eq_true
abbrev ajY:=@Array.getElem?_setIfInBounds
abbrev ajZ:=@Array.toList_inj
abbrev aj0:=@Array.getElem?_eq_none
abbrev aj1:=@Bool.true_and
abbrev aj2:=@List.extract_eq_take_drop
abbrev aj3:=@List.length_replicate
abbrev aj4:=@Ne.symm
abbrev aj5:=@Array.getElem?_append
abbrev aj6:=@List.all_append
abbrev aj7:=@List.range_eq_range'
abbrev aj8:=@List.getElem?_cons_succ
abbrev aj9:=@List.drop_drop
abbrev aka:=@Int.mul_le_mul
abbrev akb:=@Nat.beq_eq
abbrev akc:=@Option.map_eq_map
abbrev akd:=@List.foldl_cons
abbrev ake:=@List.mem_filter
abbrev akf:=@Bool.eq_iff_iff
abbrev akg:=@Array.toList_modify
abbrev akh:=@Nat.mod_eq_of_lt
abbrev aki:=@List.getElem?_drop
abbrev akj:=@List.map_nil
abbrev akk:=@List.eraseIdx_append_of_length_le
abbrev akl:=@Nat.add_zero
abbrev akm:=@Nat.mul_comm
abbrev akn:=@Nat.lt_or_ge
abbrev ako:=@Nat.le_of_ble_eq_true
abbrev akp:=@List.pairwise_iff_getElem
abbrev akq:=@List.take_zero
abbrev akr:=@List.getElem?_set_ne
abbrev aks:=@Array.toList_extract
abbrev akt:=@List.contains_eq_mem
abbrev aku:=@Array.getElem?_replicate
abbrev akv:=@List.find?_some
abbrev akw:=@List.filter_eq_self
abbrev akx:=@List.filter_cons_of_pos
abbrev aky:=@Nat.add_assoc
abbrev akz:=@List.drop_append
abbrev akA:=@Nat.shiftLeft_eq
abbrev akB:=@List.drop_of_length_le
abbrev akC:=@List.cons.injEq
abbrev akD:=@Array.getElem?_toList
abbrev akE:=@List.nodup_cons
abbrev akF:=@List.size_toArray
abbrev akG:=@Int.fdiv_eq_ediv_of_nonneg
abbrev akH:=@Int.tmod_eq_emod_of_nonneg
abbrev akI:=@Array.toList_setIfInBounds
abbrev akJ:=@BitVec.ofInt_natCast
abbrev akK:=@List.reverse_reverse
abbrev akL:=@List.getElem?_append
abbrev akM:=@Array.replicate_succ
abbrev akN:=@Array.replicate_zero
abbrev akO:=@List.pairwise_append
abbrev akP:=@List.findIdx?_eq_none_iff
abbrev akQ:=@Classical.byContradiction
abbrev akR:=@Array.toList_map
abbrev akS:=@Option.getD_some
abbrev akT:=@List.getElem?_range
abbrev akU:=@List.append_toArray
abbrev akV:=@List.drop_succ_cons
abbrev akW:=@List.length_filterMap_le
inductive V where
 | bool (b:Bool)
 | int (k:IntKind) (n:Int)
 | float (bits:Nat)
 | str (s:List UInt8)
 | agg (cs:List V)
 | tuple (vs:List V)
 | nilp| nilfn| nili
 | fn (f:Nat) (caps:List V)
 | bfn (f:Nat) (first:List V)
 | iface (t:Nat) (v:V)
 | nils
 | lit (sz:Nat) (xs:List V)
 | own (sz:Nat) (xs:List V)
 | sl (r g off len:Nat)
 | ptr (r g idx off:Nat)
 | eptr (e:V) (off:Nat)
 | mp (r g:Nat)
 | mlit (es:List V)
 | it (r g:Nat)
 | litk (sz:Nat) (xs:List V)
 | epk (i sz:Nat) (e:V) (off:Nat)
 | msl (sz:Nat) (es:List V) (off len:Nat)
 | mptr (sz:Nat) (es:List V) (idx off:Nat)
 | any
 deriving Inhabited
def dO:V:= .tuple []
structure Obj where
 gen:Nat
 sz:Nat
 arr:Bool
 fz:Bool
 es:Option (List V)
structure eZ where
 val:V
 outs:List (Nat×List V)
inductive aU where
 | tmp (t:Nat)
 | const (v:V)
inductive uC where
 | move (x:aU)
 | pick (c a b:aU)
 | new (r sz:Nat) (x:aU)
 | build (cells:List V) (parts:List (Nat×Nat×aU))
 | buildSlice (r sz:Nat) (zero:V) (n:Nat) (parts:List (Nat×aU))
 | uK (r sz:Nat)
 | ren (r:Nat) (x:aU)
 | load (agg:Bool) (sz:Nat) (x:aU)
 | store (agg:Bool) (sz:Nat) (x v:aU)
 | nilCheck (x:aU)
 | bin (op:BinOp) (x y:aU)
 | eqA (neg:Bool) (ks:List Nat) (x y:aU)
 | un (op:UnOp) (x:aU)
 | uL (k:IntKind) (x:aU)
 | z6 (x:aU)
 | z7 (k:IntKind) (x:aU)
 | z8 (f:Nat) (caps:List aU)
 | slice (sz:Nat) (x:aU) (lo hi mx:Option aU)
 | fieldAddr (off:Nat) (x:aU)
 | indexAddr (sz:Nat) (x i:aU)
 | p8 (n sz:Nat) (x i:aU)
 | qa (x i:aU)
 | len (x:aU)
 | Aa (x:aU)
 | min (xs:List aU)
 | max (xs:List aU)
 | append (r sz lim:Nat) (s x:aU)
 | clear (sz:Nat) (zero:V) (x:aU)
 | extract (x:aU) (i:Nat)
 | call (r:Nat) (bB:Bool) (f:aU) (args:List aU)
 | deep (x:aU)
 | C7 (ks:List Nat) (agg:Bool) (sz:Nat) (x:aU)
 | mkMap (r:Nat)
 | wP (q:Option IntKind) (x k v:aU)
 | Ab (q:Option IntKind) (ok:Bool) (zero:V) (x k:aU)
 | Ql (x:aU)
 | Yf (neg:Bool) (x y:aU)
 | mapIter (r:Nat) (x:aU)
 | uQ (f:Nat) (first:List aU)
 | uR (f:Nat) (caps:List (Bool×aU))
 | rM (ks:List Nat) (x k v:aU)
 | rN (ks:List Nat) (ok:Bool) (zero:V) (x k:aU)
 | uP (i r sz lim:Nat) (s x:aU)
 | uN (ks:List Nat) (zero:V) (x k:aU)
 | Ac (agg:Bool) (sz:Nat) (x v:aU)
 | lu (ks:List Nat) (x k:aU)
 | lz (ks:List Nat) (x k:aU)
 | uO (x s v:aU)
 | bad
structure b9 where
 dst:Option Nat
 op:uC
 guard:Option (Nat×Bool)
 pre:List Nat
inductive aY where
 | skip
 | region (ops:List b9)
 | drawn (ops:List b9)
 | seq (a b:aY)
 | cond (c:aU) (a b:aY)
 | block (id:Nat) (b:aY)
 | loop (b:aY)
 | exit (id:Nat)
 | ret
 | scope (b:aY)
 | bad
 | keys (it nx ne id:Nat) (kT kO:List Nat) (ahead body last:aY)
 | pW (x:aU) (ps:List Nat) (asg body:aY)
inductive uA where
 | tmp (t:Nat)
 | cell (t:Nat) (agg:Bool) (sz:Nat)
structure aQ where
 nparams:Nat
 ntmps:Nat
 cu:List (Option Nat)
 results:List uA
 body:aY
 tag:Option (Nat×Nat):=none
structure Env where
 fn:Nat→Option aQ
 ext:Nat→List V→Option eZ
 hyb:Nat→Option ((Nat→List V→Option eZ)→List V→Option eZ):=fun _=>none
 mono: ∀f h,hyb f=some h→ ∀ (C C':Nat→List V→Option eZ),(∀g vs r,C g vs=some r→C' g vs=some r)→ ∀vs r,h C vs=some r→h C' vs=some r:=by exact fun _ _ h=>nomatch h
 iter:Nat→List V→Option (List (List V)):=fun _ _=>none
 EG:Nat→Option (List V→List V→Option (V×List V)):=fun _=>none
def V.cells:V→List V
 | .agg cs=>cs
 | v=> [v]
def V.isAgg:V→Bool
 | .agg _=>true
 | _=>false
def V.isTuple:V→Bool
 | .tuple _=>true
 | _=>false
def V.aT:V→Bool
 | .agg _| .tuple _| .any| .own .. | .msl .. | .mptr .. =>false
 | _=>true
mutual
def V.aw:V→Bool
 | .bool _| .int .. | .float _| .str _| .nilp| .nilfn| .nili| .nils| .lit .. | .eptr .. | .litk .. | .epk .. | .any=>true
 | .agg cs=>V.al cs
 | .tuple cs=>V.al cs
 | .mlit es=>V.al es
 | .fn _ caps=>V.al caps
 | .bfn _ caps=>V.al caps
 | .iface _ v=>V.aw v
 | .own .. | .sl .. | .ptr .. | .mp .. | .it .. | .msl .. | .mptr .. =>false
def V.al:List V→Bool
 | []=>true
 | c::cs=>V.aw c &&V.al cs
end
mutual
def V.isScalar:V→Bool
 | .bool _| .int .. | .float _| .str _| .nilp| .nilfn| .nili| .nils=>true
 | .agg cs=>V.bn cs
 | .tuple cs=>V.bn cs
 | _=>false
def V.bn:List V→Bool
 | []=>true
 | c::cs=>V.isScalar c &&V.bn cs
end
def part (agg:Bool) (off sz:Nat) (e:V):Option V:=
 match agg,e with
 | true,.agg cs=>if off+sz≤cs.length then some (.agg ((cs.drop off).take sz)) else none
 | true,_=>none
 | false,.agg cs=>cs[off]?
 | false,v=>if v.aT∧off=0 then some v else none
def ln (agg:Bool) (off sz:Nat) (e v:V):Option V:=
 match agg with
 | true=>match e,v with
   | .agg cs,.agg vs=>if vs.length=sz∧off+sz≤cs.length then some (.agg (cs.take off++vs++cs.drop (off+sz))) else none
   | _,_=>none
 | false=>if v.aT∧sz=1 then match e with
    | .agg cs=>if off<cs.length then some (.agg (cs.set off v)) else none
    | e=>if e.aT∧off=0 then some v else none
   else none
def V.dh (v:V):Bool:=v.isAgg || v.aT
def aV (v:V) (sz:Nat):Bool:=v.cells.length==sz &&v.dh
def aG (es:List V) (off len:Nat):List V:=(es.drop off).take len
def overwrite (es:List V) (off:Nat) (ys:List V):List V:=es.take off++ys++es.drop (off+ys.length)
inductive Act where
 | done (v:V)
 | fail
 | nW (t:Nat) (k:V→Act)
 | bR (r:Nat) (k:Obj→Act)
 | bO (r:Nat) (o:Obj) (k:Act)
 | call (f:Nat) (args:List V) (k:eZ→Act)
def ev (x:aU) (k:V→Act):Act:=
 match x with
 | .tmp t=> .nW t k
 | .const v=>k v
def evs:List aU→(List V→Act)→Act
 | [],k=>k []
 | x::xs,k=>ev x fun v=>evs xs fun vs=>k (v::vs)
def PJ:Option aU→(Option V→Act)→Act
 | none,k=>k none
 | some x,k=>ev x fun v=>k (some v)
def eP:Option V→Act
 | some v=> .done v
 | none=> .fail
def jk (c:V) (k:V→Act):Act:=
 match c with
 | .sl r g off len=> .bR r fun o=>match o.es with
   | some es=>if o.gen=g∧o.arr=true∧off+len≤es.length∧V.al (aG es off len)=true then .bO r {o with fz:=true} (k (.lit o.sz (aG es off len))) else .fail
   | none=> .fail
 | .mp r g=> .bR r fun o=>match o.es with
   | some es=>if o.gen=g∧o.sz=0∧V.al es=true∧es.all V.isTuple=true then .bO r {o with fz:=true} (k (.mlit es)) else .fail
   | none=> .fail
 | .own .. | .msl .. | .mptr .. | .any| .it .. => .fail
 | c=>k c
def mf:List V→(List V→Act)→Act
 | [],k=>k []
 | c::cs,k=>jk c fun c'=>mf cs fun cU=>k (c'::cU)
def C6 (v:V) (k:V→Act):Act:=
 if v.aw then k v else
 match v with
 | .agg cs=>mf cs fun cU=>k (.agg cU)
 | v=>jk v k
def nJ (vs:List V) (k:List V→Act):Act:=
 if V.al vs then k vs else go vs k
where
 go:List V→(List V→Act)→Act
 | [],k=>k []
 | c::cs,k=>C6 c fun c'=>go cs fun cU=>k (c'::cU)
def tC (b:Bool) (c:V) (k:V→Act):Act:=
 match b,c with
 | true,.ptr r g 0 off=> .bR r fun o=>match o.es with
   | some [e]=>if o.gen=g∧0 <o.sz∧V.aw e=true then .bO r {o with fz:=true} (k (.eptr e off)) else .fail
   | _=> .fail
 | _,c=>k c
def lq:List (Bool×aU)→(List V→Act)→Act
 | [],k=>k []
 | (b,x)::xs,k=>ev x fun c=>tC b c fun c'=>lq xs fun cs=>k (c'::cs)
def kU (f:V→(V→List Nat→Act)→Act):List V→(List V→List Nat→Act)→Act
 | [],k=>k [] []
 | c::cs,k=>f c fun c' r=>kU f cs fun cU rs=>k (c'::cU) (r++rs)
def rL (f:V→(V→List Nat→Act)→Act) (vs:List V) (k:List V→List Nat→Act):Act:=
 if V.al vs then k vs [] else kU f vs k
def eh:Nat→V→(V→List Nat→Act)→Act
 | 0,v,k=>if v.aw then k v [] else .fail
 | d+1,v,k=>if v.aw then k v [] else
   match v with
   | .agg cs=>kU (eh d) cs fun cU rs=>k (.agg cU) rs
   | .fn f cs=>kU (eh d) cs fun cU rs=>k (.fn f cU) rs
   | .iface t x=>eh d x fun x' rs=>k (.iface t x') rs
   | .sl r g off len=> .bR r fun o=>match o.es with
     | some es=>if o.gen=g∧o.arr=true∧off+len≤es.length then rL (eh d) (aG es off len) fun xs rs=>k (.lit o.sz xs) (r::rs) else .fail
     | none=> .fail
   | .ptr r g idx off=> .bR r fun o=>match o.es with
     | some es=>if o.gen=g then match es[idx]? with
        | some e=>eh d e fun e' rs=>k (.eptr e' off) (r::rs)
        | none=> .fail
       else .fail
     | none=> .fail
   | _=> .fail
def snap (v:V) (k:V→List Nat→Act):Act:=eh 5 v k
structure ed where
 i:Nat
 r:Nat
 fresh:Option Nat
def dB (   r0:Nat):List V→List (Option Nat)→Nat→(List V→List Nat→List ed→Act)→Act
 | [],_,_,k=>k [] [] []
 | v::vs,m::ms,i,k=>
   match m with
   | some sz=>match v with
     | .nils=>if 0 <sz then dB r0 vs ms (i+1) fun asq rs ws=>k (.msl sz [] 0 0::asq) rs (⟨i,r0+i,some sz⟩::ws) else .fail
     | .sl r g off len=> .bR r fun o=>match o.es with
       | some es=>if o.gen=g∧o.fz=false∧o.sz=sz∧off+len≤es.length∧V.al es=true then
          dB r0 vs ms (i+1) fun asq rs ws=>k (.msl sz es off len::asq) rs (⟨i,r,none⟩::ws) else .fail
       | none=> .fail
     | .ptr r g idx off=> .bR r fun o=>match o.es with
       | some es=>if o.gen=g∧o.fz=false∧o.sz=sz∧V.al es=true then
          dB r0 vs ms (i+1) fun asq rs ws=>k (.mptr sz es idx off::asq) rs (⟨i,r,none⟩::ws) else .fail
       | none=> .fail
     | _=> .fail
   | none=>snap v fun v' rs=>dB r0 vs ms (i+1) fun asq rs' ws=>k (v'::asq) (rs++rs') ws
 | v::vs,[],i,k=>snap v fun v' rs=>dB r0 vs [] (i+1) fun asq rs' ws=>k (v'::asq) (rs++rs') ws
def dC:List Nat→Act→Act
 | [],k=>k
 | r::rs,k=> .bR r fun o=> .bO r {o with fz:=true} (dC rs k)
def eF:List ed→List (Nat×List V)→(List (Nat×Nat×Nat)→Act)→Act
 | [],[],k=>k []
 | w::ws,(bump,es)::outs,k=> .bR w.r fun o=>match w.fresh with
   | none=> .bO w.r {o with gen:=o.gen+bump,es:=some es} (eF ws outs fun gs=>k ((w.i,w.r,o.gen+bump)::gs))
   | some sz=> .bO w.r {gen:=o.gen+1,sz,arr:=true,fz:=false,es:=some es} (eF ws outs fun gs=>k ((w.i,w.r,o.gen+1)::gs))
 | _,_,_=> .fail
def oU (i:Nat):List (Nat×Nat×Nat)→Option (Nat×Nat)
 | []=>none
 | (j,r,g)::gs=>if j=i then some (r,g) else oU i gs
def dJ (bB:Bool) (r:Nat) (gs:List (Nat×Nat×Nat)) (c:V) (k:V→Act):Act:=
 match c with
 | .own sz xs=>if bB then .bR r fun o=> .bO r {gen:=o.gen+1,sz,arr:=true,fz:=false,es:=some xs} (k (.sl r (o.gen+1) 0 xs.length)) else k (.lit sz xs)
 | .sl i _ off len=>match oU i gs with
   | some (r',g')=>k (.sl r' g' off len)
   | none=> .fail
 | c=>if c.aw then k c else .fail
def fo (bB:Bool):Nat→List (Nat×Nat×Nat)→List V→(List V→Act)→Act
 | _,_,[],k=>k []
 | r,gs,c::cs,k=>dJ bB r gs c fun c'=>fo bB (r+1) gs cs fun cU=>k (c'::cU)
def kc (bB:Bool) (r:Nat) (gs:List (Nat×Nat×Nat)) (v:V) (k:V→Act):Act:=
 if v.aw then k v else
 match v with
 | .agg cs=>fo bB r gs cs fun cU=>k (.agg cU)
 | v=>dJ bB r gs v k
def kx (bB:Bool):Nat→List (Nat×Nat×Nat)→List V→(List V→Act)→Act
 | _,_,[],k=>k []
 | r,gs,v::vs,k=>kc bB r gs v fun v'=>kx bB (r+8) gs vs fun vs'=>k (v'::vs')
def dE (bB:Bool) (r:Nat) (gs:List (Nat×Nat×Nat)) (v:V) (k:V→Act):Act:=
 if v.aw then k v else
 match v with
 | .tuple vs=>kx bB r gs vs fun vs'=>k (.tuple vs')
 | v=>kc bB r gs v k
def apart (rs ws:List Nat):Bool:=ws.all fun w=> !rs.contains w
def distinct:List Nat→Bool
 | []=>true
 | w::ws=> !ws.contains w &&distinct ws
def tD (r:Nat) (bB:Bool):V→Bool
 | .own _ xs=>Nat.beq (r % 2) 1 && (!bB &&V.bn xs)
 | _=>false
def jm (E:Env) (r:Nat) (bB:Bool) (f:Nat) (args:List V):Act:=
 let cu:=match E.fn f with| some af=>af.cu| none=> []
 dB (r+8) args cu 0 fun asq rs ws=>
  if apart rs (ws.map (·.r)) &&distinct (ws.map (·.r)) then
   .call f asq fun res=>
    let go:=eF ws res.outs fun gs=>dE bB r gs res.val .done
    if (res.val.isScalar || tD r bB res.val) &&res.outs.all (fun o=>V.bn o.2) then go else dC rs go
  else .fail
def JH (op:BinOp) (a b:Int):Option V:=
 match op with
 | .eql=>some (.bool (a==b))
 | .neq=>some (.bool (a !=b))
 | .lss=>some (.bool (a<b))
 | .leq=>some (.bool (a≤b))
 | .gtr=>some (.bool (b<a))
 | .geq=>some (.bool (b≤a))
 | _=>none
def mW (op:BinOp) (k:IntKind) (x y:Int):Option V:=
 let a:=BitVec.ofInt k.bits x
 let b:=BitVec.ofInt k.bits y
 let back (r:BitVec k.bits):Option V:=some (.int k (k.wrap r.toNat))
 match op with
 | .and=>back (a &&&b)
 | .or=>back (a ||| b)
 | .xor=>back (a ^^^ b)
 | .andNot=>back (a &&& ~~~b)
 | _=>none
def Jj (k:Nat) (a b:V):Option Bool:=
 match k,a,b with
 | 0,.bool a,.bool b=>some (a==b)
 | 1,.int k a,.int k' b=>if k=k' then some (a==b) else none
 | 2,.str a,.str b=>some (decide (a=b))
 | _,_,_=>none
def cX:List Nat→List V→List V→Option Bool
 | [],[],[]=>some true
 | k::ks,a::asq,b::bs=>match Jj k a b,cX ks asq bs with
   | some x,some y=>some (x &&y)
   | _,_=>none
 | _,_,_=>none
def LY:V→V→Option Bool
 | .nilp,.nilp=>some true
 | .nilp,.eptr .. | .nilp,.epk .. | .eptr ..,.nilp| .epk ..,.nilp=>some false
 | .epk i z _ 0,.epk i' z' _ 0=>if z=z'∧0 <z then some (i==i') else none
 | _,_=>none
def tE (op:BinOp) (x y:V):Option V:=
 match x,y with
 | .int k a,.int k' b=>
   match op with
   | .shl=>if b< 0 then none else some (.int k (k.wrap (a*2 ^ (min b.toNat k.bits))))
   | .shr=>if b< 0 then none else some (.int k (a.fdiv (2 ^ (min b.toNat k.bits))))
   | op=>
     if k=k' then
      match op with
      | .add=>some (.int k (k.wrap (a+b)))
      | .sub=>some (.int k (k.wrap (a - b)))
      | .mul=>some (.int k (k.wrap (a*b)))
      | .quo=>if b=0 then none else some (.int k (k.wrap (a.tdiv b)))
      | .rem=>if b=0 then none else some (.int k (a.tmod b))
      | .and| .or| .xor| .andNot=>mW op k a b
      | op=>JH op a b
     else none
 | .str a,.str b=>
   match op with
   | .add=>if a.length+b.length≤9223372036854775807 then some (.str (a++b)) else none
   | .eql=>some (.bool (decide (a=b)))
   | .neq=>some (.bool (!decide (a=b)))
   | .lss=>some (.bool (Op.bytesLess a b))
   | .leq=>some (.bool (Op.bytesLess a b || decide (a=b)))
   | .gtr=>some (.bool (!(Op.bytesLess a b || decide (a=b))))
   | .geq=>some (.bool (!Op.bytesLess a b))
   | _=>none
 | _,_=>none
def unV (op:UnOp) (x:V):Option V:=
 match op,x with
 | .neg,.int k n=>some (.int k (k.wrap (0 - n)))
 | .not,.bool b=>some (.bool (!b))
 | .xor,.int k n=>mW .xor k (if k.signed then -1 else k.max) n
 | _,_=>none
def min2 (x y:V):Option V:=
 match x,y with
 | .int k a,.int k' b=>if k=k' then some (.int k (if b<a then b else a)) else none
 | _,_=>none
def max2 (x y:V):Option V:=
 match x,y with
 | .int k a,.int k' b=>if k=k' then some (.int k (if a<b then b else a)) else none
 | _,_=>none
def qe (f:V→V→Option V) (x:V):List V→Option V
 | []=>some x
 | y::ys=>match f x y with
   | some z=>qe f z ys
   | none=>none
def pK (f:V→V→Option V):List V→Option V
 | []=>none
 | x::xs=>qe f x xs
def UR:V→Option V
 | .nils=>some (.int .i64 0)
 | .lit _ xs=>some (.int .i64 xs.length)
 | .litk _ xs=>some (.int .i64 xs.length)
 | .sl _ _ _ len=>some (.int .i64 len)
 | _=>none
def cQ (d:Nat):Option V→Option Nat
 | none=>some d
 | some (.int _ n)=>if 0≤n then some n.toNat else none
 | some _=>none
def zL (sz:Nat) (x:V) (lo hi mx:Option V):Option V:=
 match x with
 | .nils=>match cQ 0 lo,cQ 0 hi,cQ 0 mx with
   | some l,some h,some m=>if l≤h∧h≤m∧m≤0∧(hi.isSome=true∨mx.isNone=true) then some .nils else none
   | _,_,_=>none
 | .lit sz' xs=>if sz'=sz then match cQ 0 lo,cQ xs.length hi,mx with
    | some l,some h,none=>if l≤h∧h≤xs.length then some (.lit sz (aG xs l (h - l))) else none
    | some l,some h,some m=>match hi,cQ 0 (some m) with
      | some _,some m=>if l≤h∧h≤m∧m≤xs.length then some (if m=l then .nils else .any) else none
      | _,_=>none
    | _,_,_=>none
   else none
 | _=>none
def jP:List V→List (Nat×Nat×V)→Option (List V)
 | cs,[]=>some cs
 | cs,(off,sz,v)::rest=>if v.cells.length=sz∧off+sz≤cs.length∧v.dh=true then jP (cs.take off++v.cells++cs.drop (off+sz)) rest else none
def mV:List (Nat×Nat×aU)→(List (Nat×Nat×V)→Act)→Act
 | [],k=>k []
 | (o,s,x)::ps,k=>ev x fun v=>mV ps fun vs=>k ((o,s,v)::vs)
def ke:List (Nat×aU)→(List (Nat×V)→Act)→Act
 | [],k=>k []
 | (i,x)::ps,k=>ev x fun v=>C6 v fun v=>ke ps fun vs=>k ((i,v)::vs)
def ee (sz:Nat):List V→List (Nat×V)→Option (List V)
 | es,[]=>some es
 | es,(i,v)::rest=>if i<es.length∧aV v sz=true then ee sz (es.set i v) rest else none
def content (sz:Nat) (x:V) (k:List V→Act):Act:=
 match x with
 | .nils=>k []
 | .lit sz' xs=>if sz'=sz then k xs else .fail
 | .sl r g off len=> .bR r fun o=>match o.es with
   | some es=>if o.gen=g∧o.sz=sz∧off+len≤es.length then k (aG es off len) else .fail
   | none=> .fail
 | .str s=>if sz=1 then k (s.map fun b=> .int .u8 b.toNat) else .fail
 | _=> .fail
def GH (r sz lim:Nat) (s:V) (ys:List V):Act:=
 if ys.all (aV · sz) &&decide (0 <sz) then match s with
 | .nils=>if ys.isEmpty then .done .nils else if ys.length≤lim then
     .bR r fun o=> .bO r {gen:=o.gen+1,sz,arr:=true,fz:=false,es:=some ys} (.done (.sl r (o.gen+1) 0 ys.length)) else .fail
 | .lit sz' xs=>if ys.isEmpty then .done (.lit sz' xs) else .fail
 | .sl r' g off len=> .bR r' fun o=>match o.es with
   | some es=>if o.gen=g∧o.arr=true∧o.fz=false∧o.sz=sz∧off+len≤es.length∧len+ys.length≤lim then
         if off+len+ys.length≤es.length then
          .bO r' {o with es:=some (overwrite es (off+len) ys)} (.done (.sl r' g off (len+ys.length)))
         else
          .bO r' {o with gen:=g+1,es:=some (aG es off len++ys)} (.done (.sl r' (g+1) 0 (len+ys.length)))
     else .fail
   | none=> .fail
 | _=> .fail
 else .fail
def EN:List Nat→List V→List V
 | k::ks,c::cs=> (match k,c with
   | (k+1),.nils=> .lit (k+1) []
   | _,c=>c)::EN ks cs
 | _,cs=>cs
def Ji (ks:List Nat) (v:V):V:=match v with
 | .agg cs=> .agg (EN ks cs)
 | .nils=> (match ks with
   | (k+1)::_=> .lit (k+1) []
   | _=> .nils)
 | v=>v
def uM (v:V):Act:=match v with
 | .sl r g off len=> .bR r fun o=>match o.es with
   | some es=>if o.gen=g then nJ es fun es'=> .bR r fun o'=>if o'.gen=o.gen∧o'.es.isSome=true∧es'.all (aV · o.sz)=true then .bO r {o' with es:=some es'} (.done (.sl r g off len)) else .fail else .fail
   | none=> .fail
 | v=> .done v
def ya:V→V→Option Bool
 | .int k a,.int k' b=>if k=k' then some (a==b) else none
 | .str a,.str b=>some (decide (a=b))
 | _,_=>none
def cp (k:V):List V→Option (Option V)
 | []=>some none
 | .tuple [k',v]::es=>match ya k k' with
   | some true=>some (some v)
   | some false=>cp k es
   | none=>none
 | _::_=>none
def jn (k v:V):List V→Option (List V)
 | []=>some [.tuple [k,v]]
 | .tuple [k',v']::es=>match ya k k' with
   | some true=>some (.tuple [k,v]::es)
   | some false=> (jn k v es).map (.tuple [k',v']:: ·)
   | none=>none
 | _::_=>none
def isKey (q:Option IntKind) (k:V):Bool:=match q,k with
 | some q,.int k _=>decide (k=q)
 | none,.str _=>true
 | _,_=>false
def cW (ok:Bool) (zero:V) (es:List V) (k:V):Act:=
 match cp k es with
 | some (some v)=> .done (if ok then .tuple [v,.bool true] else v)
 | some none=> .done (if ok then .tuple [zero,.bool false] else zero)
 | none=> .fail
def EL:List V→Option (Nat×Nat)
 | [.agg [.mp r g]]=>some (r,g)
 | _=>none
def L1 (h:List V→List V→Option (V×List V)) (r g:Nat) (asq:List V):Act:= .bR r fun o=>match o.es with
 | some es=>if o.gen=g∧o.sz=0∧o.fz=false∧V.bn asq=true∧es.all V.isTuple=true then(match h es asq with
    | some (v,es')=> .bO r {o with es:=some es'} (.done v)
    | none=> .fail) else .fail
 | none=> .fail
def du (ks:List Nat):V→V→Option Bool
 | .agg a,.agg b=>cX ks a b
 | _,_=>none
def cM (ks:List Nat) (k:V):List V→Option (Option V)
 | []=>some none
 | .tuple [k',v]::es=>match du ks k k' with
   | some true=>some (some v)
   | some false=>cM ks k es
   | none=>none
 | _::_=>none
def dP (ks:List Nat) (k v:V):List V→Option (List V)
 | []=>some [.tuple [k,v]]
 | .tuple [k',v']::es=>match du ks k k' with
   | some true=>some (.tuple [k,v]::es)
   | some false=> (dP ks k v es).map (.tuple [k',v']:: ·)
   | none=>none
 | _::_=>none
def dM (ks:List Nat) (ok:Bool) (zero:V) (es:List V) (k:V):Act:=
 match cM ks k es with
 | some (some v)=> .done (if ok then .tuple [v,.bool true] else v)
 | some none=> .done (if ok then .tuple [zero,.bool false] else zero)
 | none=> .fail
def eo (ks:List Nat) (k:V):Nat→List V→Option (Option (Nat×V))
 | _,[]=>some none
 | i,.tuple [k',v]::es=>match du ks k k' with
   | some true=>some (some (i,v))
   | some false=>eo ks k (i+1) es
   | none=>none
 | _,_::_=>none
def jq:List Nat→List V→Bool
 | [],[]=>true
 | 0::ks,.bool _::cs=>jq ks cs
 | 1::ks,.int .i64 _::cs=>jq ks cs
 | 2::ks,.str _::cs=>jq ks cs
 | _,_=>false
def Cv (ks:List Nat):V→Bool
 | .agg cs=>jq ks cs
 | _=>false
def GB (ks:List Nat):V→Bool
 | .tuple [k,.int .i64 _]=>Cv ks k
 | _=>false
def eG (ks:List Nat) (k:V):List V→V
 | []=> .int .i64 0
 | .tuple [k',v]::es=>match du ks k k' with
   | some true=>v
   | _=>eG ks k es
 | _::es=>eG ks k es
def kV (ks:List Nat) (o:Obj):Nat×Nat×Option (Bool× (V→V)):=(o.gen,o.sz,o.es.map fun es=> (es.all (GB ks),fun k=>eG ks k es))
def JI (ks:List Nat) (g:Nat) (k:V):Nat×Nat×Option (Bool× (V→V))→Act
 | (gen,sz,some (true,f))=>if gen=g∧sz=0∧Cv ks k=true then .done (f k) else .fail
 | _=> .fail
def aM ( E:Env):uC→Act
 | .move x=>ev x .done
 | .pick c a b=>ev c fun| .bool true=>ev a .done| .bool false=>ev b .done| _=> .fail
 | .new r sz x=>ev x fun v=>if aV v sz &&decide (0 <sz) then .bR r fun o=> .bO r {gen:=o.gen+1,sz,arr:=false,fz:=false,es:=some [v]} (.done (.ptr r (o.gen+1) 0 0)) else .fail
 | .build cells parts=>mV parts fun ps=>match jP cells ps with
   | some cs=> .done (.agg cs)
   | none=> .fail
 | .buildSlice r sz zero n parts=>ke parts fun ps=>match ee sz (List.replicate n zero) ps with
   | some es=>if aV zero sz &&decide (0 <sz∧n*sz≤16777216) then .bR r fun o=> .bO r {gen:=o.gen+1,sz,arr:=true,fz:=false,es:=some es} (.done (.sl r (o.gen+1) 0 n)) else .fail
   | none=> .fail
 | .uK r sz=>if 0 <sz then .bR r fun o=> .bO r {gen:=o.gen+1,sz,arr:=true,fz:=false,es:=some []} (.done (.sl r (o.gen+1) 0 0)) else .fail
 | .ren r x=>ev x fun
   | .sl r1 g off len=>if r1=r then .done (.sl r1 g off len) else .bR r1 fun o=>if o.gen=g then
       .bR r fun o'=> .bO r ⟨o'.gen+1,o.sz,o.arr,o.fz,o.es⟩ (.bO r1 ⟨o.gen+1,o.sz,o.arr,o.fz,none⟩ (.done (.sl r (o'.gen+1) off len))) else .fail
   | v=> .done v
 | .load agg sz x=>ev x fun
   | .ptr r g idx off=> .bR r fun o=>match o.es with
     | some es=>if o.gen=g then match es[idx]? with
        | some e=>eP (part agg off sz e)
        | none=> .fail
       else .fail
     | none=> .fail
   | .eptr e off=>eP (part agg off sz e)
   | .epk _ _ e off=>eP (part agg off sz e)
   | _=> .fail
 | .store agg sz x v=>ev x fun
   | .ptr r g idx off=> .bR r fun o=>if o.arr
     then ev v fun v=>C6 v fun v=>mi agg sz r g idx off v
     else ev v fun v=>mi agg sz r g idx off v
   | _=> .fail
 | .nilCheck x=>ev x fun
   | .ptr r g idx off=> .done (.ptr r g idx off)
   | .eptr e off=> .done (.eptr e off)
   | .epk i z e off=> .done (.epk i z e off)
   | .fn f caps=> .done (.fn f caps)
   | .bfn f caps=> .done (.bfn f caps)
   | _=> .fail
 | .bin op x y=>ev x fun a=>ev y fun b=>eP (tE op a b)
 | .eqA neg ks x y=>ev x fun a=>ev y fun b=>match a,b with
   | .agg asq,.agg bs=>match cX ks asq bs with
       | some b=> .done (.bool (b !=neg))
       | none=> .fail
   | _,_=> .fail
 | .un op x=>ev x fun a=>eP (unV op a)
 | .uL k x=>ev x fun| .int _ n=> .done (.int k (k.wrap n)) | _=> .fail
 | .z6 x=>ev x fun| .int _ n=> .done (.float (FloatKind.f64.nearest n)) | _=> .fail
 | .z7 k x=>ev x fun
   | .float b=>match (FloatKind.f64.decode b).toInt .zero with
     | some n=>if k.min≤n∧n≤k.max then .done (.int k n) else .fail
     | none=> .fail
   | _=> .fail
 | .z8 f caps=>evs caps fun vs=> .done (.fn f vs)
 | .slice sz x lo hi mx=>ev x fun v=>PJ lo fun l=>PJ hi fun h=>PJ mx fun m=>match v with
   | .sl r g off len=> .bR r fun o=>match o.es with
     | some es=>if o.gen=g∧o.sz=sz then
        match cQ 0 l,cQ len h,m with
        | some l,some h,none=>if l≤h∧off+h≤es.length then .done (.sl r g (off+l) (h - l)) else .fail
        | some l,some h',some m=>match h,cQ 0 (some m) with
          | some _,some m=>if l≤h'∧h'≤m∧off+m≤es.length then .done (if m=l then .nils else .any) else .fail
          | _,_=> .fail
        | _,_,_=> .fail
       else .fail
     | none=> .fail
   | v=>eP (zL sz v l h m)
 | .fieldAddr off x=>ev x fun
   | .ptr r g idx o=> .done (.ptr r g idx (o+off))
   | .eptr e o=> .done (.eptr e (o+off))
   | .epk i z e o=> .done (.epk i z e (o+off))
   | _=> .fail
 | .indexAddr sz x i=>ev x fun v=>ev i fun i=>match v,i with
   | .sl r g off len,.int _ n=> .bR r fun o=>if 0≤n∧n<len∧o.sz=sz∧o.gen=g then .done (.ptr r g (off+n.toNat) 0) else .fail
   | .lit sz' xs,.int _ n=>if 0≤n∧sz'=sz then match xs[n.toNat]? with
       | some e=> .done (.eptr e 0)
       | none=> .fail
     else .fail
   | .litk sz' xs,.int _ n=>if 0≤n∧sz'=sz∧0 <sz then match xs[n.toNat]? with
       | some e=> .done (.epk n.toNat sz e 0)
       | none=> .fail
     else .fail
   | _,_=> .fail
 | .p8 n sz x i=>ev x fun v=>ev i fun i=>match v,i with
   | .ptr r g idx off,.int _ j=>if 0≤j∧j<n then .done (.ptr r g idx (off+j.toNat*sz)) else .fail
   | .eptr e off,.int _ j=>if 0≤j∧j<n then .done (.eptr e (off+j.toNat*sz)) else .fail
   | _,_=> .fail
 | .qa x i=>ev x fun v=>ev i fun i=>match v,i with
   | .str s,.int _ n=>if 0≤n then match s[n.toNat]? with
       | some b=> .done (.int .u8 b.toNat)
       | none=> .fail
     else .fail
   | _,_=> .fail
 | .len x=>ev x fun v=>eP (UR v)
 | .Aa x=>ev x fun| .str s=> .done (.int .i64 s.length) | _=> .fail
 | .min xs=>evs xs fun vs=>eP (pK min2 vs)
 | .max xs=>evs xs fun vs=>eP (pK max2 vs)
 | .append r sz lim s x=>ev s fun s=>ev x fun x=>content sz x fun ys=>nJ ys fun ys=>
   if ys.all (aV · sz) &&decide (0 <sz) then match s with
   | .nils=>if ys.isEmpty then .done .nils else if ys.length≤lim then
       .bR r fun o=> .bO r {gen:=o.gen+1,sz,arr:=true,fz:=false,es:=some ys} (.done (.sl r (o.gen+1) 0 ys.length)) else .fail
   | .lit sz' xs=>if ys.isEmpty then .done (.lit sz' xs) else .fail
   | .sl r' g off len=> .bR r' fun o=>match o.es with
     | some es=>if o.gen=g∧o.arr=true∧o.fz=false∧o.sz=sz∧off+len≤es.length∧len+ys.length≤lim then
          if off+len+ys.length≤es.length then
           .bO r' {o with es:=some (overwrite es (off+len) ys)} (.done (.sl r' g off (len+ys.length)))
          else
           .bO r' {o with gen:=g+1,es:=some (aG es off len++ys)} (.done (.sl r' (g+1) 0 (len+ys.length)))
       else .fail
     | none=> .fail
   | _=> .fail
   else .fail
 | .clear sz zero x=>ev x fun
   | .nils=> .done (.tuple [])
   | .sl r g off len=> .bR r fun o=>match o.es with
     | some es=>if o.gen=g∧o.arr=true∧o.fz=false∧o.sz=sz∧off+len≤es.length∧aV zero sz then
        .bO r {o with es:=some (overwrite es off (List.replicate len zero))} (.done (.tuple [])) else .fail
     | none=> .fail
   | _=> .fail
 | .extract x i=>ev x fun
   | .tuple vs=>eP vs[i]?
   | _=> .fail
 | .call r bB f args=>ev f fun
   | .fn f caps=>evs args fun asq=>jm E r bB f (asq++caps)
   | .bfn f first=>evs args fun asq=>match EL first,E.EG f with
     | some (r',g),some h=>L1 h r' g asq
     | _,_=>jm E r bB f (first++asq)
   | _=> .fail
 | .deep x=>ev x uM
 | .C7 ks agg sz x=>ev x fun
   | .ptr r g idx off=> .bR r fun o=>match o.es with
     | some es=>if o.gen=g then match es[idx]? with
        | some e=>eP ((part agg off sz e).map (Ji ks))
        | none=> .fail
       else .fail
     | none=> .fail
   | .eptr e off=>eP ((part agg off sz e).map (Ji ks))
   | .epk _ _ e off=>eP ((part agg off sz e).map (Ji ks))
   | _=> .fail
 | .mkMap r=> .bR r fun o=> .bO r {gen:=o.gen+1,sz:=0,arr:=false,fz:=false,es:=some []} (.done (.mp r (o.gen+1)))
 | .wP q x k v=>ev x fun
   | .mp r g=>ev k fun k=>ev v fun v=>C6 v fun v=> .bR r fun o=>match o.es with
     | some es=>if o.gen=g∧o.sz=0∧o.fz=false∧isKey q k=true∧v.dh=true then(match jn k v es with
        | some es'=> .bO r {o with es:=some es'} (.done (.tuple []))
        | none=> .fail) else .fail
     | none=> .fail
   | _=> .fail
 | .rM ks x k v=>ev x fun
   | .mp r g=>ev k fun k=>ev v fun v=>C6 v fun v=> .bR r fun o=>match o.es with
     | some es=>if o.gen=g∧o.sz=0∧o.fz=false∧(du ks k k).isSome=true∧v.dh=true then(match dP ks k v es with
        | some es'=> .bO r {o with es:=some es'} (.done (.tuple []))
        | none=> .fail) else .fail
     | none=> .fail
   | _=> .fail
 | .rN ks ok zero x k=>ev x fun x=>ev k fun k=>if (du ks k k).isSome then(match x with
   | .mp r g=> .bR r fun o=>match o.es with
     | some es=>if o.gen=g∧o.sz=0 then dM ks ok zero es k else .fail
     | none=> .fail
   | .mlit es=>dM ks ok zero es k
   | _=> .fail) else .fail
 | .lu ks x k=>ev x fun
   | .mp r g=>ev k fun k=> .bR r fun o=>JI ks g k (kV ks o)
   | _=> .fail
 | .lz ks x k=>ev x fun
   | .mp r g=>ev k fun k=> .bR r fun o=>match o.es with
     | some es=>if o.gen=g∧o.sz=0∧o.fz=false∧Cv ks k=true∧es.all (GB ks)=true then(match eo ks k 0 es with
        | some (some (j,v))=> .bO r {o with es:=some es} (.done (.tuple [v,.int .i64 j]))
        | some none=> .bO r {o with es:=some (es++[.tuple [k,.int .i64 0]])} (.done (.tuple [.int .i64 0,.int .i64 es.length]))
        | none=> .fail) else .fail
     | none=> .fail
   | _=> .fail
 | .Ac agg sz x v=>ev x fun
   | .ptr r g idx off=>ev v fun v=>mi agg sz r g idx off v
   | _=> .fail
 | .uN ks zero x k=>ev x fun
   | .mp r g=>ev k fun k=> .bR r fun o=>match o.es with
     | some es=>if o.gen=g∧o.sz=0∧o.fz=false∧(du ks k k).isSome=true∧zero.dh=true then(match eo ks k 0 es with
        | some (some (j,v))=> .bO r {o with es:=some es} (.done (.tuple [v,.int .i64 j]))
        | some none=> .bO r {o with es:=some (es++[.tuple [k,zero]])} (.done (.tuple [zero,.int .i64 es.length]))
        | none=> .fail) else .fail
     | none=> .fail
   | _=> .fail
 | .uO x s v=>ev x fun
   | .mp r g=>ev s fun
     | .int .i64 j=>ev v fun v=>C6 v fun v=> .bR r fun o=>match o.es with
       | some es=>if o.gen=g∧o.sz=0∧o.fz=false∧v.dh=true∧0≤j then(match es[j.toNat]? with
          | some (.tuple [k',_])=> .bO r {o with es:=some (es.set j.toNat (.tuple [k',v]))} (.done (.tuple []))
          | _=> .fail) else .fail
       | none=> .fail
     | _=> .fail
   | _=> .fail
 | .uP i r sz lim s x=>ev (.tmp i) fun| .int _ j=> (ev s fun s=>ev x fun x=>content sz x fun ys=>nJ ys fun ys=>GH (r+16*j.toNat) sz lim s ys) | _=> .fail
 | .Ab q ok zero x k=>ev x fun x=>ev k fun k=>if isKey q k then(match x with
   | .mp r g=> .bR r fun o=>match o.es with
     | some es=>if o.gen=g∧o.sz=0 then cW ok zero es k else .fail
     | none=> .fail
   | .mlit es=>cW ok zero es k
   | _=> .fail) else .fail
 | .Ql x=>ev x fun v=> (match v with
   | .fn .. =>snap v fun v' rs=>dC rs (.done v')
   | _=>C6 v .done)
 | .Yf neg x y=>ev x fun a=>ev y fun b=>eP ((LY a b).map fun c=> .bool (c !=neg))
 | .mapIter r x=>ev x fun
   | .mlit es=> .bR r fun o=> .bO r {gen:=o.gen+1,sz:=0,arr:=false,fz:=false,es:=some [.mlit es]} (.done (.it r (o.gen+1)))
   | _=> .fail
 | .uQ f xs=>evs xs fun vs=> .done (.bfn f vs)
 | .uR f caps=>lq caps fun vs=> .done (.fn f vs)
 | .bad=> .fail
where
 mi ( agg:Bool) (sz r g idx off:Nat) (v:V):Act:=
  .bR r fun o=>match o.es with
   | some es=>if o.gen=g∧o.fz=false then match es[idx]? with
       | some e=>match ln agg off sz e v with
         | some e'=> .bO r {o with es:=some (es.set idx e')} (.done (.tuple []))
         | none=> .fail
       | none=> .fail
     else .fail
   | none=> .fail
def cP (E:Env) (o:b9):Act:=
 match o.guard with
 | none=>aM E o.op
 | some (t,want)=> .nW t fun
   | .bool b=>if b=want then aM E o.op else .done dO
   | .tuple []=> .done dO
   | _=> .fail
structure St where
 T:Nat→V
 O:Nat→Obj
def da {α:Type} (f:Nat→α) (t:Nat) (v:α):Nat→α:=fun n=>if n=t then v else f n
abbrev bo:=Nat→List V→Option eZ
def Act.run (C:bo):Act→St→Option (V×St)
 | .done v,σ=>some (v,σ)
 | .fail,_=>none
 | .nW t k,σ=> (k (σ.T t)).run C σ
 | .bR r k,σ=> (k (σ.O r)).run C σ
 | .bO r o k,σ=>k.run C {σ with O:=da σ.O r o}
 | .call f asq k,σ=>match C f asq with
   | some res=> (k res).run C σ
   | none=>none
def St.put (σ:St) (dst:Option Nat) (v:V):St:=
 match dst with
 | some d=> {σ with T:=da σ.T d v}
 | none=>σ
def dV (E:Env) (C:bo) (o:b9) (σ:St):Option St:=
 match (cP E o).run C σ with
 | some (v,σ')=>some (σ'.put o.dst v)
 | none=>none
def iN (E:Env) (C:bo):List b9→St→Option St
 | [],σ=>some σ
 | o::os,σ=>match dV E C o σ with
   | some σ'=>iN E C os σ'
   | none=>none
inductive Loc where
 | t (n:Nat)
 | o (n:Nat)
 | m (n:Nat) (ks:List Nat)
 | e (n:Nat) (ks:List Nat)
 deriving DecidableEq
def Loc.wU:Loc→Loc→Bool
 | .t a,.t b=>Nat.beq a b
 | .o a,.o b=>Nat.beq a b
 | .o a,.m b _=>Nat.beq a b
 | .m a _,.o b=>Nat.beq a b
 | .o a,.e b _=>Nat.beq a b
 | .e a _,.o b=>Nat.beq a b
 | .e a _,.e b _=>Nat.beq a b
 | .e a ks,.m b wG=>Nat.beq a b && !decide (ks=wG)
 | .m a ks,.e b wG=>Nat.beq a b && !decide (ks=wG)
 | _,_=>false
structure eL where
 reads:List Loc
 writes:List Loc
def Act.cV (C:bo):Act→St→eL
 | .done _,_=> ⟨[],[]⟩
 | .fail,_=> ⟨[],[]⟩
 | .nW t k,σ=>let f:=(k (σ.T t)).cV C σ; ⟨.t t::f.reads,f.writes⟩
 | .bR r k,σ=>let f:=(k (σ.O r)).cV C σ; ⟨.o r::f.reads,f.writes⟩
 | .bO r o k,σ=>let f:=k.cV C {σ with O:=da σ.O r o}; ⟨f.reads,.o r::f.writes⟩
 | .call f asq k,σ=>match C f asq with
   | some res=> (k res).cV C σ
   | none=> ⟨[],[]⟩
def asM (ks:List Nat):Loc→Loc
 | .o n=> .m n ks
 | l=>l
def asE (ks:List Nat):Loc→Loc
 | .o n=> .e n ks
 | l=>l
def fa (o:uC) (f:eL):eL:=match o with
 | .lu ks _ _=> ⟨f.reads.map (asM ks),f.writes⟩
 | .lz ks _ _=> ⟨f.reads,f.writes.map (asE ks)⟩
 | _=>f
def db (E:Env) (C:bo) (o:b9) (σ:St):eL:=
 let f:=(cP E o).cV C σ
 fa o.op ⟨f.reads,(match o.dst with| some d=> [.t d] | none=> [])++f.writes⟩
def meets (a b:List Loc):Bool:=a.any fun x=>b.any x.wU
def eL.uV (a b:eL):Bool:=meets a.writes b.writes || meets a.writes b.reads || meets a.reads b.writes
def ddI (x:Nat) (l:List Nat):List Nat:=if l.contains x then l else x::l
def closure (before:List (List Nat)) (pre:List Nat):List Nat:=(pre++pre.flatMap fun i=>before.getD i []).foldr ddI []
def fits (ck:List eL) (wait:List Nat) (f:eL):Nat→Bool
 | 0=>true
 | i+1=> (wait.contains i || !(ck.getD i ⟨[],[]⟩).uV f) &&fits ck wait f i
def eE (E:Env) (C:bo):List b9→List eL→List (List Nat)→St→Option St
 | [],_,_,σ=>some σ
 | o::os,ck,before,σ=>
   let f:=db E C o σ
   let wait:=closure before o.pre
   if fits ck wait f ck.length &&o.pre.all (· <ck.length) then
    match dV E C o σ with
    | some σ'=>eE E C os (ck++[f]) (before++[wait]) σ'
    | none=>none
   else none
inductive aR where
 | normal
 | exit (id:Nat)
 | ret
def bu (σ:St):aU→V
 | .tmp t=>σ.T t
 | .const v=>v
mutual
def V.beq:V→V→Bool
 | .bool a,.bool b=>a==b
 | .int k n,.int k' n'=>decide (k=k') &&decide (n=n')
 | .float a,.float b=>Nat.beq a b
 | .str a,.str b=>decide (a=b)
 | .agg a,.agg b=>V.pR a b
 | .tuple a,.tuple b=>V.pR a b
 | .nilp,.nilp=>true
 | .nilfn,.nilfn=>true
 | .nili,.nili=>true
 | .fn f a,.fn g b=>Nat.beq f g &&V.pR a b
 | .bfn f a,.bfn g b=>Nat.beq f g &&V.pR a b
 | .iface t a,.iface t' b=>Nat.beq t t' &&V.beq a b
 | .nils,.nils=>true
 | .lit s a,.lit s' b=>Nat.beq s s' &&V.pR a b
 | .own s a,.own s' b=>Nat.beq s s' &&V.pR a b
 | .sl a b c d,.sl a' b' c' d'=>Nat.beq a a' && (Nat.beq b b' && (Nat.beq c c' &&Nat.beq d d'))
 | .ptr a b c d,.ptr a' b' c' d'=>Nat.beq a a' && (Nat.beq b b' && (Nat.beq c c' &&Nat.beq d d'))
 | .eptr e a,.eptr e' a'=>V.beq e e' &&Nat.beq a a'
 | .mp a b,.mp a' b'=>Nat.beq a a' &&Nat.beq b b'
 | .mlit a,.mlit b=>V.pR a b
 | .it a b,.it a' b'=>Nat.beq a a' &&Nat.beq b b'
 | .litk s a,.litk s' b=>Nat.beq s s' &&V.pR a b
 | .epk a b e c,.epk a' b' e' c'=>Nat.beq a a' && (Nat.beq b b' && (V.beq e e' &&Nat.beq c c'))
 | .any,.any=>true
 | .msl s a b c,.msl s' a' b' c'=>Nat.beq s s' && (V.pR a a' && (Nat.beq b b' &&Nat.beq c c'))
 | .mptr s a b c,.mptr s' a' b' c'=>Nat.beq s s' && (V.pR a a' && (Nat.beq b b' &&Nat.beq c c'))
 | _,_=>false
def V.pR:List V→List V→Bool
 | [],[]=>true
 | a::asq,b::bs=>V.beq a b &&V.pR asq bs
 | _,_=>false
end
def Qu:Option (List V)→Option (List V)→Bool
 | none,none=>true
 | some a,some b=>V.pR a b
 | _,_=>false
def Obj.beq (a b:Obj):Bool:=Nat.beq a.gen b.gen && (Nat.beq a.sz b.sz && ((a.arr==b.arr) && ((a.fz==b.fz) &&Qu a.es b.es)))
def oY {α:Type} (x:α):List α→List (List α)
 | []=> [[x]]
 | y::ys=> (x::y::ys):: (oY x ys).map (y:: ·)
def perms {α:Type}:List α→List (List α)
 | []=> [[]]
 | x::xs=> (perms xs).flatMap (oY x)
def yV (it r g:Nat) (σ:St):Bool:=match σ.T it with
 | .it r' g'=>Nat.beq r' r && (Nat.beq g' g &&Nat.beq (σ.O r).gen g)
 | _=>false
def runK (rec:aY→St→Option (aR×St)) (it r g nx ne id:Nat) (ahead body last:aY):List V→St→Option St
 | [],σ=>  if yV it r g σ then(match rec ahead (σ.put (some nx) (.tuple [.bool false])) with
     | some (.exit mO,σ')=>if mO=id then(match rec last σ' with
          | some (.normal,σ'')=>some σ''
          | _=>none) else none
     | _=>none) else none
 | e::p,σ=>match e with
   | .tuple [k,v]=>if yV it r g σ then(match rec ahead (σ.put (some nx) (.tuple [.bool true,k,v])) with
      |   some (.normal,σ1)=>if yV it r g σ1 then(match rec body (σ1.put (some ne) (.tuple [k,v])) with
          | some (.normal,σ')=>runK rec it r g nx ne id ahead body last p σ'
          | _=>none) else none
      | _=>none) else none
   | _=>none
def lA {α β:Type} (f:α→Option β):List α→Option (List β)
 | []=>some []
 | x::xs=>match f x,lA f xs with
   | some y,some ys=>some (y::ys)
   | _,_=>none
def agree (kT kO:List Nat) (σ1 σ:St):Bool:=kT.all (fun t=>V.beq (σ.T t) (σ1.T t)) &&kO.all fun r=>Obj.beq (σ.O r) (σ1.O r)
def forget (kT kO:List Nat) (σ1:St) (σs:List St):St:=
 {T:=fun t=>if kT.contains t then σ1.T t else .any
  O:=fun r=>if kO.contains r then σ1.O r else {gen:=(σ1::σs).foldr (fun σ m=>max (σ.O r).gen m) 0+1,sz:=0,arr:=false,fz:=false,es:=none}}
def jQ (T:Nat→V) (ps:List Nat) (x:List V):Nat→V:=(ps.zip x).foldl (fun T p=>da T p.1 p.2) T
def uS (rec:aY→St→Option (aR×St)) (ps:List Nat) (asg body:aY) (T:Nat→V):List (List V)→(Nat→Obj)→Option (aR×St)
 | [],O=>some (.normal,⟨T,O⟩)
 | x::xs,O=>match rec asg ⟨jQ T ps x,O⟩ with
   | some (.normal,σ1)=>match rec body σ1 with
     | some (.normal,σ2)=>uS rec ps asg body T xs σ2.O
     | some (e,σ2)=>some (e,⟨T,σ2.O⟩)
     | none=>none
   | _=>none
def aJ ( E:Env) (C:bo) (rec:aY→St→Option (aR×St)):aY→St→Option (aR×St)
 | .skip,σ=>some (.normal,σ)
 | .region ops,σ=> (iN E C ops σ).map fun σ=> (.normal,σ)
 | .drawn ops,σ=> (eE E C ops [] [] σ).map fun σ=> (.normal,σ)
 | .seq a b,σ=>match rec a σ with
   | some (.normal,σ')=>rec b σ'
   | r=>r
 | .cond c a b,σ=>match bu σ c with
   | .bool true=>rec a σ
   | .bool false=>rec b σ
   | _=>none
 | .block id b,σ=>match rec b σ with
   | some (.exit mO,σ')=>if mO=id then some (.normal,σ') else some (.exit mO,σ')
   | r=>r
 | .loop b,σ=>match rec b σ with
   | some (.normal,σ')=>rec (.loop b) σ'
   | r=>r
 | .exit id,σ=>some (.exit id,σ)
 | .ret,σ=>some (.ret,σ)
 | .scope b,σ=>rec b σ
 | .bad,_=>none
 | .keys it nx ne id kT kO ahead body last,σ=>match σ.T it with
   | .it r g=> (match (σ.O r).es with
     | some [.mlit es]=>if (σ.O r).gen=g∧(σ.O r).sz=0∧(σ.O r).fz=false then
        (match lA (fun p=>runK rec it r g nx ne id ahead body last p ⟨σ.T,da σ.O r ⟨g,0,false,false,none⟩⟩) (perms es) with
        | some (σ1::σs)=>if σs.all (agree kT kO σ1) then some (.normal,forget kT kO σ1 σs) else none
        | _=>none) else none
     | _=>none)
   | _=>none
 | .pW x ps asg body,σ=>match bu σ x with
   | .fn g caps=>match E.iter g caps with
     | some xs=>if xs.all (fun x=>Nat.beq x.length ps.length)=true then uS rec ps asg body σ.T xs σ.O else none
     | none=>none
   | _=>none
def bH:Obj:={gen:=0,sz:=0,arr:=false,fz:=false,es:=none}
def enter (args:List V):St:=
 {T:=fun t=>match args[t]? with
   | some (.msl _ _ off len)=> .sl t 0 off len
   | some (.mptr _ _ idx off)=> .ptr t 0 idx off
   | some v=>v
   | none=>dO
  O:=fun r=>match args[r]? with
   | some (.msl sz es _ _)=> {gen:=0,sz,arr:=true,fz:=false,es:=some es}
   | some (.mptr sz es _ _)=> {gen:=0,sz,arr:=false,fz:=false,es:=some es}
   | _=>bH}
def cG (n:Nat) (σ:St) (c:V):Option (V×List Nat):=
 match c with
 | .sl r g off len=>match (σ.O r).es with
   | some es=>if (σ.O r).gen=g∧off+len≤es.length∧(σ.O r).arr=true∧V.al (aG es off len)=true then
      if r<n then some (.sl r g off len,[r])
      else if (σ.O r).fz then some (.lit (σ.O r).sz (aG es off len),[]) else some (.own (σ.O r).sz (aG es off len),[r])
     else none
   | none=>none
 | c=>if c.aw then some (c,[]) else none
def cm (n:Nat) (σ:St):List V→Option (List V×List Nat)
 | []=>some ([],[])
 | c::cs=>match cG n σ c,cm n σ cs with
   | some (c',r),some (cU,rs)=>some (c'::cU,r++rs)
   | _,_=>none
def dQ (n:Nat) (σ:St) (v:V):Option (V×List Nat):=
 if v.aw then some (v,[]) else
 match v with
 | .agg cs=>match cm n σ cs with
   | some (cU,rs)=>some (.agg cU,rs)
   | none=>none
 | .fn f cs=>match cm n σ cs with
   | some (cU,rs)=>if V.al cU then some (.fn f cU,rs) else none
   | none=>none
 | v=>cG n σ v
def dv (n:Nat) (σ:St):List V→Option (List V×List Nat)
 | []=>some ([],[])
 | c::cs=>match dQ n σ c,dv n σ cs with
   | some (c',r),some (cU,rs)=>some (c'::cU,r++rs)
   | _,_=>none
def ml ( σ:St):uA→Option V
 | .tmp t=>some (σ.T t)
 | .cell t agg sz=>match σ.T t with
   | .ptr r g idx off=>match (σ.O r).es with
     | some es=>if (σ.O r).gen=g then match es[idx]? with
        | some e=>part agg off sz e
        | none=>none
       else none
     | none=>none
   | _=>none
def eC (σ:St):List uA→Option (List V)
 | []=>some []
 | r::rs=>match ml σ r,eC σ rs with
   | some v,some vs=>some (v::vs)
   | _,_=>none
def cO (O:Nat→Obj):Nat→List V→Option (List (Nat×List V))
 | _,[]=>some []
 | i,.msl sz .. ::asq| i,.mptr sz .. ::asq=>match (O i).es,cO O (i+1) asq with
   | some es,some outs=>if (O i).fz=false∧(O i).sz=sz∧V.al es=true then some (((O i).gen,es)::outs) else none
   | _,_=>none
 | i,_::asq=>cO O (i+1) asq
mutual
def V.erase:V→V
 | .litk sz xs=> .lit sz (V.erases xs)
 | .epk _ _ e off=> .eptr (V.erase e) off
 | .agg cs=> .agg (V.erases cs)
 | .tuple cs=> .tuple (V.erases cs)
 | .fn f cs=> .fn f (V.erases cs)
 | .bfn f cs=> .bfn f (V.erases cs)
 | .iface t v=> .iface t (V.erase v)
 | .lit sz xs=> .lit sz (V.erases xs)
 | .own sz xs=> .own sz (V.erases xs)
 | .eptr e off=> .eptr (V.erase e) off
 | .mlit es=> .mlit (V.erases es)
 | .msl sz es off len=> .msl sz es off len
 | .mptr sz es idx off=> .mptr sz es idx off
 | .bool b=> .bool b
 | .int k n=> .int k n
 | .float b=> .float b
 | .str s=> .str s
 | .nilp=> .nilp
 | .nilfn=> .nilfn
 | .nili=> .nili
 | .nils=> .nils
 | .sl r g off len=> .sl r g off len
 | .ptr r g idx off=> .ptr r g idx off
 | .mp r g=> .mp r g
 | .it r g=> .it r g
 | .any=> .any
def V.erases:List V→List V
 | []=> []
 | v::vs=>V.erase v::V.erases vs
end
def Ae (v:V):V:=match v with
 | .lit sz xs=> .litk sz xs
 | v=>v
def GI (c:Nat) (v:V):V:=match v with
 | .agg cs=> .agg (cs.modify c Ae)
 | v=>v
def cH (p:Nat×Nat) (args:List V):List V:=(V.erases args).modify p.1 (GI p.2)
def leave (af:aQ) (args:List V) (σ:St):Option eZ:=
 match eC σ af.results,cO σ.O 0 args with
 | some vs,some outs=>match dv args.length σ vs with
   | some ([v],rs)=>if distinct rs then some ⟨v,outs⟩ else none
   | some (vs,rs)=>if distinct rs then some ⟨.tuple vs,outs⟩ else none
   | none=>none
 | _,_=>none
def eM ( E:Env) (rec:aY→St→Option (aR×St)):bo:=fun f args=>
 match E.ext f args with
 | some r=>some r
 | none=>match E.fn f with
   | some af=>if args.length=af.nparams then match af.tag with
      | none=> (match rec af.body (enter args) with
        | some (.normal,σ) | some (.ret,σ)=>leave af args σ
        | _=>none)
      | some p=>if V.al args=true then(match rec af.body (enter (cH p args)) with
        | some (.normal,σ) | some (.ret,σ)=> (leave af (cH p args) σ).map fun res=> ⟨res.val.erase,[]⟩
        | _=>none) else none
     else none
   | none=>none
def dt (E:Env) (rec:aY→St→Option (aR×St)):bo:=fun f args=>
 match E.hyb f with
 | some h=>h (eM E rec) args
 | none=>eM E rec f args
def exec (E:Env):Nat→aY→St→Option (aR×St)
 | 0=>fun _ _=>none
 | n+1=>aJ E (dt E (exec E n)) (exec E n)
def call (E:Env) (n:Nat):bo:=dt E (exec E n)
end Go.AM
namespace Go.AM
mutual
theorem V.beq_eq: ∀ {a b:V},V.beq a b=true→a=b
 | .bool _,b,h| .int ..,b,h| .float _,b,h| .str _,b,h| .nilp,b,h| .nilfn,b,h| .nili,b,h| .nils,b,h| .any,b,h=>by
   cases b<;>simp_all[V.beq]
 | .sl ..,b,h| .ptr ..,b,h| .mp ..,b,h| .it ..,b,h=>by
   cases b<;>simp_all[V.beq]
 | .msl s asq o l,b,h=>by
   cases b<;>simp only[V.beq,Bool.and_eq_true,akb,reduceCtorEq,ai3] at h
   rw[h.1,V.iI h.2.1,h.2.2.1,h.2.2.2]
 | .mptr s asq o l,b,h=>by
   cases b<;>simp only[V.beq,Bool.and_eq_true,akb,reduceCtorEq,ai3] at h
   rw[h.1,V.iI h.2.1,h.2.2.1,h.2.2.2]
 | .agg asq,b,h=>by
   cases b<;>simp only[V.beq,reduceCtorEq,ai3] at h
   rw[V.iI h]
 | .tuple asq,b,h=>by
   cases b<;>simp only[V.beq,reduceCtorEq,ai3] at h
   rw[V.iI h]
 | .mlit asq,b,h=>by
   cases b<;>simp only[V.beq,reduceCtorEq,ai3] at h
   rw[V.iI h]
 | .bfn f asq,b,h=>by
   cases b<;>simp only[V.beq,Bool.and_eq_true,akb,reduceCtorEq,ai3] at h
   rw[h.1,V.iI h.2]
 | .fn f asq,b,h=>by
   cases b<;>simp only[V.beq,Bool.and_eq_true,akb,reduceCtorEq,ai3] at h
   rw[h.1,V.iI h.2]
 | .iface t a,b,h=>by
   cases b<;>simp only[V.beq,Bool.and_eq_true,akb,reduceCtorEq,ai3] at h
   rw[h.1,V.beq_eq h.2]
 | .lit s asq,b,h=>by
   cases b<;>simp only[V.beq,Bool.and_eq_true,akb,reduceCtorEq,ai3] at h
   rw[h.1,V.iI h.2]
 | .litk s asq,b,h=>by
   cases b<;>simp only[V.beq,Bool.and_eq_true,akb,reduceCtorEq,ai3] at h
   rw[h.1,V.iI h.2]
 | .own s asq,b,h=>by
   cases b<;>simp only[V.beq,Bool.and_eq_true,akb,reduceCtorEq,ai3] at h
   rw[h.1,V.iI h.2]
 | .eptr e o,b,h=>by
   cases b<;>simp only[V.beq,Bool.and_eq_true,akb,reduceCtorEq,ai3] at h
   rw[h.2,V.beq_eq h.1]
 | .epk i z e o,b,h=>by
   cases b<;>simp only[V.beq,Bool.and_eq_true,akb,reduceCtorEq,ai3] at h
   rw[h.1,h.2.1,V.beq_eq h.2.2.1,h.2.2.2]
theorem V.iI: ∀ {a b:List V},V.pR a b=true→a=b
 | [],[],_=>rfl
 | [],_::_,h=>by simp[V.pR] at h
 | _::_,[],h=>by simp[V.pR] at h
 | a::asq,b::bs,h=>by
   simp only[V.pR,Bool.and_eq_true] at h
   rw[V.beq_eq h.1,V.iI h.2]
end
mutual
theorem V.mj: ∀ (a:V),V.beq a a=true
 | .bool _| .int .. | .float _| .str _| .nilp| .nilfn| .nili| .nils| .any| .sl .. | .ptr .. | .mp .. | .it .. =>by simp[V.beq]
 | .agg asq| .tuple asq| .mlit asq=>by simp only[V.beq];exact V.oh asq
 | .fn f asq| .bfn f asq| .lit f asq| .litk f asq| .own f asq=>by
   simp only[V.beq,Nat.beq_refl,aj1]
   exact V.oh asq
 | .msl f asq _ _| .mptr f asq _ _=>by
   simp only[V.beq,Nat.beq_refl,aj1,ajy]
   exact V.oh asq
 | .iface t a=>by
   simp only[V.beq,Nat.beq_refl,aj1]
   exact V.mj a
 | .eptr e o=>by
   simp only[V.beq,Nat.beq_refl,ajy]
   exact V.mj e
 | .epk i z e o=>by
   simp only[V.beq,Nat.beq_refl,aj1,ajy]
   exact V.mj e
theorem V.oh: ∀ (a:List V),V.pR a a=true
 | []=>rfl
 | a::asq=>by simp only[V.pR,V.mj a,V.oh asq,ajD]
end
theorem Obj.beq_eq {a b:Obj} (h:Obj.beq a b=true):a=b:=by
 obtain⟨g,s,r,f,es⟩:=a
 obtain⟨g',s',r',f',es'⟩:=b
 simp only[Obj.beq,Bool.and_eq_true,akb,beq_iff_eq] at h
 obtain⟨rfl,rfl,rfl,rfl,h⟩:=h
 congr 1
 unfold Qu at h
 split at h
 ·rfl
 ·rw[V.iI h]
 ·simp at h
theorem Obj.mj (a:Obj):Obj.beq a a=true:=by
 obtain⟨g,s,r,f,es⟩:=a
 simp only[Obj.beq,Nat.beq_refl,beq_self_eq_true,aj1]
 unfold Qu
 cases es with
 | none=>rfl
 | some es=>exact V.oh es
section
variable {α β:Type}
theorem Af {x:α}: ∀ {l p:List α},p ∈ oY x l→p.Perm (x::l)
 | [],p,h=>by simp[oY] at h;subst h;exact .refl _
 | y::ys,p,h=>by
   simp only[oY,ai0,ai9] at h
   rcases h with rfl| ⟨q,hq,rfl⟩
   ·exact .refl _
   ·exact((Af hq).cons y).trans (.swap x y ys)
theorem Ag {x:α}: ∀ {a b:List α},a++x::b ∈ oY x (a++b)
 | [],[]=>by simp[oY]
 | [],y::ys=>by simp[oY]
 | y::a,b=>by
   simp only[ajn,oY,ai0,ai9]
   exact .inr ⟨_,Ag,rfl⟩
theorem xY: ∀ {l p:List α},p ∈ perms l→p.Perm l
 | [],p,h=>by simp[perms] at h;subst h;exact .refl _
 | x::xs,p,h=>by
   simp only[perms,List.mem_flatMap] at h
   obtain⟨q,hq,hp⟩:=h
   exact(Af hp).trans ((xY hq).cons x)
theorem qb: ∀ {l p:List α},p.Perm l→p ∈ perms l
 | [],p,h=>by rw[h.eq_nil];simp[perms]
 | x::xs,p,h=>by
   obtain⟨a,b,rfl⟩:=List.append_of_mem (h.mem_iff.2 abW:x ∈ p)
   have h': (a++b).Perm xs:=List.Perm.cons_inv (List.perm_middle.symm.trans h)
   simp only[perms,List.mem_flatMap]
   exact⟨a++b,qb h',Ag⟩
theorem yb {f:α→Option β}: ∀ {l:List α} {ys:List β},lA f l=some ys→ ∀x ∈ l,∃y ∈ ys,f x=some y
 | [],ys,_,x,hx=>by simp at hx
 | a::l,ys,h,x,hx=>by
   simp only[lA] at h
   split at h
   ·rename_i y ys' h1 h2
    injection h with h;subst h
    rcases ai0.1 hx with rfl| hx
    ·exact⟨y,abW,h1⟩
    ·obtain⟨z,hz,e⟩:=yb h2 x hx
     exact⟨z,by simp[hz],e⟩
   ·simp at h
theorem oP {f f':α→Option β} (h: ∀x y,f x=some y→f' x=some y): ∀ {l:List α} {ys:List β},lA f l=some ys→lA f' l=some ys
 | [],ys,e=>e
 | a::l,ys,e=>by
   simp only[lA] at e ⊢
   split at e
   ·rename_i y ys' h1 h2
    rw[h _ _ h1,oP h h2];exact e
   ·simp at e
theorem Ad {f:Nat→α→Option β} (hm: ∀n m x y,n≤m→f n x=some y→f m x=some y) {P:β→Prop}: ∀ {l:List α},(∀x ∈ l,∃n y,f n x=some y∧P y)→ ∃n ys,lA (f n) l=some ys∧ys.length=l.length∧ ∀y ∈ ys,P y
 | [],_=> ⟨0,[],rfl,rfl,abW⟩
 | a::l,h=>by
   obtain⟨n1,y,h1,h2⟩:=h a abW
   obtain⟨n2,ys,h3,h4,h5⟩:=Ad hm (l:=l) fun x hx=>h x (by simp[hx])
   refine⟨max n1 n2,y::ys,?_,by simp[h4],?_⟩
   ·have e1:=hm n1 (max n1 n2) a y (ajv ..) h1
    have e2:=oP (f:=f n2) (f':=f (max n1 n2)) (fun x y h=>hm n2 _ x y (ajj ..) h) h3
    simp only[lA,e1,e2]
   ·intro z hz
    rcases ai0.1 hz with rfl| hz
    ·exact h2
    ·exact h5 z hz
end
theorem rK {r r':aY→St→Option (aR×St)} (h: ∀c σ x,r c σ=some x→r' c σ=some x) {it ri g nx ne id:Nat} {ahead body last:aY}: ∀ {p:List V} {σ σ':St},runK r it ri g nx ne id ahead body last p σ=some σ'→runK r' it ri g nx ne id ahead body last p σ=some σ'
 | [],σ,σ',e=>by
   simp only[runK] at e ⊢
   split at e
   · rename_i hi
     rw[if_pos hi]
     split at e
     ·rename_i mO σ1 h1
      rw[h _ _ _ h1]
      simp only
      split at e
      ·rename_i PL
       rw[if_pos PL]
       split at e
       ·rename_i σ2 h2
        rw[h _ _ _ h2];exact e
       ·simp at e
      ·simp at e
     ·simp at e
   ·simp at e
 | x::p,σ,σ',e=>by
   simp only[runK] at e ⊢
   split at e
   · split at e
     ·rename_i hi
      rw[if_pos hi]
      split at e
      ·rename_i σ1 h1
       rw[h _ _ _ h1]
       simp only
       split at e
       ·rename_i sM
        rw[if_pos sM]
        split at e
        ·rename_i σ2 h2
         rw[h _ _ _ h2]
         exact rK h e
        ·simp at e
       ·simp at e
      ·simp at e
     ·simp at e
   ·simp at e
theorem wI {r r':aY→St→Option (aR×St)} (h: ∀c σ x,r c σ=some x→r' c σ=some x) {ps:List Nat} {a b:aY} {T:Nat→V}: ∀ {xs:List (List V)} {O:Nat→Obj} {y},uS r ps a b T xs O=some y→uS r' ps a b T xs O=some y
 | [],O,y,e=>by simpa [uS] using e
 | x::xs,O,y,e=>by
   simp only[uS] at e ⊢
   split at e
   ·rename_i σ1 h1
    rw[h _ _ _ h1]
    simp only
    split at e
    ·rename_i σ2 h2
     rw[h _ _ _ h2];exact wI h e
    ·rename_i e2 σ2 hn h2
     rw[h _ _ _ h2]
     simp only
     cases e2 with
     | normal=>exact absurd rfl (hn ·)
     | exit id=>exact e
     | ret=>exact e
    ·simp at e
   ·simp at e
theorem uW {α:Type} (f:α→Nat): ∀ {l:List α} {x:α},x ∈ l→f x≤l.foldr (fun x m=>max (f x) m) 0
 | a::l,x,h=>by
   simp only[List.foldr_cons]
   rcases ai0.1 h with rfl| h
   ·exact ajv ..
   ·exact ajb (uW f h) (ajj ..)
end Go.AM
