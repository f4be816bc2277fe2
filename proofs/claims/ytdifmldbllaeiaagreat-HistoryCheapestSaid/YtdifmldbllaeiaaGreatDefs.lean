/- Texts of the proof. -/
import Derived.KernelRfl
import GoSem.Step
set_option linter.unusedSimpArgs false
set_option linter.unusedVariables false
namespace Go.AM
theorem ae0 {p:Prop} (h:p:=by omega):p:=h
theorem afU {p:Prop} (h:p:=by simp):p:=h
theorem afV {p:Prop} (h:p:=by decide):p:=h
theorem afW {p:Prop} (h:p:=by kernel_rfl):p:=h
theorem afX {p:Prop} (h:p:=by dsimp only;omega):p:=h
abbrev afY:=@Option.some.injEq
abbrev afZ:=@Option.map_eq_some_iff
abbrev af0:=@List.getElem?_eq_some_iff
abbrev af1:=@Array.getElem?_eq_some_iff
abbrev af2:=@Bool.and_eq_true
abbrev af3:=@List.getElem?_eq_getElem
abbrev af4:=@Prod.mk.injEq
abbrev af5:=@List.all_eq_true
abbrev af6:=@Nat.le_refl
abbrev af7:=@List.mem_cons
abbrev af8:=@Option.isSome_iff_exists
abbrev af9:=@Nat.lt_of_lt_of_le
abbrev aga:=@Bool.false_eq_true
abbrev agb:=@List.length_cons
abbrev agc:=@Option.map_some
abbrev agd:=@List.mem_append
abbrev age:=@List.getElem?_map
abbrev agf:=@List.mem_or_eq_of_mem_set
abbrev agh:=@Array.length_toList
abbrev agi:=@List.length_nil
abbrev agj:=@List.all_cons
abbrev agk:=@List.mem_map
abbrev agl:=@Array.getElem?_eq_getElem
abbrev agm:=@Nat.le_trans
abbrev agn:=@List.drop_eq_nil_of_le
abbrev ago:=@Nat.le_max_right
abbrev agp:=@List.mem_of_mem_take
abbrev agq:=@List.drop_eq_getElem_cons
abbrev agr:=@Nat.eq_zero_or_pos
abbrev ags:=@List.cons_append
abbrev agt:=@List.mem_iff_getElem?
abbrev agu:=@List.getElem?_modify
abbrev agv:=@Nat.add_mul
abbrev agw:=@Nat.le_max_left
abbrev agx:=@Nat.eq_of_beq_eq_true
abbrev agy:=@List.getElem?_take
abbrev agz:=@List.length_take
abbrev agA:=@List.map_append
abbrev agB:=@Bool.and_true
abbrev agC:=@Nat.mul_le_mul_right
abbrev agD:=@List.take_add_one
abbrev agE:=@Bool.and_self
abbrev agF:=@List.mem_of_mem_drop
abbrev agG:=@List.length_drop
abbrev agH:=@List.nil_append
abbrev agI:=@Nat.zero_le
abbrev agJ:=@List.append_nil
abbrev agK:=@Nat.zero_add
abbrev agL:=@List.getD_eq_getElem?_getD
abbrev agM:=@List.getElem?_append_left
abbrev agN:=@List.mem_of_find?_eq_some
abbrev agO:=@List.take_succ_cons
abbrev agP:=@List.getElem_mem
abbrev agQ:=@List.ext_getElem?
abbrev agR:=@List.length_eq_zero_iff
abbrev agS:=@Bool.not_eq_true'
abbrev agT:=@Array.getElem?_setIfInBounds_ne
abbrev agU:=@List.getElem?_append_right
abbrev agV:=@List.length_eraseIdx
abbrev agW:=@List.mem_singleton
abbrev agX:=@Array.getElem?_eq_none
abbrev agY:=@List.getElem?_set
abbrev agZ:=@List.getElem?_eq_none
abbrev ag0:=@List.map_set
abbrev ag1:=@Array.getElem?_setIfInBounds
abbrev ag2:=@List.findIdx?_eq_some_iff_getElem
abbrev ag3:=@Array.toList_inj
abbrev ag4:=@List.append_assoc
abbrev ag5:=@List.extract_eq_take_drop
abbrev ag6:=@List.all_append
abbrev ag7:=@Array.getElem?_append
abbrev ag8:=@Ne.symm
abbrev ag9:=@List.take_length
abbrev aha:=@List.range_eq_range'
abbrev ahb:=@List.getElem?_cons_succ
abbrev ahc:=@List.drop_drop
abbrev ahd:=@Nat.lt_or_ge
abbrev ahe:=@Nat.beq_eq
abbrev ahf:=@Int.toNat_natCast
abbrev ahg:=@Option.map_eq_map
abbrev ahh:=@Array.toList_modify
abbrev ahi:=@List.length_replicate
abbrev ahj:=@Nat.mul_comm
abbrev ahk:=@Nat.add_zero
abbrev ahl:=@List.eraseIdx_append_of_length_le
abbrev ahm:=@Nat.le_of_ble_eq_true
abbrev ahn:=@List.take_zero
abbrev aho:=@Array.toList_extract
abbrev ahp:=@List.getElem?_of_mem
abbrev ahq:=@List.contains_eq_mem
abbrev ahr:=@Array.replicate_succ
abbrev ahs:=@Array.replicate_zero
abbrev aht:=@Bool.or_eq_true
abbrev ahu:=@Array.getElem?_replicate
abbrev ahv:=@List.size_toArray
abbrev ahw:=@List.find?_some
abbrev ahx:=@List.map_nil
abbrev ahy:=@Nat.add_assoc
abbrev ahz:=@Bool.true_and
abbrev ahA:=@List.append_toArray
abbrev ahB:=@List.drop_append
abbrev ahC:=@Nat.shiftLeft_eq
abbrev ahD:=@Int.mul_nonneg
abbrev ahE:=@List.drop_of_length_le
abbrev ahF:=@List.getElem?_drop
abbrev ahG:=@Array.getElem?_toList
abbrev ahH:=@Bool.eq_iff_iff
abbrev ahI:=@List.mem_filter
abbrev ahJ:=@List.nodup_cons
abbrev ahK:=@List.cons.injEq
abbrev ahL:=@Int.le_trans
abbrev ahM:=@List.map_take
abbrev ahN:=@List.push_toArray
abbrev ahO:=@Array.toList_setIfInBounds
abbrev ahP:=@List.getElem?_append
abbrev ahQ:=@Classical.byContradiction
abbrev ahR:=@List.findIdx?_eq_none_iff
abbrev ahS:=@Array.toList_map
abbrev ahT:=@Option.getD_some
abbrev ahU:=@List.getElem?_range
abbrev ahV:=@List.drop_succ_cons
abbrev ahW:=@List.length_filterMap_le
inductive V where
 | bool (b:Bool)
 | int (k:IntKind) (n:Int)
 | float (bits:Nat)
 | str (s:List UInt8)
 | agg (cs:List V)
 | tuple (vs:List V)
 | nilp| nilfn| nili
 | fn (f:Nat) (caps:List V)
 | bfn (f:Nat) (first:List V)
 | iface (t:Nat) (v:V)
 | nils
 | lit (sz:Nat) (xs:List V)
 | own (sz:Nat) (xs:List V)
 | sl (r g off len:Nat)
 | ptr (r g idx off:Nat)
 | eptr (e:V) (off:Nat)
 | mp (r g:Nat)
 | mlit (es:List V)
 | it (r g:Nat)
 | litk (sz:Nat) (xs:List V)
 | epk (i sz:Nat) (e:V) (off:Nat)
 | msl (sz:Nat) (es:List V) (off len:Nat)
 | mptr (sz:Nat) (es:List V) (idx off:Nat)
 | any
 deriving Inhabited
def dE:V:= .tuple []
structure Obj where
 gen:Nat
 sz:Nat
 arr:Bool
 fz:Bool
 es:Option (List V)
structure eL where
 val:V
 outs:List (Nat×List V)
inductive aT where
 | tmp (t:Nat)
 | const (v:V)
inductive sW where
 | move (x:aT)
 | pick (c a b:aT)
 | new (r sz:Nat) (x:aT)
 | build (cells:List V) (parts:List (Nat×Nat×aT))
 | buildSlice (r sz:Nat) (zero:V) (n:Nat) (parts:List (Nat×aT))
 | td (r sz:Nat)
 | ren (r:Nat) (x:aT)
 | load (agg:Bool) (sz:Nat) (x:aT)
 | store (agg:Bool) (sz:Nat) (x v:aT)
 | nilCheck (x:aT)
 | bin (op:BinOp) (x y:aT)
 | Xh (neg:Bool) (ks:List Nat) (x y:aT)
 | un (op:UnOp) (x:aT)
 | te (k:IntKind) (x:aT)
 | yp (x:aT)
 | yq (k:IntKind) (x:aT)
 | yr (f:Nat) (caps:List aT)
 | slice (sz:Nat) (x:aT) (lo hi mx:Option aT)
 | fieldAddr (off:Nat) (x:aT)
 | indexAddr (sz:Nat) (x i:aT)
 | o9 (n sz:Nat) (x i:aT)
 | pb (x i:aT)
 | len (x:aT)
 | yt (x:aT)
 | min (xs:List aT)
 | max (xs:List aT)
 | append (r sz lim:Nat) (s x:aT)
 | clear (sz:Nat) (zero:V) (x:aT)
 | extract (x:aT) (i:Nat)
 | call (r:Nat) (bA:Bool) (f:aT) (args:List aT)
 | deep (x:aT)
 | A3 (ks:List Nat) (agg:Bool) (sz:Nat) (x:aT)
 | mkMap (r:Nat)
 | u5 (q:Option IntKind) (x k v:aT)
 | yu (q:Option IntKind) (ok:Bool) (zero:V) (x k:aT)
 | Nb (x:aT)
 | UU (neg:Bool) (x y:aT)
 | mapIter (r:Nat) (x:aT)
 | tj (f:Nat) (first:List aT)
 | tk (f:Nat) (caps:List (Bool×aT))
 | qx (ks:List Nat) (x k v:aT)
 | qy (ks:List Nat) (ok:Bool) (zero:V) (x k:aT)
 | ti (i r sz lim:Nat) (s x:aT)
 | tg (ks:List Nat) (zero:V) (x k:aT)
 | yw (agg:Bool) (sz:Nat) (x v:aT)
 | ky (ks:List Nat) (x k:aT)
 | kz (ks:List Nat) (x k:aT)
 | th (x s v:aT)
 | bad
structure bX where
 dst:Option Nat
 op:sW
 guard:Option (Nat×Bool)
 pre:List Nat
inductive aS where
 | skip
 | region (ops:List bX)
 | drawn (ops:List bX)
 | seq (a b:aS)
 | cond (c:aT) (a b:aS)
 | block (id:Nat) (b:aS)
 | loop (b:aS)
 | exit (id:Nat)
 | ret
 | scope (b:aS)
 | bad
 | keys (it nx ne id:Nat) (kT kO:List Nat) (ahead body last:aS)
 | nN (x:aT) (ps:List Nat) (X6 body:aS)
inductive sU where
 | tmp (t:Nat)
 | cell (t:Nat) (agg:Bool) (sz:Nat)
structure aM where
 nparams:Nat
 ntmps:Nat
 cL:List (Option Nat)
 results:List sU
 body:aS
 tag:Option (Nat×Nat):=none
structure Env where
 fn:Nat→Option aM
 ext:Nat→List V→Option eL
 hyb:Nat→Option ((Nat→List V→Option eL)→List V→Option eL):=fun _=>none
 mono: ∀f h,hyb f=some h→ ∀ (C C':Nat→List V→Option eL),(∀g vs r,C g vs=some r→C' g vs=some r)→ ∀vs r,h C vs=some r→h C' vs=some r:=by exact fun _ _ h=>nomatch h
 iter:Nat→List V→Option (List (List V)):=fun _ _=>none
 Cs:Nat→Option (List V→List V→Option (V×List V)):=fun _=>none
def V.cells:V→List V
 | .agg cs=>cs
 | v=> [v]
def V.isAgg:V→Bool
 | .agg _=>true
 | _=>false
def V.isTuple:V→Bool
 | .tuple _=>true
 | _=>false
def V.aR:V→Bool
 | .agg _| .tuple _| .any| .own .. | .msl .. | .mptr .. =>false
 | _=>true
mutual
def V.au:V→Bool
 | .bool _| .int .. | .float _| .str _| .nilp| .nilfn| .nili| .nils| .lit .. | .eptr .. | .litk .. | .epk .. | .any=>true
 | .agg cs=>V.ak cs
 | .tuple cs=>V.ak cs
 | .mlit es=>V.ak es
 | .fn _ caps=>V.ak caps
 | .bfn _ caps=>V.ak caps
 | .iface _ v=>V.au v
 | .own .. | .sl .. | .ptr .. | .mp .. | .it .. | .msl .. | .mptr .. =>false
def V.ak:List V→Bool
 | []=>true
 | c::cs=>V.au c &&V.ak cs
end
mutual
def V.isScalar:V→Bool
 | .bool _| .int .. | .float _| .str _| .nilp| .nilfn| .nili| .nils=>true
 | .agg cs=>V.bj cs
 | .tuple cs=>V.bj cs
 | _=>false
def V.bj:List V→Bool
 | []=>true
 | c::cs=>V.isScalar c &&V.bj cs
end
def part (agg:Bool) (off sz:Nat) (e:V):Option V:=
 match agg,e with
 | true,.agg cs=>if off+sz≤cs.length then some (.agg ((cs.drop off).take sz)) else none
 | true,_=>none
 | false,.agg cs=>cs[off]?
 | false,v=>if v.aR∧off=0 then some v else none
def kr (agg:Bool) (off sz:Nat) (e v:V):Option V:=
 match agg with
 | true=>match e,v with
   | .agg cs,.agg vs=>if vs.length=sz∧off+sz≤cs.length then some (.agg (cs.take off++vs++cs.drop (off+sz))) else none
   | _,_=>none
 | false=>if v.aR∧sz=1 then match e with
    | .agg cs=>if off<cs.length then some (.agg (cs.set off v)) else none
    | e=>if e.aR∧off=0 then some v else none
   else none
def V.da (v:V):Bool:=v.isAgg || v.aR
def aU (v:V) (sz:Nat):Bool:=v.cells.length==sz &&v.da
def aF (es:List V) (off len:Nat):List V:=(es.drop off).take len
def overwrite (es:List V) (off:Nat) (ys:List V):List V:=es.take off++ys++es.drop (off+ys.length)
inductive Act where
 | done (v:V)
 | fail
 | mY (t:Nat) (k:V→Act)
 | bP (r:Nat) (k:Obj→Act)
 | bM (r:Nat) (o:Obj) (k:Act)
 | call (f:Nat) (args:List V) (k:eL→Act)
def ev (x:aT) (k:V→Act):Act:=
 match x with
 | .tmp t=> .mY t k
 | .const v=>k v
def evs:List aT→(List V→Act)→Act
 | [],k=>k []
 | x::xs,k=>ev x fun v=>evs xs fun vs=>k (v::vs)
def Mw:Option aT→(Option V→Act)→Act
 | none,k=>k none
 | some x,k=>ev x fun v=>k (some v)
def eC:Option V→Act
 | some v=> .done v
 | none=> .fail
def iP (c:V) (k:V→Act):Act:=
 match c with
 | .sl r g off len=> .bP r fun o=>match o.es with
   | some es=>if o.gen=g∧o.arr=true∧off+len≤es.length∧V.ak (aF es off len)=true then .bM r {o with fz:=true} (k (.lit o.sz (aF es off len))) else .fail
   | none=> .fail
 | .mp r g=> .bP r fun o=>match o.es with
   | some es=>if o.gen=g∧o.sz=0∧V.ak es=true∧es.all V.isTuple=true then .bM r {o with fz:=true} (k (.mlit es)) else .fail
   | none=> .fail
 | .own .. | .msl .. | .mptr .. | .any| .it .. => .fail
 | c=>k c
def lf:List V→(List V→Act)→Act
 | [],k=>k []
 | c::cs,k=>iP c fun c'=>lf cs fun cP=>k (c'::cP)
def A0 (v:V) (k:V→Act):Act:=
 if v.au then k v else
 match v with
 | .agg cs=>lf cs fun cP=>k (.agg cP)
 | v=>iP v k
def mM (vs:List V) (k:List V→Act):Act:=
 if V.ak vs then k vs else go vs k
where
 go:List V→(List V→Act)→Act
 | [],k=>k []
 | c::cs,k=>A0 c fun c'=>go cs fun cP=>k (c'::cP)
def rY (b:Bool) (c:V) (k:V→Act):Act:=
 match b,c with
 | true,.ptr r g 0 off=> .bP r fun o=>match o.es with
   | some [e]=>if o.gen=g∧0 <o.sz∧V.au e=true then .bM r {o with fz:=true} (k (.eptr e off)) else .fail
   | _=> .fail
 | _,c=>k c
def ku:List (Bool×aT)→(List V→Act)→Act
 | [],k=>k []
 | (b,x)::xs,k=>ev x fun c=>rY b c fun c'=>ku xs fun cs=>k (c'::cs)
def rq (f:V→(V→List Nat→Act)→Act):List V→(List V→List Nat→Act)→Act
 | [],k=>k [] []
 | c::cs,k=>f c fun c' r=>rq f cs fun cP rs=>k (c'::cP) (r++rs)
def xA (f:V→(V→List Nat→Act)→Act) (vs:List V) (k:List V→List Nat→Act):Act:=
 if V.ak vs then k vs [] else rq f vs k
def fY:Nat→V→(V→List Nat→Act)→Act
 | 0,v,k=>if v.au then k v [] else .fail
 | d+1,v,k=>if v.au then k v [] else
   match v with
   | .agg cs=>rq (fY d) cs fun cP rs=>k (.agg cP) rs
   | .fn f cs=>rq (fY d) cs fun cP rs=>k (.fn f cP) rs
   | .iface t x=>fY d x fun x' rs=>k (.iface t x') rs
   | .sl r g off len=> .bP r fun o=>match o.es with
     | some es=>if o.gen=g∧o.arr=true∧off+len≤es.length then xA (fY d) (aF es off len) fun xs rs=>k (.lit o.sz xs) (r::rs) else .fail
     | none=> .fail
   | .ptr r g idx off=> .bP r fun o=>match o.es with
     | some es=>if o.gen=g then match es[idx]? with
        | some e=>fY d e fun e' rs=>k (.eptr e' off) (r::rs)
        | none=> .fail
       else .fail
     | none=> .fail
   | _=> .fail
def snap (v:V) (k:V→List Nat→Act):Act:=fY 5 v k
structure eh where
 i:Nat
 r:Nat
 fresh:Option Nat
def dG (   r0:Nat):List V→List (Option Nat)→Nat→(List V→List Nat→List eh→Act)→Act
 | [],_,_,k=>k [] [] []
 | v::vs,m::ms,i,k=>
   match m with
   | some sz=>match v with
     | .nils=>if 0 <sz then dG r0 vs ms (i+1) fun aD rs ws=>k (.msl sz [] 0 0::aD) rs (⟨i,r0+i,some sz⟩::ws) else .fail
     | .sl r g off len=> .bP r fun o=>match o.es with
       | some es=>if o.gen=g∧o.fz=false∧o.sz=sz∧off+len≤es.length∧V.ak es=true then
          dG r0 vs ms (i+1) fun aD rs ws=>k (.msl sz es off len::aD) rs (⟨i,r,none⟩::ws) else .fail
       | none=> .fail
     | .ptr r g idx off=> .bP r fun o=>match o.es with
       | some es=>if o.gen=g∧o.fz=false∧o.sz=sz∧V.ak es=true then
          dG r0 vs ms (i+1) fun aD rs ws=>k (.mptr sz es idx off::aD) rs (⟨i,r,none⟩::ws) else .fail
       | none=> .fail
     | _=> .fail
   | none=>snap v fun v' rs=>dG r0 vs ms (i+1) fun aD rs' ws=>k (v'::aD) (rs++rs') ws
 | v::vs,[],i,k=>snap v fun v' rs=>dG r0 vs [] (i+1) fun aD rs' ws=>k (v'::aD) (rs++rs') ws
def dP:List Nat→Act→Act
 | [],k=>k
 | r::rs,k=> .bP r fun o=> .bM r {o with fz:=true} (dP rs k)
def fe:List eh→List (Nat×List V)→(List (Nat×Nat×Nat)→Act)→Act
 | [],[],k=>k []
 | w::ws,(bump,es)::outs,k=> .bP w.r fun o=>match w.fresh with
   | none=> .bM w.r {o with gen:=o.gen+bump,es:=some es} (fe ws outs fun gs=>k ((w.i,w.r,o.gen+bump)::gs))
   | some sz=> .bM w.r {gen:=o.gen+1,sz,arr:=true,fz:=false,es:=some es} (fe ws outs fun gs=>k ((w.i,w.r,o.gen+1)::gs))
 | _,_,_=> .fail
def nT (i:Nat):List (Nat×Nat×Nat)→Option (Nat×Nat)
 | []=>none
 | (j,r,g)::gs=>if j=i then some (r,g) else nT i gs
def dz (bA:Bool) (r:Nat) (gs:List (Nat×Nat×Nat)) (c:V) (k:V→Act):Act:=
 match c with
 | .own sz xs=>if bA then .bP r fun o=> .bM r {gen:=o.gen+1,sz,arr:=true,fz:=false,es:=some xs} (k (.sl r (o.gen+1) 0 xs.length)) else k (.lit sz xs)
 | .sl i _ off len=>match nT i gs with
   | some (r',g')=>k (.sl r' g' off len)
   | none=> .fail
 | c=>if c.au then k c else .fail
def eW (bA:Bool):Nat→List (Nat×Nat×Nat)→List V→(List V→Act)→Act
 | _,_,[],k=>k []
 | r,gs,c::cs,k=>dz bA r gs c fun c'=>eW bA (r+1) gs cs fun cP=>k (c'::cP)
def jJ (bA:Bool) (r:Nat) (gs:List (Nat×Nat×Nat)) (v:V) (k:V→Act):Act:=
 if v.au then k v else
 match v with
 | .agg cs=>eW bA r gs cs fun cP=>k (.agg cP)
 | v=>dz bA r gs v k
def jU (bA:Bool):Nat→List (Nat×Nat×Nat)→List V→(List V→Act)→Act
 | _,_,[],k=>k []
 | r,gs,v::vs,k=>jJ bA r gs v fun v'=>jU bA (r+8) gs vs fun vs'=>k (v'::vs')
def ej (bA:Bool) (r:Nat) (gs:List (Nat×Nat×Nat)) (v:V) (k:V→Act):Act:=
 if v.au then k v else
 match v with
 | .tuple vs=>jU bA r gs vs fun vs'=>k (.tuple vs')
 | v=>jJ bA r gs v k
def apart (rs ws:List Nat):Bool:=ws.all fun w=> !rs.contains w
def distinct:List Nat→Bool
 | []=>true
 | w::ws=> !ws.contains w &&distinct ws
def uZ (r:Nat) (bA:Bool):V→Bool
 | .own _ xs=>Nat.beq (r % 2) 1 && (!bA &&V.bj xs)
 | _=>false
def lh (E:Env) (r:Nat) (bA:Bool) (f:Nat) (args:List V):Act:=
 let cL:=match E.fn f with| some af=>af.cL| none=> []
 dG (r+8) args cL 0 fun aD rs ws=>
  if apart rs (ws.map (·.r)) &&distinct (ws.map (·.r)) then
   .call f aD fun res=>
    let go:=fe ws res.outs fun gs=>ej bA r gs res.val .done
    if (res.val.isScalar || uZ r bA res.val) &&res.outs.all (fun o=>V.bj o.2) then go else dP rs go
  else .fail
def G7 (op:BinOp) (a b:Int):Option V:=
 match op with
 | .eql=>some (.bool (a==b))
 | .neq=>some (.bool (a !=b))
 | .lss=>some (.bool (a<b))
 | .leq=>some (.bool (a≤b))
 | .gtr=>some (.bool (b<a))
 | .geq=>some (.bool (b≤a))
 | _=>none
def mi (op:BinOp) (k:IntKind) (x y:Int):Option V:=
 let a:=BitVec.ofInt k.bits x
 let b:=BitVec.ofInt k.bits y
 let back (r:BitVec k.bits):Option V:=some (.int k (k.wrap r.toNat))
 match op with
 | .and=>back (a &&&b)
 | .or=>back (a ||| b)
 | .xor=>back (a ^^^ b)
 | .andNot=>back (a &&& ~~~b)
 | _=>none
def GO (k:Nat) (a b:V):Option Bool:=
 match k,a,b with
 | 0,.bool a,.bool b=>some (a==b)
 | 1,.int k a,.int k' b=>if k=k' then some (a==b) else none
 | 2,.str a,.str b=>some (decide (a=b))
 | _,_,_=>none
def cR:List Nat→List V→List V→Option Bool
 | [],[],[]=>some true
 | k::ks,a::aD,b::bs=>match GO k a b,cR ks aD bs with
   | some x,some y=>some (x &&y)
   | _,_=>none
 | _,_,_=>none
def Jg:V→V→Option Bool
 | .nilp,.nilp=>some true
 | .nilp,.eptr .. | .nilp,.epk .. | .eptr ..,.nilp| .epk ..,.nilp=>some false
 | .epk i z _ 0,.epk i' z' _ 0=>if z=z'∧0 <z then some (i==i') else none
 | _,_=>none
def rZ (op:BinOp) (x y:V):Option V:=
 match x,y with
 | .int k a,.int k' b=>
   match op with
   | .shl=>if b< 0 then none else some (.int k (k.wrap (a*2 ^ (min b.toNat k.bits))))
   | .shr=>if b< 0 then none else some (.int k (a.fdiv (2 ^ (min b.toNat k.bits))))
   | op=>
     if k=k' then
      match op with
      | .add=>some (.int k (k.wrap (a+b)))
      | .sub=>some (.int k (k.wrap (a - b)))
      | .mul=>some (.int k (k.wrap (a*b)))
      | .quo=>if b=0 then none else some (.int k (k.wrap (a.tdiv b)))
      | .rem=>if b=0 then none else some (.int k (a.tmod b))
      | .and| .or| .xor| .andNot=>mi op k a b
      | op=>G7 op a b
     else none
 | .str a,.str b=>
   match op with
   | .add=>if a.length+b.length≤9223372036854775807 then some (.str (a++b)) else none
   | .eql=>some (.bool (decide (a=b)))
   | .neq=>some (.bool (!decide (a=b)))
   | .lss=>some (.bool (Op.bytesLess a b))
   | .leq=>some (.bool (Op.bytesLess a b || decide (a=b)))
   | .gtr=>some (.bool (!(Op.bytesLess a b || decide (a=b))))
   | .geq=>some (.bool (!Op.bytesLess a b))
   | _=>none
 | _,_=>none
def unV (op:UnOp) (x:V):Option V:=
 match op,x with
 | .neg,.int k n=>some (.int k (k.wrap (0 - n)))
 | .not,.bool b=>some (.bool (!b))
 | .xor,.int k n=>mi .xor k (if k.signed then -1 else k.max) n
 | _,_=>none
def min2 (x y:V):Option V:=
 match x,y with
 | .int k a,.int k' b=>if k=k' then some (.int k (if b<a then b else a)) else none
 | _,_=>none
def max2 (x y:V):Option V:=
 match x,y with
 | .int k a,.int k' b=>if k=k' then some (.int k (if a<b then b else a)) else none
 | _,_=>none
def pg (f:V→V→Option V) (x:V):List V→Option V
 | []=>some x
 | y::ys=>match f x y with
   | some z=>pg f z ys
   | none=>none
def oK (f:V→V→Option V):List V→Option V
 | []=>none
 | x::xs=>pg f x xs
def Rw:V→Option V
 | .nils=>some (.int .i64 0)
 | .lit _ xs=>some (.int .i64 xs.length)
 | .litk _ xs=>some (.int .i64 xs.length)
 | .sl _ _ _ len=>some (.int .i64 len)
 | _=>none
def cK (d:Nat):Option V→Option Nat
 | none=>some d
 | some (.int _ n)=>if 0≤n then some n.toNat else none
 | some _=>none
def yc (sz:Nat) (x:V) (lo hi mx:Option V):Option V:=
 match x with
 | .nils=>match cK 0 lo,cK 0 hi,cK 0 mx with
   | some l,some h,some m=>if l≤h∧h≤m∧m≤0∧(hi.isSome=true∨mx.isNone=true) then some .nils else none
   | _,_,_=>none
 | .lit sz' xs=>if sz'=sz then match cK 0 lo,cK xs.length hi,mx with
    | some l,some h,none=>if l≤h∧h≤xs.length then some (.lit sz (aF xs l (h - l))) else none
    | some l,some h,some m=>match hi,cK 0 (some m) with
      | some _,some m=>if l≤h∧h≤m∧m≤xs.length then some (if m=l then .nils else .any) else none
      | _,_=>none
    | _,_,_=>none
   else none
 | _=>none
def jq:List V→List (Nat×Nat×V)→Option (List V)
 | cs,[]=>some cs
 | cs,(off,sz,v)::rest=>if v.cells.length=sz∧off+sz≤cs.length∧v.da=true then jq (cs.take off++v.cells++cs.drop (off+sz)) rest else none
def mh:List (Nat×Nat×aT)→(List (Nat×Nat×V)→Act)→Act
 | [],k=>k []
 | (o,s,x)::ps,k=>ev x fun v=>mh ps fun vs=>k ((o,s,v)::vs)
def jK:List (Nat×aT)→(List (Nat×V)→Act)→Act
 | [],k=>k []
 | (i,x)::ps,k=>ev x fun v=>A0 v fun v=>jK ps fun vs=>k ((i,v)::vs)
def dQ (sz:Nat):List V→List (Nat×V)→Option (List V)
 | es,[]=>some es
 | es,(i,v)::rest=>if i<es.length∧aU v sz=true then dQ sz (es.set i v) rest else none
def content (sz:Nat) (x:V) (k:List V→Act):Act:=
 match x with
 | .nils=>k []
 | .lit sz' xs=>if sz'=sz then k xs else .fail
 | .sl r g off len=> .bP r fun o=>match o.es with
   | some es=>if o.gen=g∧o.sz=sz∧off+len≤es.length then k (aF es off len) else .fail
   | none=> .fail
 | .str s=>if sz=1 then k (s.map fun b=> .int .u8 b.toNat) else .fail
 | _=> .fail
def Em (r sz lim:Nat) (s:V) (ys:List V):Act:=
 if ys.all (aU · sz) &&decide (0 <sz) then match s with
 | .nils=>if ys.isEmpty then .done .nils else if ys.length≤lim then
     .bP r fun o=> .bM r {gen:=o.gen+1,sz,arr:=true,fz:=false,es:=some ys} (.done (.sl r (o.gen+1) 0 ys.length)) else .fail
 | .lit sz' xs=>if ys.isEmpty then .done (.lit sz' xs) else .fail
 | .sl r' g off len=> .bP r' fun o=>match o.es with
   | some es=>if o.gen=g∧o.arr=true∧o.fz=false∧o.sz=sz∧off+len≤es.length∧len+ys.length≤lim then
         if off+len+ys.length≤es.length then
          .bM r' {o with es:=some (overwrite es (off+len) ys)} (.done (.sl r' g off (len+ys.length)))
         else
          .bM r' {o with gen:=g+1,es:=some (aF es off len++ys)} (.done (.sl r' (g+1) 0 (len+ys.length)))
     else .fail
   | none=> .fail
 | _=> .fail
 else .fail
def Cy:List Nat→List V→List V
 | k::ks,c::cs=> (match k,c with
   | (k+1),.nils=> .lit (k+1) []
   | _,c=>c)::Cy ks cs
 | _,cs=>cs
def GN (ks:List Nat) (v:V):V:=match v with
 | .agg cs=> .agg (Cy ks cs)
 | .nils=> (match ks with
   | (k+1)::_=> .lit (k+1) []
   | _=> .nils)
 | v=>v
def tf (v:V):Act:=match v with
 | .sl r g off len=> .bP r fun o=>match o.es with
   | some es=>if o.gen=g then mM es fun es'=> .bP r fun o'=>if o'.gen=o.gen∧o'.es.isSome=true∧es'.all (aU · o.sz)=true then .bM r {o' with es:=some es'} (.done (.sl r g off len)) else .fail else .fail
   | none=> .fail
 | v=> .done v
def vZ:V→V→Option Bool
 | .int k a,.int k' b=>if k=k' then some (a==b) else none
 | .str a,.str b=>some (decide (a=b))
 | _,_=>none
def cj (k:V):List V→Option (Option V)
 | []=>some none
 | .tuple [k',v]::es=>match vZ k k' with
   | some true=>some (some v)
   | some false=>cj k es
   | none=>none
 | _::_=>none
def iT (k v:V):List V→Option (List V)
 | []=>some [.tuple [k,v]]
 | .tuple [k',v']::es=>match vZ k k' with
   | some true=>some (.tuple [k,v]::es)
   | some false=> (iT k v es).map (.tuple [k',v']:: ·)
   | none=>none
 | _::_=>none
def isKey (q:Option IntKind) (k:V):Bool:=match q,k with
 | some q,.int k _=>decide (k=q)
 | none,.str _=>true
 | _,_=>false
def cQ (ok:Bool) (zero:V) (es:List V) (k:V):Act:=
 match cj k es with
 | some (some v)=> .done (if ok then .tuple [v,.bool true] else v)
 | some none=> .done (if ok then .tuple [zero,.bool false] else zero)
 | none=> .fail
def Cx:List V→Option (Nat×Nat)
 | [.agg [.mp r g]]=>some (r,g)
 | _=>none
def Ji (h:List V→List V→Option (V×List V)) (r g:Nat) (aD:List V):Act:= .bP r fun o=>match o.es with
 | some es=>if o.gen=g∧o.sz=0∧o.fz=false∧V.bj aD=true∧es.all V.isTuple=true then(match h es aD with
    | some (v,es')=> .bM r {o with es:=some es'} (.done v)
    | none=> .fail) else .fail
 | none=> .fail
def dn (ks:List Nat):V→V→Option Bool
 | .agg a,.agg b=>cR ks a b
 | _,_=>none
def cG (ks:List Nat) (k:V):List V→Option (Option V)
 | []=>some none
 | .tuple [k',v]::es=>match dn ks k k' with
   | some true=>some (some v)
   | some false=>cG ks k es
   | none=>none
 | _::_=>none
def dF (ks:List Nat) (k v:V):List V→Option (List V)
 | []=>some [.tuple [k,v]]
 | .tuple [k',v']::es=>match dn ks k k' with
   | some true=>some (.tuple [k,v]::es)
   | some false=> (dF ks k v es).map (.tuple [k',v']:: ·)
   | none=>none
 | _::_=>none
def dB (ks:List Nat) (ok:Bool) (zero:V) (es:List V) (k:V):Act:=
 match cG ks k es with
 | some (some v)=> .done (if ok then .tuple [v,.bool true] else v)
 | some none=> .done (if ok then .tuple [zero,.bool false] else zero)
 | none=> .fail
def dZ (ks:List Nat) (k:V):Nat→List V→Option (Option (Nat×V))
 | _,[]=>some none
 | i,.tuple [k',v]::es=>match dn ks k k' with
   | some true=>some (some (i,v))
   | some false=>dZ ks k (i+1) es
   | none=>none
 | _,_::_=>none
def iV:List Nat→List V→Bool
 | [],[]=>true
 | 0::ks,.bool _::cs=>iV ks cs
 | 1::ks,.int .i64 _::cs=>iV ks cs
 | 2::ks,.str _::cs=>iV ks cs
 | _,_=>false
def Au (ks:List Nat):V→Bool
 | .agg cs=>iV ks cs
 | _=>false
def Eg (ks:List Nat):V→Bool
 | .tuple [k,.int .i64 _]=>Au ks k
 | _=>false
def eu (ks:List Nat) (k:V):List V→V
 | []=> .int .i64 0
 | .tuple [k',v]::es=>match dn ks k k' with
   | some true=>v
   | _=>eu ks k es
 | _::es=>eu ks k es
def kl (ks:List Nat) (o:Obj):Nat×Nat×Option (Bool× (V→V)):=(o.gen,o.sz,o.es.map fun es=> (es.all (Eg ks),fun k=>eu ks k es))
def G8 (ks:List Nat) (g:Nat) (k:V):Nat×Nat×Option (Bool× (V→V))→Act
 | (gen,sz,some (true,f))=>if gen=g∧sz=0∧Au ks k=true then .done (f k) else .fail
 | _=> .fail
def aH ( E:Env):sW→Act
 | .move x=>ev x .done
 | .pick c a b=>ev c fun| .bool true=>ev a .done| .bool false=>ev b .done| _=> .fail
 | .new r sz x=>ev x fun v=>if aU v sz &&decide (0 <sz) then .bP r fun o=> .bM r {gen:=o.gen+1,sz,arr:=false,fz:=false,es:=some [v]} (.done (.ptr r (o.gen+1) 0 0)) else .fail
 | .build cells parts=>mh parts fun ps=>match jq cells ps with
   | some cs=> .done (.agg cs)
   | none=> .fail
 | .buildSlice r sz zero n parts=>jK parts fun ps=>match dQ sz (List.replicate n zero) ps with
   | some es=>if aU zero sz &&decide (0 <sz∧n*sz≤16777216) then .bP r fun o=> .bM r {gen:=o.gen+1,sz,arr:=true,fz:=false,es:=some es} (.done (.sl r (o.gen+1) 0 n)) else .fail
   | none=> .fail
 | .td r sz=>if 0 <sz then .bP r fun o=> .bM r {gen:=o.gen+1,sz,arr:=true,fz:=false,es:=some []} (.done (.sl r (o.gen+1) 0 0)) else .fail
 | .ren r x=>ev x fun
   | .sl r1 g off len=>if r1=r then .done (.sl r1 g off len) else .bP r1 fun o=>if o.gen=g then
       .bP r fun o'=> .bM r ⟨o'.gen+1,o.sz,o.arr,o.fz,o.es⟩ (.bM r1 ⟨o.gen+1,o.sz,o.arr,o.fz,none⟩ (.done (.sl r (o'.gen+1) off len))) else .fail
   | v=> .done v
 | .load agg sz x=>ev x fun
   | .ptr r g idx off=> .bP r fun o=>match o.es with
     | some es=>if o.gen=g then match es[idx]? with
        | some e=>eC (part agg off sz e)
        | none=> .fail
       else .fail
     | none=> .fail
   | .eptr e off=>eC (part agg off sz e)
   | .epk _ _ e off=>eC (part agg off sz e)
   | _=> .fail
 | .store agg sz x v=>ev x fun
   | .ptr r g idx off=> .bP r fun o=>if o.arr
     then ev v fun v=>A0 v fun v=>ln agg sz r g idx off v
     else ev v fun v=>ln agg sz r g idx off v
   | _=> .fail
 | .nilCheck x=>ev x fun
   | .ptr r g idx off=> .done (.ptr r g idx off)
   | .eptr e off=> .done (.eptr e off)
   | .epk i z e off=> .done (.epk i z e off)
   | .fn f caps=> .done (.fn f caps)
   | .bfn f caps=> .done (.bfn f caps)
   | _=> .fail
 | .bin op x y=>ev x fun a=>ev y fun b=>eC (rZ op a b)
 | .Xh neg ks x y=>ev x fun a=>ev y fun b=>match a,b with
   | .agg aD,.agg bs=>match cR ks aD bs with
       | some b=> .done (.bool (b !=neg))
       | none=> .fail
   | _,_=> .fail
 | .un op x=>ev x fun a=>eC (unV op a)
 | .te k x=>ev x fun| .int _ n=> .done (.int k (k.wrap n)) | _=> .fail
 | .yp x=>ev x fun| .int _ n=> .done (.float (FloatKind.f64.nearest n)) | _=> .fail
 | .yq k x=>ev x fun
   | .float b=>match (FloatKind.f64.decode b).toInt .zero with
     | some n=>if k.min≤n∧n≤k.max then .done (.int k n) else .fail
     | none=> .fail
   | _=> .fail
 | .yr f caps=>evs caps fun vs=> .done (.fn f vs)
 | .slice sz x lo hi mx=>ev x fun v=>Mw lo fun l=>Mw hi fun h=>Mw mx fun m=>match v with
   | .sl r g off len=> .bP r fun o=>match o.es with
     | some es=>if o.gen=g∧o.sz=sz then
        match cK 0 l,cK len h,m with
        | some l,some h,none=>if l≤h∧off+h≤es.length then .done (.sl r g (off+l) (h - l)) else .fail
        | some l,some h',some m=>match h,cK 0 (some m) with
          | some _,some m=>if l≤h'∧h'≤m∧off+m≤es.length then .done (if m=l then .nils else .any) else .fail
          | _,_=> .fail
        | _,_,_=> .fail
       else .fail
     | none=> .fail
   | v=>eC (yc sz v l h m)
 | .fieldAddr off x=>ev x fun
   | .ptr r g idx o=> .done (.ptr r g idx (o+off))
   | .eptr e o=> .done (.eptr e (o+off))
   | .epk i z e o=> .done (.epk i z e (o+off))
   | _=> .fail
 | .indexAddr sz x i=>ev x fun v=>ev i fun i=>match v,i with
   | .sl r g off len,.int _ n=> .bP r fun o=>if 0≤n∧n<len∧o.sz=sz∧o.gen=g then .done (.ptr r g (off+n.toNat) 0) else .fail
   | .lit sz' xs,.int _ n=>if 0≤n∧sz'=sz then match xs[n.toNat]? with
       | some e=> .done (.eptr e 0)
       | none=> .fail
     else .fail
   | .litk sz' xs,.int _ n=>if 0≤n∧sz'=sz∧0 <sz then match xs[n.toNat]? with
       | some e=> .done (.epk n.toNat sz e 0)
       | none=> .fail
     else .fail
   | _,_=> .fail
 | .o9 n sz x i=>ev x fun v=>ev i fun i=>match v,i with
   | .ptr r g idx off,.int _ j=>if 0≤j∧j<n then .done (.ptr r g idx (off+j.toNat*sz)) else .fail
   | .eptr e off,.int _ j=>if 0≤j∧j<n then .done (.eptr e (off+j.toNat*sz)) else .fail
   | _,_=> .fail
 | .pb x i=>ev x fun v=>ev i fun i=>match v,i with
   | .str s,.int _ n=>if 0≤n then match s[n.toNat]? with
       | some b=> .done (.int .u8 b.toNat)
       | none=> .fail
     else .fail
   | _,_=> .fail
 | .len x=>ev x fun v=>eC (Rw v)
 | .yt x=>ev x fun| .str s=> .done (.int .i64 s.length) | _=> .fail
 | .min xs=>evs xs fun vs=>eC (oK min2 vs)
 | .max xs=>evs xs fun vs=>eC (oK max2 vs)
 | .append r sz lim s x=>ev s fun s=>ev x fun x=>content sz x fun ys=>mM ys fun ys=>
   if ys.all (aU · sz) &&decide (0 <sz) then match s with
   | .nils=>if ys.isEmpty then .done .nils else if ys.length≤lim then
       .bP r fun o=> .bM r {gen:=o.gen+1,sz,arr:=true,fz:=false,es:=some ys} (.done (.sl r (o.gen+1) 0 ys.length)) else .fail
   | .lit sz' xs=>if ys.isEmpty then .done (.lit sz' xs) else .fail
   | .sl r' g off len=> .bP r' fun o=>match o.es with
     | some es=>if o.gen=g∧o.arr=true∧o.fz=false∧o.sz=sz∧off+len≤es.length∧len+ys.length≤lim then
          if off+len+ys.length≤es.length then
           .bM r' {o with es:=some (overwrite es (off+len) ys)} (.done (.sl r' g off (len+ys.length)))
          else
           .bM r' {o with gen:=g+1,es:=some (aF es off len++ys)} (.done (.sl r' (g+1) 0 (len+ys.length)))
       else .fail
     | none=> .fail
   | _=> .fail
   else .fail
 | .clear sz zero x=>ev x fun
   | .nils=> .done (.tuple [])
   | .sl r g off len=> .bP r fun o=>match o.es with
     | some es=>if o.gen=g∧o.arr=true∧o.fz=false∧o.sz=sz∧off+len≤es.length∧aU zero sz then
        .bM r {o with es:=some (overwrite es off (List.replicate len zero))} (.done (.tuple [])) else .fail
     | none=> .fail
   | _=> .fail
 | .extract x i=>ev x fun
   | .tuple vs=>eC vs[i]?
   | _=> .fail
 | .call r bA f args=>ev f fun
   | .fn f caps=>evs args fun aD=>lh E r bA f (aD++caps)
   | .bfn f first=>evs args fun aD=>match Cx first,E.Cs f with
     | some (r',g),some h=>Ji h r' g aD
     | _,_=>lh E r bA f (first++aD)
   | _=> .fail
 | .deep x=>ev x tf
 | .A3 ks agg sz x=>ev x fun
   | .ptr r g idx off=> .bP r fun o=>match o.es with
     | some es=>if o.gen=g then match es[idx]? with
        | some e=>eC ((part agg off sz e).map (GN ks))
        | none=> .fail
       else .fail
     | none=> .fail
   | .eptr e off=>eC ((part agg off sz e).map (GN ks))
   | .epk _ _ e off=>eC ((part agg off sz e).map (GN ks))
   | _=> .fail
 | .mkMap r=> .bP r fun o=> .bM r {gen:=o.gen+1,sz:=0,arr:=false,fz:=false,es:=some []} (.done (.mp r (o.gen+1)))
 | .u5 q x k v=>ev x fun
   | .mp r g=>ev k fun k=>ev v fun v=>A0 v fun v=> .bP r fun o=>match o.es with
     | some es=>if o.gen=g∧o.sz=0∧o.fz=false∧isKey q k=true∧v.da=true then(match iT k v es with
        | some es'=> .bM r {o with es:=some es'} (.done (.tuple []))
        | none=> .fail) else .fail
     | none=> .fail
   | _=> .fail
 | .qx ks x k v=>ev x fun
   | .mp r g=>ev k fun k=>ev v fun v=>A0 v fun v=> .bP r fun o=>match o.es with
     | some es=>if o.gen=g∧o.sz=0∧o.fz=false∧(dn ks k k).isSome=true∧v.da=true then(match dF ks k v es with
        | some es'=> .bM r {o with es:=some es'} (.done (.tuple []))
        | none=> .fail) else .fail
     | none=> .fail
   | _=> .fail
 | .qy ks ok zero x k=>ev x fun x=>ev k fun k=>if (dn ks k k).isSome then(match x with
   | .mp r g=> .bP r fun o=>match o.es with
     | some es=>if o.gen=g∧o.sz=0 then dB ks ok zero es k else .fail
     | none=> .fail
   | .mlit es=>dB ks ok zero es k
   | _=> .fail) else .fail
 | .ky ks x k=>ev x fun
   | .mp r g=>ev k fun k=> .bP r fun o=>G8 ks g k (kl ks o)
   | _=> .fail
 | .kz ks x k=>ev x fun
   | .mp r g=>ev k fun k=> .bP r fun o=>match o.es with
     | some es=>if o.gen=g∧o.sz=0∧o.fz=false∧Au ks k=true∧es.all (Eg ks)=true then(match dZ ks k 0 es with
        | some (some (j,v))=> .bM r {o with es:=some es} (.done (.tuple [v,.int .i64 j]))
        | some none=> .bM r {o with es:=some (es++[.tuple [k,.int .i64 0]])} (.done (.tuple [.int .i64 0,.int .i64 es.length]))
        | none=> .fail) else .fail
     | none=> .fail
   | _=> .fail
 | .yw agg sz x v=>ev x fun
   | .ptr r g idx off=>ev v fun v=>ln agg sz r g idx off v
   | _=> .fail
 | .tg ks zero x k=>ev x fun
   | .mp r g=>ev k fun k=> .bP r fun o=>match o.es with
     | some es=>if o.gen=g∧o.sz=0∧o.fz=false∧(dn ks k k).isSome=true∧zero.da=true then(match dZ ks k 0 es with
        | some (some (j,v))=> .bM r {o with es:=some es} (.done (.tuple [v,.int .i64 j]))
        | some none=> .bM r {o with es:=some (es++[.tuple [k,zero]])} (.done (.tuple [zero,.int .i64 es.length]))
        | none=> .fail) else .fail
     | none=> .fail
   | _=> .fail
 | .th x s v=>ev x fun
   | .mp r g=>ev s fun
     | .int .i64 j=>ev v fun v=>A0 v fun v=> .bP r fun o=>match o.es with
       | some es=>if o.gen=g∧o.sz=0∧o.fz=false∧v.da=true∧0≤j then(match es[j.toNat]? with
          | some (.tuple [k',_])=> .bM r {o with es:=some (es.set j.toNat (.tuple [k',v]))} (.done (.tuple []))
          | _=> .fail) else .fail
       | none=> .fail
     | _=> .fail
   | _=> .fail
 | .ti i r sz lim s x=>ev (.tmp i) fun| .int _ j=> (ev s fun s=>ev x fun x=>content sz x fun ys=>mM ys fun ys=>Em (r+16*j.toNat) sz lim s ys) | _=> .fail
 | .yu q ok zero x k=>ev x fun x=>ev k fun k=>if isKey q k then(match x with
   | .mp r g=> .bP r fun o=>match o.es with
     | some es=>if o.gen=g∧o.sz=0 then cQ ok zero es k else .fail
     | none=> .fail
   | .mlit es=>cQ ok zero es k
   | _=> .fail) else .fail
 | .Nb x=>ev x fun v=> (match v with
   | .fn .. =>snap v fun v' rs=>dP rs (.done v')
   | _=>A0 v .done)
 | .UU neg x y=>ev x fun a=>ev y fun b=>eC ((Jg a b).map fun c=> .bool (c !=neg))
 | .mapIter r x=>ev x fun
   | .mlit es=> .bP r fun o=> .bM r {gen:=o.gen+1,sz:=0,arr:=false,fz:=false,es:=some [.mlit es]} (.done (.it r (o.gen+1)))
   | _=> .fail
 | .tj f xs=>evs xs fun vs=> .done (.bfn f vs)
 | .tk f caps=>ku caps fun vs=> .done (.fn f vs)
 | .bad=> .fail
where
 ln ( agg:Bool) (sz r g idx off:Nat) (v:V):Act:=
  .bP r fun o=>match o.es with
   | some es=>if o.gen=g∧o.fz=false then match es[idx]? with
       | some e=>match kr agg off sz e v with
         | some e'=> .bM r {o with es:=some (es.set idx e')} (.done (.tuple []))
         | none=> .fail
       | none=> .fail
     else .fail
   | none=> .fail
def cJ (E:Env) (o:bX):Act:=
 match o.guard with
 | none=>aH E o.op
 | some (t,want)=> .mY t fun
   | .bool b=>if b=want then aH E o.op else .done dE
   | .tuple []=> .done dE
   | _=> .fail
structure St where
 T:Nat→V
 O:Nat→Obj
def cU {α:Type} (f:Nat→α) (t:Nat) (v:α):Nat→α:=fun n=>if n=t then v else f n
abbrev bn:=Nat→List V→Option eL
def Act.run (C:bn):Act→St→Option (V×St)
 | .done v,σ=>some (v,σ)
 | .fail,_=>none
 | .mY t k,σ=> (k (σ.T t)).run C σ
 | .bP r k,σ=> (k (σ.O r)).run C σ
 | .bM r o k,σ=>k.run C {σ with O:=cU σ.O r o}
 | .call f aD k,σ=>match C f aD with
   | some res=> (k res).run C σ
   | none=>none
def St.put (σ:St) (dst:Option Nat) (v:V):St:=
 match dst with
 | some d=> {σ with T:=cU σ.T d v}
 | none=>σ
def dK (E:Env) (C:bn) (o:bX) (σ:St):Option St:=
 match (cJ E o).run C σ with
 | some (v,σ')=>some (σ'.put o.dst v)
 | none=>none
def iw (E:Env) (C:bn):List bX→St→Option St
 | [],σ=>some σ
 | o::os,σ=>match dK E C o σ with
   | some σ'=>iw E C os σ'
   | none=>none
inductive Loc where
 | t (n:Nat)
 | o (n:Nat)
 | m (n:Nat) (ks:List Nat)
 | e (n:Nat) (ks:List Nat)
 deriving DecidableEq
def Loc.vd:Loc→Loc→Bool
 | .t a,.t b=>Nat.beq a b
 | .o a,.o b=>Nat.beq a b
 | .o a,.m b _=>Nat.beq a b
 | .m a _,.o b=>Nat.beq a b
 | .o a,.e b _=>Nat.beq a b
 | .e a _,.o b=>Nat.beq a b
 | .e a _,.e b _=>Nat.beq a b
 | .e a ks,.m b uS=>Nat.beq a b && !decide (ks=uS)
 | .m a ks,.e b uS=>Nat.beq a b && !decide (ks=uS)
 | _,_=>false
structure eB where
 reads:List Loc
 writes:List Loc
def Act.cO (C:bn):Act→St→eB
 | .done _,_=> ⟨[],[]⟩
 | .fail,_=> ⟨[],[]⟩
 | .mY t k,σ=>let f:=(k (σ.T t)).cO C σ; ⟨.t t::f.reads,f.writes⟩
 | .bP r k,σ=>let f:=(k (σ.O r)).cO C σ; ⟨.o r::f.reads,f.writes⟩
 | .bM r o k,σ=>let f:=k.cO C {σ with O:=cU σ.O r o}; ⟨f.reads,.o r::f.writes⟩
 | .call f aD k,σ=>match C f aD with
   | some res=> (k res).cO C σ
   | none=> ⟨[],[]⟩
def asM (ks:List Nat):Loc→Loc
 | .o n=> .m n ks
 | l=>l
def asE (ks:List Nat):Loc→Loc
 | .o n=> .e n ks
 | l=>l
def eM (o:sW) (f:eB):eB:=match o with
 | .ky ks _ _=> ⟨f.reads.map (asM ks),f.writes⟩
 | .kz ks _ _=> ⟨f.reads,f.writes.map (asE ks)⟩
 | _=>f
def cV (E:Env) (C:bn) (o:bX) (σ:St):eB:=
 let f:=(cJ E o).cO C σ
 eM o.op ⟨f.reads,(match o.dst with| some d=> [.t d] | none=> [])++f.writes⟩
def meets (a b:List Loc):Bool:=a.any fun x=>b.any x.vd
def eB.tw (a b:eB):Bool:=meets a.writes b.writes || meets a.writes b.reads || meets a.reads b.writes
def Xj (x:Nat) (l:List Nat):List Nat:=if l.contains x then l else x::l
def closure (before:List (List Nat)) (pre:List Nat):List Nat:=(pre++pre.flatMap fun i=>before.getD i []).foldr Xj []
def fits (b9:List eB) (wait:List Nat) (f:eB):Nat→Bool
 | 0=>true
 | i+1=> (wait.contains i || !(b9.getD i ⟨[],[]⟩).tw f) &&fits b9 wait f i
def eo (E:Env) (C:bn):List bX→List eB→List (List Nat)→St→Option St
 | [],_,_,σ=>some σ
 | o::os,b9,before,σ=>
   let f:=cV E C o σ
   let wait:=closure before o.pre
   if fits b9 wait f b9.length &&o.pre.all (· <b9.length) then
    match dK E C o σ with
    | some σ'=>eo E C os (b9++[f]) (before++[wait]) σ'
    | none=>none
   else none
inductive aP where
 | normal
 | exit (id:Nat)
 | ret
def bu (σ:St):aT→V
 | .tmp t=>σ.T t
 | .const v=>v
mutual
def V.beq:V→V→Bool
 | .bool a,.bool b=>a==b
 | .int k n,.int k' n'=>decide (k=k') &&decide (n=n')
 | .float a,.float b=>Nat.beq a b
 | .str a,.str b=>decide (a=b)
 | .agg a,.agg b=>V.oS a b
 | .tuple a,.tuple b=>V.oS a b
 | .nilp,.nilp=>true
 | .nilfn,.nilfn=>true
 | .nili,.nili=>true
 | .fn f a,.fn g b=>Nat.beq f g &&V.oS a b
 | .bfn f a,.bfn g b=>Nat.beq f g &&V.oS a b
 | .iface t a,.iface t' b=>Nat.beq t t' &&V.beq a b
 | .nils,.nils=>true
 | .lit s a,.lit s' b=>Nat.beq s s' &&V.oS a b
 | .own s a,.own s' b=>Nat.beq s s' &&V.oS a b
 | .sl a b c d,.sl a' b' c' d'=>Nat.beq a a' && (Nat.beq b b' && (Nat.beq c c' &&Nat.beq d d'))
 | .ptr a b c d,.ptr a' b' c' d'=>Nat.beq a a' && (Nat.beq b b' && (Nat.beq c c' &&Nat.beq d d'))
 | .eptr e a,.eptr e' a'=>V.beq e e' &&Nat.beq a a'
 | .mp a b,.mp a' b'=>Nat.beq a a' &&Nat.beq b b'
 | .mlit a,.mlit b=>V.oS a b
 | .it a b,.it a' b'=>Nat.beq a a' &&Nat.beq b b'
 | .litk s a,.litk s' b=>Nat.beq s s' &&V.oS a b
 | .epk a b e c,.epk a' b' e' c'=>Nat.beq a a' && (Nat.beq b b' && (V.beq e e' &&Nat.beq c c'))
 | .any,.any=>true
 | .msl s a b c,.msl s' a' b' c'=>Nat.beq s s' && (V.oS a a' && (Nat.beq b b' &&Nat.beq c c'))
 | .mptr s a b c,.mptr s' a' b' c'=>Nat.beq s s' && (V.oS a a' && (Nat.beq b b' &&Nat.beq c c'))
 | _,_=>false
def V.oS:List V→List V→Bool
 | [],[]=>true
 | a::aD,b::bs=>V.beq a b &&V.oS aD bs
 | _,_=>false
end
def Nj:Option (List V)→Option (List V)→Bool
 | none,none=>true
 | some a,some b=>V.oS a b
 | _,_=>false
def Obj.beq (a b:Obj):Bool:=Nat.beq a.gen b.gen && (Nat.beq a.sz b.sz && ((a.arr==b.arr) && ((a.fz==b.fz) &&Nj a.es b.es)))
def nW {α:Type} (x:α):List α→List (List α)
 | []=> [[x]]
 | y::ys=> (x::y::ys):: (nW x ys).map (y:: ·)
def perms {α:Type}:List α→List (List α)
 | []=> [[]]
 | x::xs=> (perms xs).flatMap (nW x)
def xd (it r g:Nat) (σ:St):Bool:=match σ.T it with
 | .it r' g'=>Nat.beq r' r && (Nat.beq g' g &&Nat.beq (σ.O r).gen g)
 | _=>false
def runK (rec:aS→St→Option (aP×St)) (it r g nx ne id:Nat) (ahead body last:aS):List V→St→Option St
 | [],σ=>  if xd it r g σ then(match rec ahead (σ.put (some nx) (.tuple [.bool false])) with
     | some (.exit lW,σ')=>if lW=id then(match rec last σ' with
          | some (.normal,σ'')=>some σ''
          | _=>none) else none
     | _=>none) else none
 | e::p,σ=>match e with
   | .tuple [k,v]=>if xd it r g σ then(match rec ahead (σ.put (some nx) (.tuple [.bool true,k,v])) with
      |   some (.normal,σ1)=>if xd it r g σ1 then(match rec body (σ1.put (some ne) (.tuple [k,v])) with
          | some (.normal,σ')=>runK rec it r g nx ne id ahead body last p σ'
          | _=>none) else none
      | _=>none) else none
   | _=>none
def kB {α β:Type} (f:α→Option β):List α→Option (List β)
 | []=>some []
 | x::xs=>match f x,kB f xs with
   | some y,some ys=>some (y::ys)
   | _,_=>none
def agree (kT kO:List Nat) (σ1 σ:St):Bool:=kT.all (fun t=>V.beq (σ.T t) (σ1.T t)) &&kO.all fun r=>Obj.beq (σ.O r) (σ1.O r)
def forget (kT kO:List Nat) (σ1:St) (σs:List St):St:=
 {T:=fun t=>if kT.contains t then σ1.T t else .any
  O:=fun r=>if kO.contains r then σ1.O r else {gen:=(σ1::σs).foldr (fun σ m=>max (σ.O r).gen m) 0+1,sz:=0,arr:=false,fz:=false,es:=none}}
def jr (T:Nat→V) (ps:List Nat) (x:List V):Nat→V:=(ps.zip x).foldl (fun T p=>cU T p.1 p.2) T
def tp (rec:aS→St→Option (aP×St)) (ps:List Nat) (X6 body:aS) (T:Nat→V):List (List V)→(Nat→Obj)→Option (aP×St)
 | [],O=>some (.normal,⟨T,O⟩)
 | x::xs,O=>match rec X6 ⟨jr T ps x,O⟩ with
   | some (.normal,σ1)=>match rec body σ1 with
     | some (.normal,σ2)=>tp rec ps X6 body T xs σ2.O
     | some (e,σ2)=>some (e,⟨T,σ2.O⟩)
     | none=>none
   | _=>none
def aC ( E:Env) (C:bn) (rec:aS→St→Option (aP×St)):aS→St→Option (aP×St)
 | .skip,σ=>some (.normal,σ)
 | .region ops,σ=> (iw E C ops σ).map fun σ=> (.normal,σ)
 | .drawn ops,σ=> (eo E C ops [] [] σ).map fun σ=> (.normal,σ)
 | .seq a b,σ=>match rec a σ with
   | some (.normal,σ')=>rec b σ'
   | r=>r
 | .cond c a b,σ=>match bu σ c with
   | .bool true=>rec a σ
   | .bool false=>rec b σ
   | _=>none
 | .block id b,σ=>match rec b σ with
   | some (.exit lW,σ')=>if lW=id then some (.normal,σ') else some (.exit lW,σ')
   | r=>r
 | .loop b,σ=>match rec b σ with
   | some (.normal,σ')=>rec (.loop b) σ'
   | r=>r
 | .exit id,σ=>some (.exit id,σ)
 | .ret,σ=>some (.ret,σ)
 | .scope b,σ=>rec b σ
 | .bad,_=>none
 | .keys it nx ne id kT kO ahead body last,σ=>match σ.T it with
   | .it r g=> (match (σ.O r).es with
     | some [.mlit es]=>if (σ.O r).gen=g∧(σ.O r).sz=0∧(σ.O r).fz=false then
        (match kB (fun p=>runK rec it r g nx ne id ahead body last p ⟨σ.T,cU σ.O r ⟨g,0,false,false,none⟩⟩) (perms es) with
        | some (σ1::σs)=>if σs.all (agree kT kO σ1) then some (.normal,forget kT kO σ1 σs) else none
        | _=>none) else none
     | _=>none)
   | _=>none
 | .nN x ps X6 body,σ=>match bu σ x with
   | .fn g caps=>match E.iter g caps with
     | some xs=>if xs.all (fun x=>Nat.beq x.length ps.length)=true then tp rec ps X6 body σ.T xs σ.O else none
     | none=>none
   | _=>none
def bE:Obj:={gen:=0,sz:=0,arr:=false,fz:=false,es:=none}
def enter (args:List V):St:=
 {T:=fun t=>match args[t]? with
   | some (.msl _ _ off len)=> .sl t 0 off len
   | some (.mptr _ _ idx off)=> .ptr t 0 idx off
   | some v=>v
   | none=>dE
  O:=fun r=>match args[r]? with
   | some (.msl sz es _ _)=> {gen:=0,sz,arr:=true,fz:=false,es:=some es}
   | some (.mptr sz es _ _)=> {gen:=0,sz,arr:=false,fz:=false,es:=some es}
   | _=>bE}
def cz (n:Nat) (σ:St) (c:V):Option (V×List Nat):=
 match c with
 | .sl r g off len=>match (σ.O r).es with
   | some es=>if (σ.O r).gen=g∧off+len≤es.length∧(σ.O r).arr=true∧V.ak (aF es off len)=true then
      if r<n then some (.sl r g off len,[r])
      else if (σ.O r).fz then some (.lit (σ.O r).sz (aF es off len),[]) else some (.own (σ.O r).sz (aF es off len),[r])
     else none
   | none=>none
 | c=>if c.au then some (c,[]) else none
def cg (n:Nat) (σ:St):List V→Option (List V×List Nat)
 | []=>some ([],[])
 | c::cs=>match cz n σ c,cg n σ cs with
   | some (c',r),some (cP,rs)=>some (c'::cP,r++rs)
   | _,_=>none
def dH (n:Nat) (σ:St) (v:V):Option (V×List Nat):=
 if v.au then some (v,[]) else
 match v with
 | .agg cs=>match cg n σ cs with
   | some (cP,rs)=>some (.agg cP,rs)
   | none=>none
 | .fn f cs=>match cg n σ cs with
   | some (cP,rs)=>if V.ak cP then some (.fn f cP,rs) else none
   | none=>none
 | v=>cz n σ v
def dp (n:Nat) (σ:St):List V→Option (List V×List Nat)
 | []=>some ([],[])
 | c::cs=>match dH n σ c,dp n σ cs with
   | some (c',r),some (cP,rs)=>some (c'::cP,r++rs)
   | _,_=>none
def lr ( σ:St):sU→Option V
 | .tmp t=>some (σ.T t)
 | .cell t agg sz=>match σ.T t with
   | .ptr r g idx off=>match (σ.O r).es with
     | some es=>if (σ.O r).gen=g then match es[idx]? with
        | some e=>part agg off sz e
        | none=>none
       else none
     | none=>none
   | _=>none
def ek (σ:St):List sU→Option (List V)
 | []=>some []
 | r::rs=>match lr σ r,ek σ rs with
   | some v,some vs=>some (v::vs)
   | _,_=>none
def cI (O:Nat→Obj):Nat→List V→Option (List (Nat×List V))
 | _,[]=>some []
 | i,.msl sz .. ::aD| i,.mptr sz .. ::aD=>match (O i).es,cI O (i+1) aD with
   | some es,some outs=>if (O i).fz=false∧(O i).sz=sz∧V.ak es=true then some (((O i).gen,es)::outs) else none
   | _,_=>none
 | i,_::aD=>cI O (i+1) aD
mutual
def V.erase:V→V
 | .litk sz xs=> .lit sz (V.erases xs)
 | .epk _ _ e off=> .eptr (V.erase e) off
 | .agg cs=> .agg (V.erases cs)
 | .tuple cs=> .tuple (V.erases cs)
 | .fn f cs=> .fn f (V.erases cs)
 | .bfn f cs=> .bfn f (V.erases cs)
 | .iface t v=> .iface t (V.erase v)
 | .lit sz xs=> .lit sz (V.erases xs)
 | .own sz xs=> .own sz (V.erases xs)
 | .eptr e off=> .eptr (V.erase e) off
 | .mlit es=> .mlit (V.erases es)
 | .msl sz es off len=> .msl sz es off len
 | .mptr sz es idx off=> .mptr sz es idx off
 | .bool b=> .bool b
 | .int k n=> .int k n
 | .float b=> .float b
 | .str s=> .str s
 | .nilp=> .nilp
 | .nilfn=> .nilfn
 | .nili=> .nili
 | .nils=> .nils
 | .sl r g off len=> .sl r g off len
 | .ptr r g idx off=> .ptr r g idx off
 | .mp r g=> .mp r g
 | .it r g=> .it r g
 | .any=> .any
def V.erases:List V→List V
 | []=> []
 | v::vs=>V.erase v::V.erases vs
end
def yy (v:V):V:=match v with
 | .lit sz xs=> .litk sz xs
 | v=>v
def En (c:Nat) (v:V):V:=match v with
 | .agg cs=> .agg (cs.modify c yy)
 | v=>v
def cC (p:Nat×Nat) (args:List V):List V:=(V.erases args).modify p.1 (En p.2)
def leave (af:aM) (args:List V) (σ:St):Option eL:=
 match ek σ af.results,cI σ.O 0 args with
 | some vs,some outs=>match dp args.length σ vs with
   | some ([v],rs)=>if distinct rs then some ⟨v,outs⟩ else none
   | some (vs,rs)=>if distinct rs then some ⟨.tuple vs,outs⟩ else none
   | none=>none
 | _,_=>none
def eZ ( E:Env) (rec:aS→St→Option (aP×St)):bn:=fun f args=>
 match E.ext f args with
 | some r=>some r
 | none=>match E.fn f with
   | some af=>if args.length=af.nparams then match af.tag with
      | none=> (match rec af.body (enter args) with
        | some (.normal,σ) | some (.ret,σ)=>leave af args σ
        | _=>none)
      | some p=>if V.ak args=true then(match rec af.body (enter (cC p args)) with
        | some (.normal,σ) | some (.ret,σ)=> (leave af (cC p args) σ).map fun res=> ⟨res.val.erase,[]⟩
        | _=>none) else none
     else none
   | none=>none
def dm (E:Env) (rec:aS→St→Option (aP×St)):bn:=fun f args=>
 match E.hyb f with
 | some h=>h (eZ E rec) args
 | none=>eZ E rec f args
def exec (E:Env):Nat→aS→St→Option (aP×St)
 | 0=>fun _ _=>none
 | n+1=>aC E (dm E (exec E n)) (exec E n)
def call (E:Env) (n:Nat):bn:=dm E (exec E n)
end Go.AM
namespace Go.AM
mutual
theorem V.beq_eq: ∀ {a b:V},V.beq a b=true→a=b
 | .bool _,b,h| .int ..,b,h| .float _,b,h| .str _,b,h| .nilp,b,h| .nilfn,b,h| .nili,b,h| .nils,b,h| .any,b,h=>by
   cases b<;>simp_all[V.beq]
 | .sl ..,b,h| .ptr ..,b,h| .mp ..,b,h| .it ..,b,h=>by
   cases b<;>simp_all[V.beq]
 | .msl s aD o l,b,h=>by
   cases b<;>simp only[V.beq,af2,ahe,reduceCtorEq,aga] at h
   rw[h.1,V.ik h.2.1,h.2.2.1,h.2.2.2]
 | .mptr s aD o l,b,h=>by
   cases b<;>simp only[V.beq,af2,ahe,reduceCtorEq,aga] at h
   rw[h.1,V.ik h.2.1,h.2.2.1,h.2.2.2]
 | .agg aD,b,h=>by
   cases b<;>simp only[V.beq,reduceCtorEq,aga] at h
   rw[V.ik h]
 | .tuple aD,b,h=>by
   cases b<;>simp only[V.beq,reduceCtorEq,aga] at h
   rw[V.ik h]
 | .mlit aD,b,h=>by
   cases b<;>simp only[V.beq,reduceCtorEq,aga] at h
   rw[V.ik h]
 | .bfn f aD,b,h=>by
   cases b<;>simp only[V.beq,af2,ahe,reduceCtorEq,aga] at h
   rw[h.1,V.ik h.2]
 | .fn f aD,b,h=>by
   cases b<;>simp only[V.beq,af2,ahe,reduceCtorEq,aga] at h
   rw[h.1,V.ik h.2]
 | .iface t a,b,h=>by
   cases b<;>simp only[V.beq,af2,ahe,reduceCtorEq,aga] at h
   rw[h.1,V.beq_eq h.2]
 | .lit s aD,b,h=>by
   cases b<;>simp only[V.beq,af2,ahe,reduceCtorEq,aga] at h
   rw[h.1,V.ik h.2]
 | .litk s aD,b,h=>by
   cases b<;>simp only[V.beq,af2,ahe,reduceCtorEq,aga] at h
   rw[h.1,V.ik h.2]
 | .own s aD,b,h=>by
   cases b<;>simp only[V.beq,af2,ahe,reduceCtorEq,aga] at h
   rw[h.1,V.ik h.2]
 | .eptr e o,b,h=>by
   cases b<;>simp only[V.beq,af2,ahe,reduceCtorEq,aga] at h
   rw[h.2,V.beq_eq h.1]
 | .epk i z e o,b,h=>by
   cases b<;>simp only[V.beq,af2,ahe,reduceCtorEq,aga] at h
   rw[h.1,h.2.1,V.beq_eq h.2.2.1,h.2.2.2]
theorem V.ik: ∀ {a b:List V},V.oS a b=true→a=b
 | [],[],_=>rfl
 | [],_::_,h=>by simp[V.oS] at h
 | _::_,[],h=>by simp[V.oS] at h
 | a::aD,b::bs,h=>by
   simp only[V.oS,af2] at h
   rw[V.beq_eq h.1,V.ik h.2]
end
mutual
theorem V.lq: ∀ (a:V),V.beq a a=true
 | .bool _| .int .. | .float _| .str _| .nilp| .nilfn| .nili| .nils| .any| .sl .. | .ptr .. | .mp .. | .it .. =>by simp[V.beq]
 | .agg aD| .tuple aD| .mlit aD=>by simp only[V.beq];exact V.nn aD
 | .fn f aD| .bfn f aD| .lit f aD| .litk f aD| .own f aD=>by
   simp only[V.beq,Nat.beq_refl,ahz]
   exact V.nn aD
 | .msl f aD _ _| .mptr f aD _ _=>by
   simp only[V.beq,Nat.beq_refl,ahz,agB]
   exact V.nn aD
 | .iface t a=>by
   simp only[V.beq,Nat.beq_refl,ahz]
   exact V.lq a
 | .eptr e o=>by
   simp only[V.beq,Nat.beq_refl,agB]
   exact V.lq e
 | .epk i z e o=>by
   simp only[V.beq,Nat.beq_refl,ahz,agB]
   exact V.lq e
theorem V.nn: ∀ (a:List V),V.oS a a=true
 | []=>rfl
 | a::aD=>by simp only[V.oS,V.lq a,V.nn aD,agE]
end
theorem Obj.beq_eq {a b:Obj} (h:Obj.beq a b=true):a=b:=by
 obtain⟨g,s,r,f,es⟩:=a
 obtain⟨g',s',r',f',es'⟩:=b
 simp only[Obj.beq,af2,ahe,beq_iff_eq] at h
 obtain⟨rfl,rfl,rfl,rfl,h⟩:=h
 congr 1
 unfold Nj at h
 split at h
 ·rfl
 ·rw[V.ik h]
 ·simp at h
theorem Obj.lq (a:Obj):Obj.beq a a=true:=by
 obtain⟨g,s,r,f,es⟩:=a
 simp only[Obj.beq,Nat.beq_refl,beq_self_eq_true,ahz]
 unfold Nj
 cases es with
 | none=>rfl
 | some es=>exact V.nn es
section
variable {α β:Type}
theorem yz {x:α}: ∀ {l p:List α},p ∈ nW x l→p.Perm (x::l)
 | [],p,h=>by simp[nW] at h;subst h;exact .refl _
 | y::ys,p,h=>by
   simp only[nW,af7,agk] at h
   rcases h with rfl| ⟨q,hq,rfl⟩
   ·exact .refl _
   ·exact((yz hq).cons y).trans (.swap x y ys)
theorem yA {x:α}: ∀ {a b:List α},a++x::b ∈ nW x (a++b)
 | [],[]=>by simp[nW]
 | [],y::ys=>by simp[nW]
 | y::a,b=>by
   simp only[ags,nW,af7,agk]
   exact .inr ⟨_,yA,rfl⟩
theorem vX: ∀ {l p:List α},p ∈ perms l→p.Perm l
 | [],p,h=>by simp[perms] at h;subst h;exact .refl _
 | x::xs,p,h=>by
   simp only[perms,List.mem_flatMap] at h
   obtain⟨q,hq,hp⟩:=h
   exact(yz hp).trans ((vX hq).cons x)
theorem pc: ∀ {l p:List α},p.Perm l→p ∈ perms l
 | [],p,h=>by rw[h.eq_nil];simp[perms]
 | x::xs,p,h=>by
   obtain⟨a,b,rfl⟩:=List.append_of_mem (h.mem_iff.2 afU:x ∈ p)
   have h': (a++b).Perm xs:=List.Perm.cons_inv (List.perm_middle.symm.trans h)
   simp only[perms,List.mem_flatMap]
   exact⟨a++b,pc h',yA⟩
theorem v7 {f:α→Option β}: ∀ {l:List α} {ys:List β},kB f l=some ys→ ∀x ∈ l,∃y ∈ ys,f x=some y
 | [],ys,_,x,hx=>by simp at hx
 | a::l,ys,h,x,hx=>by
   simp only[kB] at h
   split at h
   ·rename_i y ys' h1 h2
    injection h with h;subst h
    rcases af7.1 hx with rfl| hx
    ·exact⟨y,afU,h1⟩
    ·obtain⟨z,hz,e⟩:=v7 h2 x hx
     exact⟨z,by simp[hz],e⟩
   ·simp at h
theorem nO {f f':α→Option β} (h: ∀x y,f x=some y→f' x=some y): ∀ {l:List α} {ys:List β},kB f l=some ys→kB f' l=some ys
 | [],ys,e=>e
 | a::l,ys,e=>by
   simp only[kB] at e ⊢
   split at e
   ·rename_i y ys' h1 h2
    rw[h _ _ h1,nO h h2];exact e
   ·simp at e
theorem yx {f:Nat→α→Option β} (hm: ∀n m x y,n≤m→f n x=some y→f m x=some y) {P:β→Prop}: ∀ {l:List α},(∀x ∈ l,∃n y,f n x=some y∧P y)→ ∃n ys,kB (f n) l=some ys∧ys.length=l.length∧ ∀y ∈ ys,P y
 | [],_=> ⟨0,[],rfl,rfl,afU⟩
 | a::l,h=>by
   obtain⟨n1,y,h1,h2⟩:=h a afU
   obtain⟨n2,ys,h3,h4,h5⟩:=yx hm (l:=l) fun x hx=>h x (by simp[hx])
   refine⟨max n1 n2,y::ys,?_,by simp[h4],?_⟩
   ·have e1:=hm n1 (max n1 n2) a y (agw ..) h1
    have e2:=nO (f:=f n2) (f':=f (max n1 n2)) (fun x y h=>hm n2 _ x y (ago ..) h) h3
    simp only[kB,e1,e2]
   ·intro z hz
    rcases af7.1 hz with rfl| hz
    ·exact h2
    ·exact h5 z hz
end
theorem qw {r r':aS→St→Option (aP×St)} (h: ∀c σ x,r c σ=some x→r' c σ=some x) {it ri g nx ne id:Nat} {ahead body last:aS}: ∀ {p:List V} {σ σ':St},runK r it ri g nx ne id ahead body last p σ=some σ'→runK r' it ri g nx ne id ahead body last p σ=some σ'
 | [],σ,σ',e=>by
   simp only[runK] at e ⊢
   split at e
   · rename_i hi
     rw[if_pos hi]
     split at e
     ·rename_i lW σ1 h1
      rw[h _ _ _ h1]
      simp only
      split at e
      ·rename_i Q0
       rw[if_pos Q0]
       split at e
       ·rename_i σ2 h2
        rw[h _ _ _ h2];exact e
       ·simp at e
      ·simp at e
     ·simp at e
   ·simp at e
 | x::p,σ,σ',e=>by
   simp only[runK] at e ⊢
   split at e
   · split at e
     ·rename_i hi
      rw[if_pos hi]
      split at e
      ·rename_i σ1 h1
       rw[h _ _ _ h1]
       simp only
       split at e
       ·rename_i qA
        rw[if_pos qA]
        split at e
        ·rename_i σ2 h2
         rw[h _ _ _ h2]
         exact qw h e
        ·simp at e
       ·simp at e
      ·simp at e
     ·simp at e
   ·simp at e
theorem uT {r r':aS→St→Option (aP×St)} (h: ∀c σ x,r c σ=some x→r' c σ=some x) {ps:List Nat} {a b:aS} {T:Nat→V}: ∀ {xs:List (List V)} {O:Nat→Obj} {y},tp r ps a b T xs O=some y→tp r' ps a b T xs O=some y
 | [],O,y,e=>by simpa [tp] using e
 | x::xs,O,y,e=>by
   simp only[tp] at e ⊢
   split at e
   ·rename_i σ1 h1
    rw[h _ _ _ h1]
    simp only
    split at e
    ·rename_i σ2 h2
     rw[h _ _ _ h2];exact uT h e
    ·rename_i e2 σ2 hn h2
     rw[h _ _ _ h2]
     simp only
     cases e2 with
     | normal=>exact absurd rfl (hn ·)
     | exit id=>exact e
     | ret=>exact e
    ·simp at e
   ·simp at e
theorem tx {α:Type} (f:α→Nat): ∀ {l:List α} {x:α},x ∈ l→f x≤l.foldr (fun x m=>max (f x) m) 0
 | a::l,x,h=>by
   simp only[List.foldr_cons]
   rcases af7.1 h with rfl| h
   ·exact agw ..
   ·exact agm (tx f h) (ago ..)
end Go.AM
