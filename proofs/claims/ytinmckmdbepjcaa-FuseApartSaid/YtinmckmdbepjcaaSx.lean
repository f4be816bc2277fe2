/-
  Texts of the proof, joined by program: AmSortX. Own work.
-/
import Derived.Test.YtinmckmdbepjcaaOpsC
import Derived.Test.YtinmckmdbepjcaaBase
import Derived.Shelf.SortG.Plain
import Derived.Shelf.SortG.SortNone
set_option linter.unusedSimpArgs false
set_option linter.unusedVariables false
namespace Go.AM
open Go Go.RowKit Go.Sort
section
variable {X:TrEnv} {F:FuncId} {fn:Func}
theorem DW {Y:Ctx} {μ:Mu} (ho:br Y μ) {α:Type} [Inhabited α] {enc:α→Value} (r:Nat) {es es':List V} {c:Array Value} {T:TypeId} {d:Array α} (bQ: (μ.O r).es=some es) (gK: (μ.O r).fz=false) (cP: (μ.O r).sz=1)
  (hb:μ.w.heap[(μ.φ r).cO]? =some (.cells c T (0,0))) (jY: (μ.φ r).cap≠0) (oN: (μ.φ r).base+(μ.φ r).cap≤c.size) (dc: ∀x,(enc x).cells= #[enc x])
  (hlen:es'.length=d.size) (hd:d.size≤(μ.φ r).cap) (lP:es'.all (aQ · 1)=true) (bV:ak Y μ es' (d.toList.map enc)) (n:Nat) (os:Array Go.Obj):
  Le μ ⟨grow (putRow enc (Go.Sort.ahead μ.w n) (μ.φ r).cO (μ.φ r).base d) os,μ.φ,dm μ.O r {μ.O r with es:=some es'}⟩∧br Y ⟨grow (putRow enc (Go.Sort.ahead μ.w n) (μ.φ r).cO (μ.φ r).base d) os,μ.φ,dm μ.O r {μ.O r with es:=some es'}⟩:=by
 have h1:=kM ho r bQ gK hb jY (c':=putCells enc (μ.φ r).base d c) (by simp[putCells]) (μ.O r).gen (μ.φ r).base (μ.φ r).cap (es':=es') (vs':=d.toList.map enc) (.inl ⟨rfl,rfl,rfl⟩) jY (by omega) (by rw[cP];exact lP) bV (by rw[cP];omega) (by
  intro i v hv
  rw[List.getElem?_map,Option.map_eq_some_iff] at hv
  obtain⟨x,hx,rfl⟩:=hv
  rw[dc,cP]
  refine⟨rfl,fun j y hy=> ?_⟩
  have hi:i<d.size:=by
    have:=(List.getElem?_eq_some_iff.1 hx).1
    simpa using this
  have hj:j=0:=by
    rcases Nat.eq_zero_or_pos j with h| h
    · exact h
    · rw[Array.getElem?_eq_none (by simp;omega)] at hy;simp at hy
  subst hj
  simp at hy
  subst hy
  have hk: (μ.φ r).base+i*1+0 <c.size:=by omega
  have Dl:d[i]! =x:=by
    have h2:d[i]? =some x:=by simpa using hx
    have h3:=Array.getElem?_eq_some_iff.1 h2
    obtain⟨h4,h5⟩:=h3
    rw[getElem!_pos d i h4];exact h5
  simp only[putCells,Array.getElem?_mapIdx,Array.getElem?_eq_getElem hk,Option.map_some]
  rw[if_pos ⟨by omega,by omega⟩,show (μ.φ r).base+i*1+0 - (μ.φ r).base=i by omega,Dl])
 have e0: (⟨(μ.φ r).cO,(μ.φ r).base,(μ.φ r).cap⟩:Row)=μ.φ r:=rfl
 have e1:dm μ.φ r (μ.φ r)=μ.φ:=by funext k;unfold dm;split<;>simp_all
 rw[e0,e1] at h1
 obtain⟨le,BX⟩:=h1
 have hw:putRow enc (Go.Sort.ahead μ.w n) (μ.φ r).cO (μ.φ r).base d={μ.w.setRow (μ.φ r).cO (putCells enc (μ.φ r).base d c) with drawn:=μ.w.drawn+n}:=by
  unfold putRow mapBlock World.setRow Go.Sort.ahead
  congr 1
  apply Array.ext_getElem?
  intro k
  simp only[Array.getElem?_modify]
  by_cases hk: (μ.φ r).cO=k
  · subst hk
    simp only[if_pos rfl,hb,Option.map_some,onCells]
  · simp only[if_neg hk]
 rw[hw]
 have hold: ∀b,b<μ.w.heap.size→(grow {μ.w.setRow (μ.φ r).cO (putCells enc (μ.φ r).base d c) with drawn:=μ.w.drawn+n} os).heap[b]? =(μ.w.setRow (μ.φ r).cO (putCells enc (μ.φ r).base d c)).heap[b]? :=fun b pR=>by
  have hs:b< (μ.w.setRow (μ.φ r).cO (putCells enc (μ.φ r).base d c)).heap.size:=by simpa [World.setRow] using pR
  simp only[grow]
  rw[Array.getElem?_append_left hs]
 have qG: (μ.w.setRow (μ.φ r).cO (putCells enc (μ.φ r).base d c)).heap.size=μ.w.heap.size:=by simp[World.setRow]
 have GH:Le ⟨μ.w.setRow (μ.φ r).cO (putCells enc (μ.φ r).base d c),μ.φ,dm μ.O r {μ.O r with es:=some es'}⟩ ⟨grow {μ.w.setRow (μ.φ r).cO (putCells enc (μ.φ r).base d c) with drawn:=μ.w.drawn+n} os,μ.φ,dm μ.O r {μ.O r with es:=some es'}⟩:=
  ⟨by simp[grow],fun b pR vm=> ⟨hold b (by rw[←qG];exact pR),vm⟩,fun _=>Nat.le_refl _,fun _ _=> ⟨rfl,rfl⟩,rfl,rfl,rfl,
    fun a ha=>by simp only[World.frozen?];rw[hold a.block (by rw[←qG];exact ha)]⟩
 refine⟨le.trans GH,BX.uA GH rfl rfl fun b pR=>hold b (by rw[←qG];exact pR)⟩
theorem zC {α:Type} [Inhabited α] {enc:α→Value} {tv:α→V} {le:α→α→Bool} (xr: ∀x,(enc x).cells= #[enc x]) (sO: ∀x,(tv x).aE=true) (Mp: ∀x,aQ (tv x) 1=true)
   (bV: ∀ (Y:Ctx) (μ:Mu) x v,al Y μ (tv x) v↔v=enc x) (ra:X.P.funcs[F]? =some fn) (mw: (fn.name== "runtime.NumGoroutine")=false) {cd:Code} (iJ:fn.body=some cd)
   (qP: ∀a cap w,Calls X.P F #[.slice a 0 cap] w fun e w'=>e= .returned (.tuple #[])∧w'=w)
   (QC: ∀cO off cap (zs:List α) w,Holds enc w cO off zs.toArray→cO<w.heap.size→zs.length< 4611686018427387904→Calls X.P F #[.slice (some ⟨cO,off,none⟩) zs.length cap] w fun e w'=>
     e= .returned (.tuple #[])∧ ∃n os,w'=grow (putRow enc (Go.Sort.ahead w n) cO off (mg le zs).toArray) os)
   {es:List V} {zs:List α} (bQ:es=zs.map tv) (hbig:zs.length< 4611686018427387904):cI X F [.msl 1 es 0 es.length] ⟨.tuple [],[(0,(mg le zs).map tv)]⟩:=by
 have QD: ∀ (Y:Ctx) (μ:Mu) (zs:List α) (vs:List Value),ak Y μ (zs.map tv) vs↔vs=zs.map enc:=by
   intro Y μ zs
   induction zs with
   | nil=>intro vs;cases vs<;>simp[ak]
   | cons z zs ih=>
     intro vs
     cases vs with
     | nil=>simp[ak]
     | cons v vs=>simp only[List.map_cons,ak,bV,ih,List.cons.injEq]
 have Mq: ∀zs:List α,V.aq (zs.map tv)=true:=by
   intro zs
   induction zs with
   | nil=>rfl
   | cons z zs ih=>simp only[List.map_cons,V.aq,sO,ih,Bool.and_self]
 intro B K w φ0 vals hl hv ho
 match vals,hl with
 | [v],_=>
   have h0:=hv 0 v rfl
   have e0: (enter [V.msl 1 es 0 es.length]).T 0= .sl 0 0 0 es.length:=rfl
   have eO: (enter [V.msl 1 es 0 es.length]).O 0={gen:=0,sz:=1,arr:=true,fz:=false,es:=some es}:=rfl
   rw[e0] at h0
   simp only[al] at h0
   obtain⟨a,cap,rfl,ed,_,cK⟩:=h0
   obtain⟨_,h1,h2⟩:=cK (by rw[eO])
   have Mk: (callFunc F [Value.slice a es.length cap].toArray).run X.P w= .ok (.enter F [Value.slice a es.length cap].toArray) w:=by
     simp[callFunc,Sem.run_bind,program,Sem.run,ra,iJ]
     simpa using mw
   rw[Mk]
   simp only[vD]
   have FC:es.length=zs.length:=by rw[bQ];simp
   have iV: [Value.slice a es.length cap].toArray= #[.slice a es.length cap]:=rfl
   rw[iV]
   rcases Nat.eq_zero_or_pos es.length with hz| hz
   · have Uq:zs=[]:=List.length_eq_zero_iff.1 (by omega)
     subst Uq
     have Mj:es=[]:=List.length_eq_zero_iff.1 hz
     subst Mj
     refine(qP a cap w).mono ?_
     rintro e w' ⟨rfl,rfl⟩
     exact⟨φ0,fun _=>dG,_,.tuple [],[],Le.refl _,ho,by simp only[al];exact⟨#[],rfl,by simp[ak]⟩,.one (by simp[cF,V.aE,V.aq]),rfl,rfl⟩
   · have Gj:cap≠0:=by omega
     have hφ:cap=(φ0 0).cap:=by simpa using h1
     obtain rfl:=h2.resolve_left Gj
     rw[eO]
     simp only[Nat.zero_mul,Nat.add_zero]
     have q1: ((enter [V.msl 1 es 0 es.length]).O 0).es=some es:=by rw[eO]
     have q2: ((enter [V.msl 1 es 0 es.length]).O 0).fz=false:=by rw[eO]
     have q3: ((enter [V.msl 1 es 0 es.length]).O 0).sz=1:=by rw[eO]
     obtain⟨_,MQ,lP,dL⟩:=ho.row 0 es q1 (by show 0 < ((enter [V.msl 1 es 0 es.length]).O 0).sz;rw[q3];exact Nat.one_pos)
     rcases dL with dL| ⟨c,T,vs,Mr,oN,VK,De⟩
     · exact absurd (hφ ▸ dL) Gj
     · simp only[eO] at oN lP De
       rw[bQ] at VK
       have rU:=(QD _ _ _ _).1 VK
       subst rU
       have hH:Holds enc w (φ0 0).cO (φ0 0).base zs.toArray:=by
        intro j hj
        have FG:j<zs.length:=by simpa using hj
        have:=De j (enc zs[j]) (by simp[FG])
        have h3:=this.2 0 (enc zs[j]) (by rw[xr];rfl)
        simp only[Nat.mul_one,Nat.add_zero] at h3
        refine⟨?_,?_⟩
        · rw[h3];simp[getElem!_pos,FG]
        · simp only[World.frozen?,Mr];simp
       have hC:=QC (φ0 0).cO (φ0 0).base cap zs w hH (Array.getElem?_eq_some_iff.1 Mr).1 hbig
       rw[←FC] at hC
       refine hC.mono ?_
       rintro e w' ⟨rfl,n,os,rfl⟩
       have Xy: (mg le zs).length=es.length:=by rw[FC];exact(pg _ _).length_eq
       obtain⟨Xz,BX⟩:=DW (μ:=⟨w,φ0,(enter [V.msl 1 es 0 es.length]).O⟩) ho (enc:=enc) 0 (es:=es) (es':=(mg le zs).map tv) (d:=(mg le zs).toArray) q1 q2 q3 Mr (by rw[←hφ];exact Gj) (by simpa using oN) xr
        (by simp) (by simp only[List.size_toArray,Xy];exact MQ) (by simp only[List.all_map,List.all_eq_true];intro x _;exact Mp x) ((QD _ _ _ _).2 (by simp)) n os
       refine⟨φ0,fun _=>dG,_,.tuple [],[],Xz,BX,by simp only[al];exact⟨#[],rfl,by simp[ak]⟩,.one (by simp[cF,V.aE,V.aq]),rfl,?_⟩
       have hp:=Mq (mg le zs)
       simp only[bX,aD,eO,hp,and_self,if_true]
end
section
variable {X:TrEnv} {F:FuncId} {fn:Func} {ρ:Go.Shelf.Ren}
theorem Bi (Ly:Go.Proofs.SlLaysN.n53 X.P ρ) (hF:ρ.f 53=F) (ra:X.P.funcs[F]? =some fn) (mw: (fn.name== "runtime.NumGoroutine")=false) {cd:Code} (iJ:fn.body=some cd) {args:List V} {res:fK} (h:xU args=some res):cI X F args res:=by
 unfold xU at h
 split at h
 · rename_i es len
   split at h
   · rename_i hlen
     subst hlen
     split at h
     · rename_i zs FD
       split at h
       · rename_i hbig
         injection h with h;subst h
         refine zC (enc:=Value.int .i64) (le:=MC) (fun _=>rfl) (fun _=>rfl) (fun _=>rfl) (fun Y μ x v=>by simp only[al]) ra mw iJ (fun a cap w=>by have:=Go.Proofs.AnyG.slices_Sort_int_none Ly a cap w;rwa [hF] at this) ?_ (vO FD) hbig
         intro cO off cap zs w hH hb hl
         have:=Go.Proofs.AnyG.slices_Sort_int Ly cO off cap zs w hH hb hl
         rw[hF,xS] at this
         exact this
       · simp at h
     · simp at h
   · simp at h
 · simp at h
end
end Go.AM
