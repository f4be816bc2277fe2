/-
  Texts of the proof, joined by program: AmSortX. Own work.
-/
import Derived.Test.YtgkdgapmmkkcaaaGreatOpsC
import Derived.Test.YtgkdgapmmkkcaaaGreatBase
import Derived.Shelf.SortG.Plain
import Derived.Shelf.SortG.SortNone
set_option linter.unusedSimpArgs false
set_option linter.unusedVariables false
namespace Go.AM
open Go Go.RowKit Go.Sort
section
variable {X:TrEnv} {F:FuncId} {fn:Func}
theorem BM {Y:Ctx} {μ:Mu} (ho:bj Y μ) {α:Type} [Inhabited α] {enc:α→Value} (r:Nat) {es es':List V} {c:Array Value} {T:TypeId} {d:Array α} (bJ: (μ.O r).es=some es) (fY: (μ.O r).fz=false) (cE: (μ.O r).sz=1)
  (hb:μ.w.heap[(μ.φ r).cD]? =some (.cells c T (0,0))) (jX: (μ.φ r).cap≠0) (nC: (μ.φ r).base+(μ.φ r).cap≤c.size) (cR: ∀x,(enc x).cells= #[enc x])
  (hlen:es'.length=d.size) (hd:d.size≤(μ.φ r).cap) (oh:es'.all (aN · 1)=true) (bQ:aj Y μ es' (d.toList.map enc)) (n:Nat) (os:Array Go.Obj):
  Le μ ⟨grow (putRow enc (Go.Sort.ahead μ.w n) (μ.φ r).cD (μ.φ r).base d) os,μ.φ,cW μ.O r {μ.O r with es:=some es'}⟩∧bj Y ⟨grow (putRow enc (Go.Sort.ahead μ.w n) (μ.φ r).cD (μ.φ r).base d) os,μ.φ,cW μ.O r {μ.O r with es:=some es'}⟩:=by
 have h1:=j6 ho r bJ fY hb jX (c':=putCells enc (μ.φ r).base d c) (by simp[putCells]) (μ.O r).gen (μ.φ r).base (μ.φ r).cap (es':=es') (vs':=d.toList.map enc) (.inl ⟨rfl,rfl,rfl⟩) jX (by omega) (by rw[cE];exact oh) bQ (by rw[cE];omega) (by
  intro i v hv
  rw[List.getElem?_map,Option.map_eq_some_iff] at hv
  obtain⟨x,hx,rfl⟩:=hv
  rw[cR,cE]
  refine⟨rfl,fun j y hy=> ?_⟩
  have hi:i<d.size:=by
    have:=(List.getElem?_eq_some_iff.1 hx).1
    simpa using this
  have hj:j=0:=by
    rcases Nat.eq_zero_or_pos j with h| h
    · exact h
    · rw[Array.getElem?_eq_none (by simp;omega)] at hy;simp at hy
  subst hj
  simp at hy
  subst hy
  have hk: (μ.φ r).base+i*1+0 <c.size:=by omega
  have Ba:d[i]! =x:=by
    have h2:d[i]? =some x:=by simpa using hx
    have h3:=Array.getElem?_eq_some_iff.1 h2
    obtain⟨h4,h5⟩:=h3
    rw[getElem!_pos d i h4];exact h5
  simp only[putCells,Array.getElem?_mapIdx,Array.getElem?_eq_getElem hk,Option.map_some]
  rw[if_pos ⟨by omega,by omega⟩,show (μ.φ r).base+i*1+0 - (μ.φ r).base=i by omega,Ba])
 have e0: (⟨(μ.φ r).cD,(μ.φ r).base,(μ.φ r).cap⟩:Row)=μ.φ r:=rfl
 have e1:cW μ.φ r (μ.φ r)=μ.φ:=by funext k;unfold cW;split<;>simp_all
 rw[e0,e1] at h1
 obtain⟨le,zV⟩:=h1
 have hw:putRow enc (Go.Sort.ahead μ.w n) (μ.φ r).cD (μ.φ r).base d={μ.w.setRow (μ.φ r).cD (putCells enc (μ.φ r).base d c) with drawn:=μ.w.drawn+n}:=by
  unfold putRow mapBlock World.setRow Go.Sort.ahead
  congr 1
  apply Array.ext_getElem?
  intro k
  simp only[Array.getElem?_modify]
  by_cases hk: (μ.φ r).cD=k
  · subst hk
    simp only[if_pos rfl,hb,Option.map_some,onCells]
  · simp only[if_neg hk]
 rw[hw]
 have hold: ∀b,b<μ.w.heap.size→(grow {μ.w.setRow (μ.φ r).cD (putCells enc (μ.φ r).base d c) with drawn:=μ.w.drawn+n} os).heap[b]? =(μ.w.setRow (μ.φ r).cD (putCells enc (μ.φ r).base d c)).heap[b]? :=fun b nD=>by
  have hs:b< (μ.w.setRow (μ.φ r).cD (putCells enc (μ.φ r).base d c)).heap.size:=by simpa [World.setRow] using nD
  simp only[grow]
  rw[Array.getElem?_append_left hs]
 have pk: (μ.w.setRow (μ.φ r).cD (putCells enc (μ.φ r).base d c)).heap.size=μ.w.heap.size:=by simp[World.setRow]
 have D8:Le ⟨μ.w.setRow (μ.φ r).cD (putCells enc (μ.φ r).base d c),μ.φ,cW μ.O r {μ.O r with es:=some es'}⟩ ⟨grow {μ.w.setRow (μ.φ r).cD (putCells enc (μ.φ r).base d c) with drawn:=μ.w.drawn+n} os,μ.φ,cW μ.O r {μ.O r with es:=some es'}⟩:=
  ⟨by simp[grow],fun b nD tV=> ⟨hold b (by rw[←pk];exact nD),tV⟩,fun _=>Nat.le_refl _,fun _ _=> ⟨rfl,rfl⟩,rfl,rfl,rfl,
    fun a ha=>by simp only[World.frozen?];rw[hold a.block (by rw[←pk];exact ha)]⟩
 refine⟨le.trans D8,zV.sQ D8 rfl rfl fun b nD=>hold b (by rw[←pk];exact nD)⟩
theorem xM {α:Type} [Inhabited α] {enc:α→Value} {tv:α→V} {le:α→α→Bool} (vQ: ∀x,(enc x).cells= #[enc x]) (rz: ∀x,(tv x).aC=true) (LH: ∀x,aN (tv x) 1=true)
   (bQ: ∀ (Y:Ctx) (μ:Mu) x v,ak Y μ (tv x) v↔v=enc x) (pQ:X.P.funcs[F]? =some fn) (lD: (fn.name== "runtime.NumGoroutine")=false) {cd:Code} (ib:fn.body=some cd)
   (pB: ∀a cap w,Calls X.P F #[.slice a 0 cap] w fun e w'=>e= .returned (.tuple #[])∧w'=w)
   (T3: ∀cD off cap (zs:List α) w,Holds enc w cD off zs.toArray→cD<w.heap.size→zs.length< 4611686018427387904→Calls X.P F #[.slice (some ⟨cD,off,none⟩) zs.length cap] w fun e w'=>
     e= .returned (.tuple #[])∧ ∃n os,w'=grow (putRow enc (Go.Sort.ahead w n) cD off (lh le zs).toArray) os)
   {es:List V} {zs:List α} (bJ:es=zs.map tv) (LI:zs.length< 4611686018427387904):cu X F [.msl 1 es 0 es.length] ⟨.tuple [],[(0,(lh le zs).map tv)]⟩:=by
 have T4: ∀ (Y:Ctx) (μ:Mu) (zs:List α) (vs:List Value),aj Y μ (zs.map tv) vs↔vs=zs.map enc:=by
   intro Y μ zs
   induction zs with
   | nil=>intro vs;cases vs<;>simp[aj]
   | cons z zs ih=>
     intro vs
     cases vs with
     | nil=>simp[aj]
     | cons v vs=>simp only[List.map_cons,aj,bQ,ih,List.cons.injEq]
 have LJ: ∀zs:List α,V.aq (zs.map tv)=true:=by
   intro zs
   induction zs with
   | nil=>rfl
   | cons z zs ih=>simp only[List.map_cons,V.aq,rz,ih,Bool.and_self]
 intro B K w φ0 vals hl hv ho
 match vals,hl with
 | [v],_=>
   have h0:=hv 0 v rfl
   have e0: (enter [V.msl 1 es 0 es.length]).T 0= .sl 0 0 0 es.length:=rfl
   have eO: (enter [V.msl 1 es 0 es.length]).O 0={gen:=0,sz:=1,arr:=true,fz:=false,es:=some es}:=rfl
   rw[e0] at h0
   simp only[ak] at h0
   obtain⟨a,cap,rfl,dJ,_,cB⟩:=h0
   obtain⟨_,h1,h2⟩:=cB (by rw[eO])
   have Ln: (callFunc F [Value.slice a es.length cap].toArray).run X.P w= .ok (.enter F [Value.slice a es.length cap].toArray) w:=by
     simp[callFunc,Sem.run_bind,program,Sem.run,pQ,ib]
     simpa using lD
   rw[Ln]
   simp only[ud]
   have C1:es.length=zs.length:=by rw[bJ];simp
   have iw: [Value.slice a es.length cap].toArray= #[.slice a es.length cap]:=rfl
   rw[iw]
   rcases Nat.eq_zero_or_pos es.length with hz| hz
   · have W5:zs=[]:=List.length_eq_zero_iff.1 (by omega)
     subst W5
     have Ll:es=[]:=List.length_eq_zero_iff.1 hz
     subst Ll
     refine(pB a cap w).mono ?_
     rintro e w' ⟨rfl,rfl⟩
     exact⟨φ0,fun _=>dp,_,.tuple [],[],Le.refl _,ho,by simp only[ak];exact⟨#[],rfl,by simp[aj]⟩,.one (by simp[cp,V.aC,V.aq]),rfl,rfl⟩
   · have DN:cap≠0:=by omega
     have hφ:cap=(φ0 0).cap:=by simpa using h1
     obtain rfl:=h2.resolve_left DN
     rw[eO]
     simp only[Nat.zero_mul,Nat.add_zero]
     have q1: ((enter [V.msl 1 es 0 es.length]).O 0).es=some es:=by rw[eO]
     have q2: ((enter [V.msl 1 es 0 es.length]).O 0).fz=false:=by rw[eO]
     have q3: ((enter [V.msl 1 es 0 es.length]).O 0).sz=1:=by rw[eO]
     obtain⟨_,L7,oh,dI⟩:=ho.row 0 es q1 (by show 0 < ((enter [V.msl 1 es 0 es.length]).O 0).sz;rw[q3];exact Nat.one_pos)
     rcases dI with dI| ⟨c,T,vs,LK,nC,X9,A4⟩
     · exact absurd (hφ ▸ dI) DN
     · simp only[eO] at nC oh A4
       rw[bJ] at X9
       have rZ:=(T4 _ _ _ _).1 X9
       subst rZ
       have hH:Holds enc w (φ0 0).cD (φ0 0).base zs.toArray:=by
        intro j hj
        have FO:j<zs.length:=by simpa using hj
        have:=A4 j (enc zs[j]) (by simp[FO])
        have h3:=this.2 0 (enc zs[j]) (by rw[vQ];rfl)
        simp only[Nat.mul_one,Nat.add_zero] at h3
        refine⟨?_,?_⟩
        · rw[h3];simp[getElem!_pos,FO]
        · simp only[World.frozen?,LK];simp
       have hC:=T3 (φ0 0).cD (φ0 0).base cap zs w hH (Array.getElem?_eq_some_iff.1 LK).1 LI
       rw[←C1] at hC
       refine hC.mono ?_
       rintro e w' ⟨rfl,n,os,rfl⟩
       have ZZ: (lh le zs).length=es.length:=by rw[C1];exact(kA _ _).length_eq
       obtain⟨Z0,zV⟩:=BM (μ:=⟨w,φ0,(enter [V.msl 1 es 0 es.length]).O⟩) ho (enc:=enc) 0 (es:=es) (es':=(lh le zs).map tv) (d:=(lh le zs).toArray) q1 q2 q3 LK (by rw[←hφ];exact DN) (by simpa using nC) vQ
        (by simp) (by simp only[List.size_toArray,ZZ];exact L7) (by simp only[List.all_map,List.all_eq_true];intro x _;exact LH x) ((T4 _ _ _ _).2 (by simp)) n os
       refine⟨φ0,fun _=>dp,_,.tuple [],[],Z0,zV,by simp only[ak];exact⟨#[],rfl,by simp[aj]⟩,.one (by simp[cp,V.aC,V.aq]),rfl,?_⟩
       have hp:=LJ (lh le zs)
       simp only[bP,aA,eO,hp,and_self,if_true]
end
section
variable {X:TrEnv} {F:FuncId} {fn:Func} {ρ:Go.Shelf.Ren}
theorem xL (Ly:Go.Proofs.SlLaysN.n54 X.P ρ) (hF:ρ.f 54=F) (pQ:X.P.funcs[F]? =some fn) (lD: (fn.name== "runtime.NumGoroutine")=false) {cd:Code} (ib:fn.body=some cd) {args:List V} {res:fh} (h:sh args=some res):cu X F args res:=by
 unfold sh at h
 split at h
 · rename_i es len
   split at h
   · rename_i hlen
     subst hlen
     split at h
     · rename_i zs C2
       split at h
       · rename_i LI
         injection h with h;subst h
         refine xM (enc:=Go.Proofs.encStr) (le:=xZ) (fun _=>rfl) (fun _=>rfl) (fun _=>rfl) (fun Y μ x v=> ?_) pQ lD ib (fun a cap w=>by have:=Go.Proofs.AnyG.slices_Sort_string_none Ly a cap w;rwa [hF] at this) ?_ (uv C2) LI
         · simp only[ak]
           constructor
           · rintro⟨bs,rfl,rfl⟩;rfl
           · rintro rfl;exact⟨_,rfl,by simp⟩
         · intro cD off cap zs w hH hb hl
           have:=Go.Proofs.AnyG.slices_Sort_string Ly cD off cap zs w hH hb hl
           rw[hF,wv] at this
           exact this
       · simp at h
     · simp at h
   · simp at h
 · simp at h
end
end Go.AM
