/- Texts of the proof. -/
import Derived.Test.YtgjbecccmiehkaaGreatOpsC
import Derived.Test.YtgjbecccmiehkaaGreatSd
import Derived.Shelf.SortG.Plain
import Derived.Shelf.SortG.SortNone
import Derived.Shelf.SlSortCmp.NoneTotal
set_option linter.unusedSimpArgs false
set_option linter.unusedVariables false
namespace Go.AM
open Go Go.RowKit Go.Sort
section
variable {X:TrEnv} {F:FuncId} {fn:Func}
theorem Fj {Y:Ctx} {μ:Mu} (ho:aP Y μ) {α:Type} [Inhabited α] {enc:α→Value} (r:Nat) {es es':List V} {c:Array Value} {T:TypeId} {d:Array α} (aZ: (μ.O r).es=some es) (eB: (μ.O r).fz=false) (bM: (μ.O r).sz=1)
  (hb:μ.w.heap[(μ.φ r).bB]? =some (.cells c T (0,0))) (gX: (μ.φ r).cap≠0) (ju: (μ.φ r).base+(μ.φ r).cap≤c.size) (fL: ∀x,(enc x).cells= #[enc x])
  (hlen:es'.length=d.size) (hd:d.size≤(μ.φ r).cap) (jI:es'.all (aJ · 1)=true) (aV:ah Y μ es' (d.toList.map enc)) (n:Nat) (os:Array Go.Obj):
  Le μ ⟨grow (putRow enc (Go.Sort.ahead μ.w n) (μ.φ r).bB (μ.φ r).base d) os,μ.φ,cC μ.O r {μ.O r with es:=some es'}⟩∧aP Y ⟨grow (putRow enc (Go.Sort.ahead μ.w n) (μ.φ r).bB (μ.φ r).base d) os,μ.φ,cC μ.O r {μ.O r with es:=some es'}⟩:=by
 have h1:=iY ho r aZ eB hb gX (c':=putCells enc (μ.φ r).base d c) (by simp[putCells]) (μ.O r).gen (μ.φ r).base (μ.φ r).cap (es':=es') (vs':=d.toList.map enc) (.inl ⟨rfl,rfl,rfl⟩) gX Zl (by rw[bM];exact jI) aV (by rw[bM];omega) (by
  intro i v hv
  rw[ZI,Zq] at hv
  obtain⟨x,hx,rfl⟩:=hv
  rw[fL,bM]
  refine⟨rfl,fun j y hy=> ?_⟩
  have hi:i<d.size:=by
    have:=(Zs.1 hx).1
    simpa using this
  have hj:j=0:=by
    rcases ZM j with h| h
    ·exact h
    ·rw[aaN (by simp;omega)] at hy;simp at hy
  subst hj
  simp at hy
  subst hy
  have hk: (μ.φ r).base+i*1+0 <c.size:=Zl
  have BR:d[i]! =x:=by
    have h2:d[i]? =some x:=by simpa using hx
    have h3:=Zu.1 h2
    obtain⟨h4,h5⟩:=h3
    rw[getElem!_pos d i h4];exact h5
  simp only[putCells,Array.getElem?_mapIdx,ZQ hk,ZE]
  rw[if_pos ⟨Zl,Zl⟩,show (μ.φ r).base+i*1+0 - (μ.φ r).base=i by omega,BR])
 have e0: (⟨(μ.φ r).bB,(μ.φ r).base,(μ.φ r).cap⟩:Row)=μ.φ r:=rfl
 have e1:cC μ.φ r (μ.φ r)=μ.φ:=by funext k;unfold cC;split<;>simp_all
 rw[e0,e1] at h1
 obtain⟨le,yS⟩:=h1
 have hw:putRow enc (Go.Sort.ahead μ.w n) (μ.φ r).bB (μ.φ r).base d={μ.w.setRow (μ.φ r).bB (putCells enc (μ.φ r).base d c) with drawn:=μ.w.drawn+n}:=by
  unfold putRow mapBlock World.setRow Go.Sort.ahead
  congr 1
  apply Array.ext_getElem?
  intro k
  simp only[Array.getElem?_modify]
  by_cases hk: (μ.φ r).bB=k
  · subst hk
    simp only[if_pos rfl,hb,ZE,onCells]
  ·simp only[if_neg hk]
 rw[hw]
 have hold: ∀b,b<μ.w.heap.size→(grow {μ.w.setRow (μ.φ r).bB (putCells enc (μ.φ r).base d c) with drawn:=μ.w.drawn+n} os).heap[b]? =(μ.w.setRow (μ.φ r).bB (putCells enc (μ.φ r).base d c)).heap[b]? :=fun b js=>by
  have hs:b< (μ.w.setRow (μ.φ r).bB (putCells enc (μ.φ r).base d c)).heap.size:=by simpa [World.setRow] using js
  simp only[grow]
  rw[Array.getElem?_append_left hs]
 have jY: (μ.w.setRow (μ.φ r).bB (putCells enc (μ.φ r).base d c)).heap.size=μ.w.heap.size:=by simp[World.setRow]
 have Cr:Le ⟨μ.w.setRow (μ.φ r).bB (putCells enc (μ.φ r).base d c),μ.φ,cC μ.O r {μ.O r with es:=some es'}⟩ ⟨grow {μ.w.setRow (μ.φ r).bB (putCells enc (μ.φ r).base d c) with drawn:=μ.w.drawn+n} os,μ.φ,cC μ.O r {μ.O r with es:=some es'}⟩:=
  ⟨by simp[grow],fun b js qT=> ⟨hold b (by rw[←jY];exact js),qT⟩,fun _=>Zy _,fun _ _=> ⟨rfl,rfl⟩,rfl,rfl,rfl,
    fun a ha=>by simp only[World.frozen?];rw[hold a.block (by rw[←jY];exact ha)]⟩
 refine⟨le.trans Cr,yS.pg Cr rfl rfl fun b js=>hold b (by rw[←jY];exact js)⟩
theorem AZ {α:Type} [Inhabited α] {enc:α→Value} {tv:α→V} {le:α→α→Bool} (yn: ∀x,(enc x).cells= #[enc x]) (s7: ∀x,(tv x).aq=true) (Nf: ∀x,aJ (tv x) 1=true)
   (aV: ∀ (Y:Ctx) (μ:Mu) x v,aj Y μ (tv x) v↔v=enc x) (nE:X.P.funcs[F]? =some fn) (iE: (fn.name== "runtime.NumGoroutine")=false) {cd:Code} (fR:fn.body=some cd)
   (qD: ∀a cap w,Calls X.P F #[.slice a 0 cap] w fun e w'=>e= .returned (.tuple #[])∧w'=w)
   (so: ∀bB off cap (zs:List α) w,Holds enc w bB off zs.toArray→bB<w.heap.size→zs.length< 4611686018427387904→Calls X.P F #[.slice (some ⟨bB,off,none⟩) zs.length cap] w fun e w'=>
     e= .returned (.tuple #[])∧ ∃n os,w'=grow (putRow enc (Go.Sort.ahead w n) bB off (lT le zs).toArray) os)
   {es:List V} {zs:List α} (aZ:es=zs.map tv) (hbig:zs.length< 4611686018427387904):bJ X F [.msl 1 es 0 es.length] ⟨.tuple [],[(0,(lT le zs).map tv)]⟩:=by
 have QE: ∀ (Y:Ctx) (μ:Mu) (zs:List α) (vs:List Value),ah Y μ (zs.map tv) vs↔vs=zs.map enc:=by
   intro Y μ zs
   induction zs with
   | nil=>intro vs;cases vs<;>simp[ah]
   | cons z zs ih=>
     intro vs
     cases vs with
     | nil=>simp[ah]
     | cons v vs=>simp only[List.map_cons,ah,aV,ih,List.cons.injEq]
 have Ng: ∀zs:List α,V.al (zs.map tv)=true:=by
   intro zs
   induction zs with
   | nil=>rfl
   | cons z zs ih=>simp only[List.map_cons,V.al,s7,ih,Z6]
 intro B K w φ0 vals hl hv ho
 match vals,hl with
 | [v],_=>
   have h0:=hv 0 v rfl
   have e0: (enter [V.msl 1 es 0 es.length]).T 0= .sl 0 0 0 es.length:=rfl
   have eO: (enter [V.msl 1 es 0 es.length]).O 0={gen:=0,sz:=1,arr:=true,fz:=false,es:=some es}:=rfl
   rw[e0] at h0
   simp only[aj] at h0
   obtain⟨a,cap,rfl,b7,_,bq⟩:=h0
   obtain⟨_,h1,h2⟩:=bq (by rw[eO])
   have MH: (callFunc F [Value.slice a es.length cap].toArray).run X.P w= .ok (.enter F [Value.slice a es.length cap].toArray) w:=by
     simp[callFunc,Sem.run_bind,program,Sem.run,nE,fR]
     simpa using iE
   rw[MH]
   simp only[tq]
   have Cq:es.length=zs.length:=by rw[aZ];simp
   have iU: [Value.slice a es.length cap].toArray= #[.slice a es.length cap]:=rfl
   rw[iU]
   rcases ZM es.length with hz| hz
   · have Nh:zs=[]:=Z3.1 Zl
     subst Nh
     have H5:es=[]:=Z3.1 hz
     subst H5
     refine(qD a cap w).mono ?_
     rintro e w' ⟨rfl,rfl⟩
     exact⟨φ0,fun _=>cY,_,.tuple [],[],Le.refl _,ho,by simp only[aj];exact⟨#[],rfl,by simp[ah]⟩,.one (by simp[dg,V.aq,V.al]),rfl,rfl⟩
   · have vp:cap≠0:=Zl
     have hφ:cap=(φ0 0).cap:=by simpa using h1
     obtain rfl:=h2.resolve_left vp
     rw[eO]
     simp only[Nat.zero_mul,aaz]
     have q1: ((enter [V.msl 1 es 0 es.length]).O 0).es=some es:=by rw[eO]
     have q2: ((enter [V.msl 1 es 0 es.length]).O 0).fz=false:=by rw[eO]
     have q3: ((enter [V.msl 1 es 0 es.length]).O 0).sz=1:=by rw[eO]
     obtain⟨_,KM,jI,cE⟩:=ho.row 0 es q1 (by show 0 < ((enter [V.msl 1 es 0 es.length]).O 0).sz;rw[q3];exact Nat.one_pos)
     rcases cE with cE| ⟨c,T,vs,hblk,ju,QF,jS⟩
     ·exact absurd (hφ ▸ cE) vp
     ·simp only[eO] at ju jI jS
      rw[aZ] at QF
      have la:=(QE _ _ _ _).1 QF
      subst la
      have hH:Holds enc w (φ0 0).bB (φ0 0).base zs.toArray:=by
       intro j hj
       have ot:j<zs.length:=by simpa using hj
       have:=jS j (enc zs[j]) (by simp[ot])
       have h3:=this.2 0 (enc zs[j]) (by rw[yn];rfl)
       simp only[Nat.mul_one,aaz] at h3
       refine⟨?_,?_⟩
       ·rw[h3];simp[getElem!_pos,ot]
       ·simp only[World.frozen?,hblk];simp
      have hC:=so (φ0 0).bB (φ0 0).base cap zs w hH (Zu.1 hblk).1 hbig
      rw[←Cq] at hC
      refine hC.mono ?_
      rintro e w' ⟨rfl,n,os,rfl⟩
      have Uz: (lT le zs).length=es.length:=by rw[Cq];exact(oQ _ _).length_eq
      obtain⟨UA,yS⟩:=Fj (μ:=⟨w,φ0,(enter [V.msl 1 es 0 es.length]).O⟩) ho (enc:=enc) 0 (es:=es) (es':=(lT le zs).map tv) (d:=(lT le zs).toArray) q1 q2 q3 hblk (by rw[←hφ];exact vp) (by simpa using ju) yn
       Zm (by simp only[List.size_toArray,Uz];exact KM) (by simp only[List.all_map,Zx];intro x _;exact Nf x) ((QE _ _ _ _).2 Zm) n os
      refine⟨φ0,fun _=>cY,_,.tuple [],[],UA,yS,by simp only[aj];exact⟨#[],rfl,by simp[ah]⟩,.one (by simp[dg,V.aq,V.al]),rfl,?_⟩
      have hp:=Ng (lT le zs)
      simp only[bS,an,eO,hp,and_self,if_true]
end
section
variable {X:TrEnv} {F:FuncId} {fn:Func} {ρ:Go.Shelf.Ren}
theorem CU (Ly:Go.Proofs.SlLaysN.n53 X.P ρ) (hF:ρ.f 53=F) (nE:X.P.funcs[F]? =some fn) (iE: (fn.name== "runtime.NumGoroutine")=false) {cd:Code} (fR:fn.body=some cd) {args:List V} {res:eV} (h:yY args=some res):bJ X F args res:=by
 unfold yY at h
 split at h
 ·rename_i es len
  split at h
  ·rename_i hlen
   subst hlen
   split at h
   ·rename_i zs Hx
    split at h
    ·rename_i hbig
     injection h with h;subst h
     refine AZ (enc:=Value.int .i64) (le:=It) (fun _=>rfl) (fun _=>rfl) (fun _=>rfl) (fun Y μ x v=>by simp only[aj]) nE iE fR (fun a cap w=>by have:=Go.Proofs.AnyG.slices_Sort_int_none Ly a cap w;rwa [hF] at this) ?_ (q8 Hx) hbig
     intro bB off cap zs w hH hb hl
     have:=Go.Proofs.AnyG.slices_Sort_int Ly bB off cap zs w hH hb hl
     rw[hF,yX] at this
     exact this
    ·simp at h
   ·simp at h
  ·simp at h
 ·simp at h
end
end Go.AM
namespace Go.AM
open Go Go.RowKit Go.Sort
def r6 (k:Nat) (x:List Int):List Value:=(List.range k).map fun i=>Value.int .i64 (x.getD i 0)
theorem Ir (k:Nat) (x:List Int): (r6 k x).length=k:=by simp[r6]
theorem Kb {z:List Int} {k:Nat} (h:z.length=k):r6 k z=z.map (Value.int .i64):=by
 apply aah
 intro i
 simp only[r6,ZI,aa3,ZK]
 by_cases hi:i<k
 ·rw[aa3 hi]
  simp[show i<z.length by omega]
 ·rw[aab (by simp;omega),aab (l:=z) Zl]
  rfl
theorem yJ {Y:Ctx} {μ:Mu}: ∀ {z:List Int} {vs:List Value},ah Y μ (z.map (V.int .i64)) vs↔vs=z.map (Value.int .i64)
 | [],vs=>by cases vs<;>simp[ah]
 | a::z,[]=>by simp[ah]
 | a::z,v::vs=>by simp only[List.map_cons,ah,aj,yJ,List.cons.injEq]
theorem Is {Y:Ctx} {μ:Mu} {z:List Int} {v:Value}:aj Y μ (nS z) v↔v= .agg (z.map (Value.int .i64)).toArray:=by
 simp only[nS,aj]
 constructor
 ·rintro⟨_,vs,rfl,h⟩
  rw[yJ] at h
  rw[←h]
 ·rintro rfl
  exact⟨by simp[Zx,V.aF],_,rfl,yJ.2 rfl⟩
theorem vq {Y:Ctx} {μ:Mu}: ∀ {zs:List (List Int)} {vs:List Value},ah Y μ (zs.map nS) vs↔vs=zs.map fun z=> .agg (z.map (Value.int .i64)).toArray
 | [],vs=>by cases vs<;>simp[ah]
 | a::z,[]=>by simp[ah]
 | a::z,v::vs=>by simp only[List.map_cons,ah,Is,vq,List.cons.injEq]
theorem CV {z:List Int} {k:Nat} (h:z.length=k):aJ (nS z) k=true:=by
 simp[aJ,nS,V.cq,V.cells,V.isAgg,h]
theorem Fk (zs:List (List Int)):V.al (zs.map nS)=true:=by
 induction zs with
 | nil=>rfl
 | cons z zs ih=>
   have: ∀l:List Int,V.al (l.map (V.int .i64))=true:=fun l=>by induction l with| nil=>rfl| cons a l ih=>simp only[List.map_cons,V.al,ih];rfl
   simp only[List.map_cons,V.al,ih,nS,V.aq,this,Z6]
section
variable {X:TrEnv} {F:FuncId} {fn:Func} {ρ:Go.Shelf.Ren}
theorem CW {Y:Ctx} {μ:Mu} (ho:aP Y μ) (r:Nat) {es es':List V} {c:Array Value} {T:TypeId} {Fl:Array Value} {vs':List Value} (aZ: (μ.O r).es=some es) (eB: (μ.O r).fz=false)
  (hb:μ.w.heap[(μ.φ r).bB]? =some (.cells c T (0,0))) (gX: (μ.φ r).cap≠0) (ju: (μ.φ r).base+(μ.φ r).cap*(μ.O r).sz≤c.size)
  (hlen:es'.length≤(μ.φ r).cap) (jI:es'.all (aJ · (μ.O r).sz)=true) (aV:ah Y μ es' vs')
  (fL: ∀i v,vs'[i]? =some v→v.cells.size=(μ.O r).sz∧ ∀j y,v.cells[j]? =some y→Fl[i*(μ.O r).sz+j]? =some y) (n:Nat) (os:Array Go.Obj):
  Le μ ⟨grow (putRow id (Go.Sort.ahead μ.w n) (μ.φ r).bB (μ.φ r).base Fl) os,μ.φ,cC μ.O r {μ.O r with es:=some es'}⟩∧aP Y ⟨grow (putRow id (Go.Sort.ahead μ.w n) (μ.φ r).bB (μ.φ r).base Fl) os,μ.φ,cC μ.O r {μ.O r with es:=some es'}⟩:=by
 have h1:=iY ho r aZ eB hb gX (c':=putCells id (μ.φ r).base Fl c) (by simp[putCells]) (μ.O r).gen (μ.φ r).base (μ.φ r).cap (es':=es') (vs':=vs') (.inl ⟨rfl,rfl,rfl⟩) gX hlen jI aV ju (by
  intro i v hv
  obtain⟨e1,e2⟩:=fL i v hv
  refine⟨e1,fun j y hy=> ?_⟩
  have h3:=e2 j y hy
  obtain⟨h4,h5⟩:=Zu.1 h3
  have hi:i<es'.length:=by rw[aV.length];exact(Zs.1 hv).1
  have hj:j< (μ.O r).sz:=by rw[←e1];exact(Zu.1 hy).1
  have hk: (μ.φ r).base+i*(μ.O r).sz+j<c.size:=by
    have: (i+1)*(μ.O r).sz≤(μ.φ r).cap*(μ.O r).sz:=ZY _ Zl
    rw[ZR,Nat.one_mul] at this
    omega
  simp only[putCells,Array.getElem?_mapIdx,ZQ hk,ZE,id_eq]
  rw[if_pos ⟨Zl,Zl⟩,show (μ.φ r).base+i*(μ.O r).sz+j - (μ.φ r).base=i*(μ.O r).sz+j by omega,getElem!_pos Fl _ h4,h5])
 have e0: (⟨(μ.φ r).bB,(μ.φ r).base,(μ.φ r).cap⟩:Row)=μ.φ r:=rfl
 have e1:cC μ.φ r (μ.φ r)=μ.φ:=by funext k;unfold cC;split<;>simp_all
 rw[e0,e1] at h1
 obtain⟨le,yS⟩:=h1
 have hw:putRow id (Go.Sort.ahead μ.w n) (μ.φ r).bB (μ.φ r).base Fl={μ.w.setRow (μ.φ r).bB (putCells id (μ.φ r).base Fl c) with drawn:=μ.w.drawn+n}:=by
  unfold putRow mapBlock World.setRow Go.Sort.ahead
  congr 1
  apply Array.ext_getElem?
  intro k
  simp only[Array.getElem?_modify]
  by_cases hk: (μ.φ r).bB=k
  · subst hk
    simp only[if_pos rfl,hb,ZE,onCells]
  ·simp only[if_neg hk]
 rw[hw]
 generalize putCells id (μ.φ r).base Fl c=c' at*
 have jY: (μ.w.setRow (μ.φ r).bB c').heap.size=μ.w.heap.size:=by simp[World.setRow]
 have hold: ∀b,b<μ.w.heap.size→(grow {μ.w.setRow (μ.φ r).bB c' with drawn:=μ.w.drawn+n} os).heap[b]? =(μ.w.setRow (μ.φ r).bB c').heap[b]? :=fun b js=>by
  have hs:b< (μ.w.setRow (μ.φ r).bB c').heap.size:=by rw[jY];exact js
  simp only[grow]
  rw[Array.getElem?_append_left hs]
 have Cr:Le ⟨μ.w.setRow (μ.φ r).bB c',μ.φ,cC μ.O r {μ.O r with es:=some es'}⟩ ⟨grow {μ.w.setRow (μ.φ r).bB c' with drawn:=μ.w.drawn+n} os,μ.φ,cC μ.O r {μ.O r with es:=some es'}⟩:=
  ⟨by simp[grow],fun b js qT=> ⟨hold b (by rw[←jY];exact js),qT⟩,fun _=>Zy _,fun _ _=> ⟨rfl,rfl⟩,rfl,rfl,rfl,
    fun a ha=>by simp only[World.frozen?];rw[hold a.block (by rw[←jY];exact ha)]⟩
 exact⟨le.trans Cr,yS.pg Cr rfl rfl fun b js=>hold b (by rw[←jY];exact js)⟩
theorem D0 {k:Nat} {zs:List (List Int)} (hk: ∀z ∈ zs,z.length=k) {i j:Nat} {v y:Value} (hv: (zs.map fun z=>Value.agg (z.map (Value.int .i64)).toArray)[i]? =some v) (hy:v.cells[j]? =some y): (flatK (r6 k) k zs.toArray)[i*k+j]? =some y:=by
 rw[ZI,Zq] at hv
 obtain⟨z,hz,rfl⟩:=hv
 have QG:=hk z (List.mem_of_getElem? hz)
 obtain⟨hi,UB⟩:=Zs.1 hz
 have yP: (z.map (Value.int .i64))[j]? =some y:=by simpa [Value.cells] using hy
 have hj:j<k:=by have:=(Zs.1 yP).1;simp at this;omega
 have ht:i*k+j<zs.toArray.size*k:=by
  have: (i+1)*k≤zs.length*k:=ZY _ hi
  rw[ZR,Nat.one_mul] at this
  simp;omega
 have h1:=get_flatK (r6 k) k zs.toArray (i*k+j) ht
 rw[getElem!_pos _ _ (by simpa using ht)] at h1
 rw[ZQ (by simpa using ht),h1]
 have e1: (i*k+j) / k=i:=by rw[aay,Nat.mul_add_div Zl,Nat.div_eq_of_lt hj];omega
 have e2: (i*k+j) % k=j:=by rw[aay,Nat.mul_add_mod,aa0 hj]
 rw[e1,e2,getElem!_pos zs.toArray i (by simpa using hi)]
 have e3:zs.toArray[i]'(by simpa using hi)=z:=by simpa using UB
 rw[e3,Kb QG]
 obtain⟨h4,h5⟩:=Zs.1 yP
 rw[getElem!_pos (z.map (Value.int .i64)) j h4,h5]
theorem s9 (Ly:Go.Proofs.SlLaysF0.n6 X.P ρ) (hF:ρ.f 6=F) (nE:X.P.funcs[F]? =some fn) (iE: (fn.name== "runtime.NumGoroutine")=false) {cd:Code} (fR:fn.body=some cd) {k g:Nat} {G:FuncId}
   (aE: ∀w,(isAgg (ρ.t 24)).run X.P w= .ok true w) (zE: ∀w,(Go.sizeOf (ρ.t 24)).run X.P w= .ok k w) {cf:List Int→List Int→Int} (hO:SWO (Go.Proofs.ltOf cf)) (hG: ∀G',X.eT G'=some g→G'=G)
   (eg: ∀args w,(callFunc G args).run X.P w= .ok (.enter G args) w) (nT: ∀x y W,Calls X.P G #[.agg (r6 k x).toArray,.agg (r6 k y).toArray] W fun e w'=>e= .returned (.int .i64 (cf x y))∧ ∃q Ip,w'=grow (W.drewN q) Ip)
   {args:List V} {res:eV} (h:lD k g cf args=some res):bJ X F args res:=by
 unfold lD at h
 split at h
 rotate_left
 ·simp at h
 rename_i k' es len g'
 split at h
 rotate_left
 ·simp at h
 rename_i hc
 obtain⟨rfl,rfl,rfl,UC⟩:=hc
 split at h
 rotate_left
 ·simp at h
 rename_i zs Hx
 split at h
 rotate_left
 ·simp at h
 rename_i hbig
 injection h with h;subst h
 obtain⟨aZ,QG⟩:=xe Hx
 intro B K w φ0 vals hl hv ho
 match vals,hl with
 | [v,fv],_=>
   have h0:=hv 0 v rfl
   have UD:=hv 1 fv rfl
   have e0: (enter [V.msl k' es 0 es.length,.fn g' []]).T 0= .sl 0 0 0 es.length:=rfl
   have e1: (enter [V.msl k' es 0 es.length,.fn g' []]).T 1= .fn g' []:=rfl
   have eO: (enter [V.msl k' es 0 es.length,.fn g' []]).O 0={gen:=0,sz:=k',arr:=true,fz:=false,es:=some es}:=rfl
   rw[e0] at h0
   rw[e1] at UD
   simp only[aj] at h0 UD
   obtain⟨G',cv,rfl,Hd,Rh⟩:=UD
   obtain rfl:=hG _ Hd
   have UE:cv= #[]:=by
     rcases cv with⟨cv⟩
     cases cv with
     | nil=>rfl
     | cons a l=>simp[ah] at Rh
   subst UE
   obtain⟨a,cap,rfl,b7,_,bq⟩:=h0
   obtain⟨_,h1,h2⟩:=bq (by rw[eO])
   rw[show (callFunc F [Value.slice a es.length cap,.func (.func G') #[] #[]].toArray).run X.P w= .ok (.enter F [Value.slice a es.length cap,.func (.func G') #[] #[]].toArray) w by
     simp[callFunc,Sem.run_bind,program,Sem.run,nE,fR]
     simpa using iE]
   simp only[tq]
   have Cq:es.length=zs.length:=by rw[aZ];simp
   have iU: [Value.slice a es.length cap,.func (.func G') #[] #[]].toArray= #[.slice a es.length cap,.func (.func G') #[] #[]]:=rfl
   rw[iU]
   rcases ZM es.length with hz| hz
   · have Nh:zs=[]:=Z3.1 Zl
     subst Nh
     have H5:es=[]:=Z3.1 hz
     subst H5
     have hn:=Go.Proofs.AnyF.slices_SortFunc_none Ly a cap (.func (.func G') #[] #[]) w
     rw[hF] at hn
     refine hn.mono ?_
     rintro e w' ⟨rfl,rfl⟩
     exact⟨φ0,fun _=>cY,_,.tuple [],[],Le.refl _,ho,by simp only[aj];exact⟨#[],rfl,by simp[ah]⟩,.one (by simp[dg,V.aq,V.al]),rfl,by rw[List.perm_nil.1 (nA hO [])];simp only[bS,eO,V.al,and_self,if_true];rfl⟩
   · have vp:cap≠0:=Zl
     have hφ:cap=(φ0 0).cap:=by simpa using h1
     obtain rfl:=h2.resolve_left vp
     rw[eO]
     simp only[Nat.zero_mul,aaz]
     have q1: ((enter [V.msl k' es 0 es.length,.fn g' []]).O 0).es=some es:=by rw[eO]
     have q2: ((enter [V.msl k' es 0 es.length,.fn g' []]).O 0).fz=false:=by rw[eO]
     have q3: ((enter [V.msl k' es 0 es.length,.fn g' []]).O 0).sz=k':=by rw[eO]
     obtain⟨_,KM,jI,cE⟩:=ho.row 0 es q1 (by show 0 < ((enter [V.msl k' es 0 es.length,.fn g' []]).O 0).sz;rw[q3];exact UC)
     rcases cE with cE| ⟨c,T,vs,hblk,ju,QF,jS⟩
     ·exact absurd (hφ ▸ cE) vp
     ·simp only[eO] at ju jI jS
      rw[aZ] at QF
      have la:=vq.1 QF
      subst la
      have hH:HoldsK (r6 k') k' w (φ0 0).bB (φ0 0).base zs.toArray:=by
       intro t ht
       have nW:t<zs.length*k':=by simpa using ht
       have hi:t / k'<zs.length:=by rw[Nat.div_lt_iff_lt_mul UC];exact nW
       have hj:t % k'<k':=Nat.mod_lt _ UC
       have UB:=QG zs[t / k'] (aak hi)
       obtain⟨y,hy⟩: ∃y,(Value.agg (zs[t / k'].map (Value.int .i64)).toArray).cells[t % k']? =some y:=⟨.int .i64 (zs[t / k']'hi)[t % k'],by simp[Value.cells,UB,hj]⟩
       have h3:=jS (t / k') _ (by rw[ZI,Zv hi];rfl)
       have h4:=h3.2 _ _ hy
       have h5:=D0 (i:=t / k') (j:=t % k') QG (by rw[ZI,Zv hi];rfl) hy
       have et:t / k'*k'+t % k'=t:=by rw[aay];exact Nat.div_add_mod t k'
       rw[et] at h5
       obtain⟨h6,h7⟩:=Zu.1 h5
       rw[aaJ,et] at h4
       refine⟨?_,?_⟩
       ·rw[h4,getElem!_pos (flatK (r6 k') k' zs.toArray) t h6,h7];rfl
       ·simp only[World.frozen?,hblk];simp
      have hC:=Go.Proofs.AnyQ.slices_SortFunc_eq Ly k' aE zE (r6 k') (Ir k') (fun x v hv=>by simp only[r6,ZJ] at hv;obtain⟨_,_,rfl⟩:=hv;rfl) cf hO G' #[] (φ0 0).bB (φ0 0).base cap zs.toArray w eg
       (fun m os dk Zj x y=>nT x y _) hH (Zu.1 hblk).1 (by simpa using hbig)
      rw[hF,show zs.toArray.size=es.length by simp[Cq]] at hC
      refine hC.mono ?_
      rintro e w' ⟨rfl,n,os,rfl⟩
      have Qf:=nA hO zs
      have Uz: (o7 cf zs).length=es.length:=by rw[Cq];exact Qf.length_eq
      have UF: ∀z ∈ o7 cf zs,z.length=k':=fun z hz=>QG z (Qf.mem_iff.1 hz)
      have ep:pdq (Go.Proofs.ltOf cf) zs.toArray 0 es.length (Go.Lib.bitLen es.length) true true=(o7 cf zs).toArray:=by rw[Cq];unfold o7;simp
      rw[ep]
      obtain⟨UA,yS⟩:=CW (μ:=⟨w,φ0,(enter [V.msl k' es 0 es.length,.fn g' []]).O⟩) ho 0 (es:=es) (es':=(o7 cf zs).map nS) (Fl:=flatK (r6 k') k' (o7 cf zs).toArray) q1 q2 hblk (by rw[←hφ];exact vp) (by rw[q3];exact ju)
       (by rw[List.length_map,Uz];exact KM) (by
         rw[q3]
         simp only[List.all_map,Zx]
         intro z hz
         exact CV (UF z hz)) (vq.2 rfl) (fun i v hv=>by
         rw[q3]
         refine⟨?_,fun j y hy=>D0 UF hv hy⟩
         rw[ZI,Zq] at hv
         obtain⟨z,hz,rfl⟩:=hv
         simp[Value.cells,UF z (List.mem_of_getElem? hz)]) n os
      refine⟨φ0,fun _=>cY,_,.tuple [],[],UA,yS,by simp only[aj];exact⟨#[],rfl,by simp[ah]⟩,.one (by simp[dg,V.aq,V.al]),rfl,?_⟩
      have hp:=Fk (o7 cf zs)
      simp only[bS,an,eO,hp,and_self,if_true]
end
end Go.AM
