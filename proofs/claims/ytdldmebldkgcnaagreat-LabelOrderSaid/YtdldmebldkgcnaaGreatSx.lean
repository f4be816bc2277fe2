/- Texts of the proof. -/
import Derived.Test.YtdldmebldkgcnaaGreatOpsC
import Derived.Test.YtdldmebldkgcnaaGreatSd
import Derived.Shelf.SortG.Plain
import Derived.Shelf.SortG.SortNone
import Derived.Shelf.SlSortCmp.NoneTotal
set_option linter.unusedSimpArgs false
set_option linter.unusedVariables false
namespace Go.AM
open Go Go.RowKit Go.Sort
section
variable {X:TrEnv} {F:FuncId} {fn:Func}
theorem PD {Y:Ctx} {μ:Mu} (ho:bk Y μ) {α:Type} [Inhabited α] {enc:α→Value} (r:Nat) {es es':List V} {c:Array Value} {T:TypeId} {d:Array α} (bq: (μ.O r).es=some es) (gz: (μ.O r).fz=false) (bI: (μ.O r).sz=1)
  (hb:μ.w.heap[(μ.φ r).bY]? =some (.cells c T (0,0))) (iw: (μ.φ r).cap≠0) (mG: (μ.φ r).base+(μ.φ r).cap≤c.size) (fP: ∀x,(enc x).cells= #[enc x])
  (hlen:es'.length=d.size) (hd:d.size≤(μ.φ r).cap) (lf:es'.all (aV · 1)=true) (bp:ag Y μ es' (d.toList.map enc)) (n:Nat) (os:Array Go.Obj):
  Le μ ⟨grow (putRow enc (Go.Sort.ahead μ.w n) (μ.φ r).bY (μ.φ r).base d) os,μ.φ,da μ.O r {μ.O r with es:=some es'}⟩∧bk Y ⟨grow (putRow enc (Go.Sort.ahead μ.w n) (μ.φ r).bY (μ.φ r).base d) os,μ.φ,da μ.O r {μ.O r with es:=some es'}⟩:=by
 have h1:=lT ho r bq gz hb iw (c':=putCells enc (μ.φ r).base d c) (by simp[putCells]) (μ.O r).gen (μ.φ r).base (μ.φ r).cap (es':=es') (vs':=d.toList.map enc) (.inl ⟨rfl,rfl,rfl⟩) iw abV (by rw[bI];exact lf) bp (by rw[bI];omega) (by
  intro i v hv
  rw[List.getElem?_map,aiU] at hv
  obtain⟨x,hx,rfl⟩:=hv
  rw[fP,bI]
  refine⟨rfl,fun j y hy=> ?_⟩
  have hi:i<d.size:=by
    have:=(aiS.1 hx).1
    simpa using this
  have hj:j=0:=by
    rcases ajm j with h| h
    ·exact h
    ·rw[aj0 (by simp;omega)] at hy;simp at hy
  subst hj
  simp at hy
  subst hy
  have hk: (μ.φ r).base+i*1+0 <c.size:=abV
  have Hv:d[i]! =x:=by
    have h2:d[i]? =some x:=by simpa using hx
    have h3:=aiV.1 h2
    obtain⟨h4,h5⟩:=h3
    rw[getElem!_pos d i h4];exact h5
  simp only[putCells,Array.getElem?_mapIdx,ajd hk,ai4]
  rw[if_pos ⟨abV,abV⟩,show (μ.φ r).base+i*1+0 - (μ.φ r).base=i by omega,Hv])
 have e0: (⟨(μ.φ r).bY,(μ.φ r).base,(μ.φ r).cap⟩:Row)=μ.φ r:=rfl
 have e1:da μ.φ r (μ.φ r)=μ.φ:=by funext k;unfold da;split<;>simp_all
 rw[e0,e1] at h1
 obtain⟨le,Gq⟩:=h1
 have hw:putRow enc (Go.Sort.ahead μ.w n) (μ.φ r).bY (μ.φ r).base d={μ.w.setRow (μ.φ r).bY (putCells enc (μ.φ r).base d c) with drawn:=μ.w.drawn+n}:=by
  unfold putRow mapBlock World.setRow Go.Sort.ahead
  congr 1
  apply Array.ext_getElem?
  intro k
  simp only[Array.getElem?_modify]
  by_cases hk: (μ.φ r).bY=k
  · subst hk
    simp only[if_pos rfl,hb,ai4,onCells]
  ·simp only[if_neg hk]
 rw[hw]
 have hold: ∀b,b<μ.w.heap.size→(grow {μ.w.setRow (μ.φ r).bY (putCells enc (μ.φ r).base d c) with drawn:=μ.w.drawn+n} os).heap[b]? =(μ.w.setRow (μ.φ r).bY (putCells enc (μ.φ r).base d c)).heap[b]? :=fun b kK=>by
  have hs:b< (μ.w.setRow (μ.φ r).bY (putCells enc (μ.φ r).base d c)).heap.size:=by simpa [World.setRow] using kK
  simp only[grow]
  rw[Array.getElem?_append_left hs]
 have ny: (μ.w.setRow (μ.φ r).bY (putCells enc (μ.φ r).base d c)).heap.size=μ.w.heap.size:=by simp[World.setRow]
 have K9:Le ⟨μ.w.setRow (μ.φ r).bY (putCells enc (μ.φ r).base d c),μ.φ,da μ.O r {μ.O r with es:=some es'}⟩ ⟨grow {μ.w.setRow (μ.φ r).bY (putCells enc (μ.φ r).base d c) with drawn:=μ.w.drawn+n} os,μ.φ,da μ.O r {μ.O r with es:=some es'}⟩:=
  ⟨by simp[grow],fun b kK wF=> ⟨hold b (by rw[←ny];exact kK),wF⟩,fun _=>aiZ _,fun _ _=> ⟨rfl,rfl⟩,rfl,rfl,rfl,
    fun a ha=>by simp only[World.frozen?];rw[hold a.block (by rw[←ny];exact ha)]⟩
 refine⟨le.trans K9,Gq.ue K9 rfl rfl fun b kK=>hold b (by rw[←ny];exact kK)⟩
theorem Je {α:Type} [Inhabited α] {enc:α→Value} {tv:α→V} {le:α→α→Bool} (FT: ∀x,(enc x).cells= #[enc x]) (ns: ∀x,(tv x).aw=true) (aaB: ∀x,aV (tv x) 1=true)
   (bp: ∀ (Y:Ctx) (μ:Mu) x v,aj Y μ (tv x) v↔v=enc x) (mS:X.P.funcs[F]? =some fn) (iu: (fn.name== "runtime.NumGoroutine")=false) {cd:Code} (gv:fn.body=some cd)
   (vV: ∀a cap w,Calls X.P F #[.slice a 0 cap] w fun e w'=>e= .returned (.tuple #[])∧w'=w)
   (GU: ∀bY off cap (zs:List α) w,Holds enc w bY off zs.toArray→bY<w.heap.size→zs.length< 4611686018427387904→Calls X.P F #[.slice (some ⟨bY,off,none⟩) zs.length cap] w fun e w'=>
     e= .returned (.tuple #[])∧ ∃n os,w'=grow (putRow enc (Go.Sort.ahead w n) bY off (pJ le zs).toArray) os)
   {es:List V} {zs:List α} (bq:es=zs.map tv) (hbig:zs.length< 4611686018427387904):bJ X F [.msl 1 es 0 es.length] ⟨.tuple [],[(0,(pJ le zs).map tv)]⟩:=by
 have Wc: ∀ (Y:Ctx) (μ:Mu) (zs:List α) (vs:List Value),ag Y μ (zs.map tv) vs↔vs=zs.map enc:=by
   intro Y μ zs
   induction zs with
   | nil=>intro vs;cases vs<;>simp[ag]
   | cons z zs ih=>
     intro vs
     cases vs with
     | nil=>simp[ag]
     | cons v vs=>simp only[List.map_cons,ag,bp,ih,akC]
 have aaC: ∀zs:List α,V.al (zs.map tv)=true:=by
   intro zs
   induction zs with
   | nil=>rfl
   | cons z zs ih=>simp only[List.map_cons,V.al,ns,ih,ajD]
 intro B K w φ0 vals hl hv ho
 match vals,hl with
 | [v],_=>
   have h0:=hv 0 v rfl
   have e0: (enter [V.msl 1 es 0 es.length]).T 0= .sl 0 0 0 es.length:=rfl
   have eO: (enter [V.msl 1 es 0 es.length]).O 0={gen:=0,sz:=1,arr:=true,fz:=false,es:=some es}:=rfl
   rw[e0] at h0
   simp only[aj] at h0
   obtain⟨a,cap,rfl,cS,_,bV⟩:=h0
   obtain⟨_,h1,h2⟩:=bV (by rw[eO])
   have hcf: (callFunc F [Value.slice a es.length cap].toArray).run X.P w= .ok (.enter F [Value.slice a es.length cap].toArray) w:=by
     simp[callFunc,Sem.run_bind,program,Sem.run,mS,gv]
     simpa using iu
   rw[hcf]
   simp only[ub]
   have K8:es.length=zs.length:=by rw[bq];simp
   have lL: [Value.slice a es.length cap].toArray= #[.slice a es.length cap]:=rfl
   rw[lL]
   rcases ajm es.length with hz| hz
   · have aaD:zs=[]:=ajT.1 abV
     subst aaD
     have TY:es=[]:=ajT.1 hz
     subst TY
     refine(vV a cap w).mono ?_
     rintro e w' ⟨rfl,rfl⟩
     exact⟨φ0,fun _=>dO,_,.tuple [],[],Le.refl _,ho,by simp only[aj];exact⟨#[],rfl,by simp[ag]⟩,.one (by simp[dQ,V.aw,V.al]),rfl,rfl⟩
   · have Ce:cap≠0:=abV
     have hφ:cap=(φ0 0).cap:=by simpa using h1
     obtain rfl:=h2.resolve_left Ce
     rw[eO]
     simp only[Nat.zero_mul,akl]
     have q1: ((enter [V.msl 1 es 0 es.length]).O 0).es=some es:=by rw[eO]
     have q2: ((enter [V.msl 1 es 0 es.length]).O 0).fz=false:=by rw[eO]
     have q3: ((enter [V.msl 1 es 0 es.length]).O 0).sz=1:=by rw[eO]
     obtain⟨_,XM,lf,dA⟩:=ho.row 0 es q1 (by show 0 < ((enter [V.msl 1 es 0 es.length]).O 0).sz;rw[q3];exact Nat.one_pos)
     rcases dA with dA| ⟨c,T,vs,hblk,mG,ZP,kj⟩
     ·exact absurd (hφ ▸ dA) Ce
     ·simp only[eO] at mG lf kj
      rw[bq] at ZP
      have nn:=(Wc _ _ _ _).1 ZP
      subst nn
      have hH:Holds enc w (φ0 0).bY (φ0 0).base zs.toArray:=by
       intro j hj
       have Tr:j<zs.length:=by simpa using hj
       have:=kj j (enc zs[j]) (by simp[Tr])
       have h3:=this.2 0 (enc zs[j]) (by rw[FT];rfl)
       simp only[Nat.mul_one,akl] at h3
       refine⟨?_,?_⟩
       ·rw[h3];simp[getElem!_pos,Tr]
       ·simp only[World.frozen?,hblk];simp
      have hC:=GU (φ0 0).bY (φ0 0).base cap zs w hH (aiV.1 hblk).1 hbig
      rw[←K8] at hC
      refine hC.mono ?_
      rintro e w' ⟨rfl,n,os,rfl⟩
      have Xv: (pJ le zs).length=es.length:=by rw[K8];exact(oQ _ _).length_eq
      obtain⟨le',Gq⟩:=PD (μ:=⟨w,φ0,(enter [V.msl 1 es 0 es.length]).O⟩) ho (enc:=enc) 0 (es:=es) (es':=(pJ le zs).map tv) (d:=(pJ le zs).toArray) q1 q2 q3 hblk (by rw[←hφ];exact Ce) (by simpa using mG) FT
       abW (by simp only[akF,Xv];exact XM) (by simp only[List.all_map,aiY];intro x _;exact aaB x) ((Wc _ _ _ _).2 abW) n os
      refine⟨φ0,fun _=>dO,_,.tuple [],[],le',Gq,by simp only[aj];exact⟨#[],rfl,by simp[ag]⟩,.one (by simp[dQ,V.aw,V.al]),rfl,?_⟩
      have hp:=aaC (pJ le zs)
      simp only[cO,aA,eO,hp,and_self,if_true]
end
section
variable {X:TrEnv} {F:FuncId} {fn:Func} {ρ:Go.Shelf.Ren}
theorem LI (Ly:Go.Proofs.SlLaysN.n53 X.P ρ) (hF:ρ.f 53=F) (mS:X.P.funcs[F]? =some fn) (iu: (fn.name== "runtime.NumGoroutine")=false) {cd:Code} (gv:fn.body=some cd) {args:List V} {res:eZ} (h:Gw args=some res):bJ X F args res:=by
 unfold Gw at h
 split at h
 ·rename_i es len
  split at h
  ·rename_i hlen
   subst hlen
   split at h
   ·rename_i zs Tt
    split at h
    ·rename_i hbig
     injection h with h;subst h
     refine Je (enc:=Value.int .i64) (le:=PK) (fun _=>rfl) (fun _=>rfl) (fun _=>rfl) (fun Y μ x v=>by simp only[aj]) mS iu gv (fun a cap w=>by have:=Go.Proofs.AnyG.slices_Sort_int_none Ly a cap w;rwa [hF] at this) ?_ (wL Tt) hbig
     intro bY off cap zs w hH hb hl
     have:=Go.Proofs.AnyG.slices_Sort_int Ly bY off cap zs w hH hb hl
     rw[hF,Gv] at this
     exact this
    ·simp at h
   ·simp at h
  ·simp at h
 ·simp at h
end
end Go.AM
namespace Go.AM
open Go Go.RowKit Go.Sort
def xQ (k:Nat) (x:List Int):List Value:=(List.range k).map fun i=>Value.int .i64 (x.getD i 0)
theorem Ul (k:Nat) (x:List Int): (xQ k x).length=k:=by simp[xQ]
theorem WY {z:List Int} {k:Nat} (h:z.length=k):xQ k z=z.map (Value.int .i64):=by
 apply ajS
 intro i
 simp only[xQ,List.getElem?_map,akT,ajB]
 by_cases hi:i<k
 ·rw[akT hi]
  simp[show i<z.length by omega]
 ·rw[ajN (by simp;omega),ajN (l:=z) abV]
  rfl
theorem Gb {Y:Ctx} {μ:Mu}: ∀ {z:List Int} {vs:List Value},ag Y μ (z.map (V.int .i64)) vs↔vs=z.map (Value.int .i64)
 | [],vs=>by cases vs<;>simp[ag]
 | a::z,[]=>by simp[ag]
 | a::z,v::vs=>by simp only[List.map_cons,ag,aj,Gb,akC]
theorem Um {Y:Ctx} {μ:Mu} {z:List Int} {v:Value}:aj Y μ (tx z) v↔v= .agg (z.map (Value.int .i64)).toArray:=by
 simp only[tx,aj]
 constructor
 ·rintro⟨_,vs,rfl,h⟩
  rw[Gb] at h
  rw[←h]
 ·rintro rfl
  exact⟨by simp[aiY,V.aT],_,rfl,Gb.2 rfl⟩
theorem Cf {Y:Ctx} {μ:Mu}: ∀ {zs:List (List Int)} {vs:List Value},ag Y μ (zs.map tx) vs↔vs=zs.map fun z=> .agg (z.map (Value.int .i64)).toArray
 | [],vs=>by cases vs<;>simp[ag]
 | a::z,[]=>by simp[ag]
 | a::z,v::vs=>by simp only[List.map_cons,ag,Um,Cf,akC]
theorem LJ {z:List Int} {k:Nat} (h:z.length=k):aV (tx z) k=true:=by
 simp[aV,tx,V.dh,V.cells,V.isAgg,h]
theorem PE (zs:List (List Int)):V.al (zs.map tx)=true:=by
 induction zs with
 | nil=>rfl
 | cons z zs ih=>
   have: ∀l:List Int,V.al (l.map (V.int .i64))=true:=fun l=>by induction l with| nil=>rfl| cons a l ih=>simp only[List.map_cons,V.al,ih];rfl
   simp only[List.map_cons,V.al,ih,tx,V.aw,this,ajD]
section
variable {X:TrEnv} {F:FuncId} {fn:Func} {ρ:Go.Shelf.Ren}
theorem LK {Y:Ctx} {μ:Mu} (ho:bk Y μ) (r:Nat) {es es':List V} {c:Array Value} {T:TypeId} {Fl:Array Value} {vs':List Value} (bq: (μ.O r).es=some es) (gz: (μ.O r).fz=false)
  (hb:μ.w.heap[(μ.φ r).bY]? =some (.cells c T (0,0))) (iw: (μ.φ r).cap≠0) (mG: (μ.φ r).base+(μ.φ r).cap*(μ.O r).sz≤c.size)
  (hlen:es'.length≤(μ.φ r).cap) (lf:es'.all (aV · (μ.O r).sz)=true) (bp:ag Y μ es' vs')
  (fP: ∀i v,vs'[i]? =some v→v.cells.size=(μ.O r).sz∧ ∀j y,v.cells[j]? =some y→Fl[i*(μ.O r).sz+j]? =some y) (n:Nat) (os:Array Go.Obj):
  Le μ ⟨grow (putRow id (Go.Sort.ahead μ.w n) (μ.φ r).bY (μ.φ r).base Fl) os,μ.φ,da μ.O r {μ.O r with es:=some es'}⟩∧bk Y ⟨grow (putRow id (Go.Sort.ahead μ.w n) (μ.φ r).bY (μ.φ r).base Fl) os,μ.φ,da μ.O r {μ.O r with es:=some es'}⟩:=by
 have h1:=lT ho r bq gz hb iw (c':=putCells id (μ.φ r).base Fl c) (by simp[putCells]) (μ.O r).gen (μ.φ r).base (μ.φ r).cap (es':=es') (vs':=vs') (.inl ⟨rfl,rfl,rfl⟩) iw hlen lf bp mG (by
  intro i v hv
  obtain⟨e1,e2⟩:=fP i v hv
  refine⟨e1,fun j y hy=> ?_⟩
  have h3:=e2 j y hy
  obtain⟨h4,h5⟩:=aiV.1 h3
  have hi:i<es'.length:=by rw[bp.length];exact(aiS.1 hv).1
  have hj:j< (μ.O r).sz:=by rw[←e1];exact(aiV.1 hy).1
  have hk: (μ.φ r).base+i*(μ.O r).sz+j<c.size:=by
    have: (i+1)*(μ.O r).sz≤(μ.φ r).cap*(μ.O r).sz:=ajA _ abV
    rw[ajo,Nat.one_mul] at this
    omega
  simp only[putCells,Array.getElem?_mapIdx,ajd hk,ai4,id_eq]
  rw[if_pos ⟨abV,abV⟩,show (μ.φ r).base+i*(μ.O r).sz+j - (μ.φ r).base=i*(μ.O r).sz+j by omega,getElem!_pos Fl _ h4,h5])
 have e0: (⟨(μ.φ r).bY,(μ.φ r).base,(μ.φ r).cap⟩:Row)=μ.φ r:=rfl
 have e1:da μ.φ r (μ.φ r)=μ.φ:=by funext k;unfold da;split<;>simp_all
 rw[e0,e1] at h1
 obtain⟨le,Gq⟩:=h1
 have hw:putRow id (Go.Sort.ahead μ.w n) (μ.φ r).bY (μ.φ r).base Fl={μ.w.setRow (μ.φ r).bY (putCells id (μ.φ r).base Fl c) with drawn:=μ.w.drawn+n}:=by
  unfold putRow mapBlock World.setRow Go.Sort.ahead
  congr 1
  apply Array.ext_getElem?
  intro k
  simp only[Array.getElem?_modify]
  by_cases hk: (μ.φ r).bY=k
  · subst hk
    simp only[if_pos rfl,hb,ai4,onCells]
  ·simp only[if_neg hk]
 rw[hw]
 generalize putCells id (μ.φ r).base Fl c=c' at*
 have ny: (μ.w.setRow (μ.φ r).bY c').heap.size=μ.w.heap.size:=by simp[World.setRow]
 have hold: ∀b,b<μ.w.heap.size→(grow {μ.w.setRow (μ.φ r).bY c' with drawn:=μ.w.drawn+n} os).heap[b]? =(μ.w.setRow (μ.φ r).bY c').heap[b]? :=fun b kK=>by
  have hs:b< (μ.w.setRow (μ.φ r).bY c').heap.size:=by rw[ny];exact kK
  simp only[grow]
  rw[Array.getElem?_append_left hs]
 have K9:Le ⟨μ.w.setRow (μ.φ r).bY c',μ.φ,da μ.O r {μ.O r with es:=some es'}⟩ ⟨grow {μ.w.setRow (μ.φ r).bY c' with drawn:=μ.w.drawn+n} os,μ.φ,da μ.O r {μ.O r with es:=some es'}⟩:=
  ⟨by simp[grow],fun b kK wF=> ⟨hold b (by rw[←ny];exact kK),wF⟩,fun _=>aiZ _,fun _ _=> ⟨rfl,rfl⟩,rfl,rfl,rfl,
    fun a ha=>by simp only[World.frozen?];rw[hold a.block (by rw[←ny];exact ha)]⟩
 exact⟨le.trans K9,Gq.ue K9 rfl rfl fun b kK=>hold b (by rw[←ny];exact kK)⟩
theorem M5 {k:Nat} {zs:List (List Int)} (hk: ∀z ∈ zs,z.length=k) {i j:Nat} {v y:Value} (hv: (zs.map fun z=>Value.agg (z.map (Value.int .i64)).toArray)[i]? =some v) (hy:v.cells[j]? =some y): (flatK (xQ k) k zs.toArray)[i*k+j]? =some y:=by
 rw[List.getElem?_map,aiU] at hv
 obtain⟨z,hz,rfl⟩:=hv
 have hzk:=hk z (List.mem_of_getElem? hz)
 obtain⟨hi,hzi⟩:=aiS.1 hz
 have J2: (z.map (Value.int .i64))[j]? =some y:=by simpa [Value.cells] using hy
 have hj:j<k:=by have:=(aiS.1 J2).1;simp at this;omega
 have ht:i*k+j<zs.toArray.size*k:=by
  have: (i+1)*k≤zs.length*k:=ajA _ hi
  rw[ajo,Nat.one_mul] at this
  simp;omega
 have h1:=get_flatK (xQ k) k zs.toArray (i*k+j) ht
 rw[getElem!_pos _ _ (by simpa using ht)] at h1
 rw[ajd (by simpa using ht),h1]
 have e1: (i*k+j) / k=i:=by rw[akm,Nat.mul_add_div abV,Nat.div_eq_of_lt hj];omega
 have e2: (i*k+j) % k=j:=by rw[akm,Nat.mul_add_mod,akh hj]
 rw[e1,e2,getElem!_pos zs.toArray i (by simpa using hi)]
 have e3:zs.toArray[i]'(by simpa using hi)=z:=by simpa using hzi
 rw[e3,WY hzk]
 obtain⟨h4,h5⟩:=aiS.1 J2
 rw[getElem!_pos (z.map (Value.int .i64)) j h4,h5]
theorem rH (Ly:Go.Proofs.SlLaysF0.n6 X.P ρ) (hF:ρ.f 6=F) (mS:X.P.funcs[F]? =some fn) (iu: (fn.name== "runtime.NumGoroutine")=false) {cd:Code} (gv:fn.body=some cd) {k g:Nat} {G:FuncId}
   (aE: ∀w,(isAgg (ρ.t 24)).run X.P w= .ok true w) (zE: ∀w,(Go.sizeOf (ρ.t 24)).run X.P w= .ok k w) {cf:List Int→List Int→Int} (hO:SWO (Go.Proofs.ltOf cf)) (hG: ∀G',X.fH G'=some g→G'=G)
   (eg: ∀args w,(callFunc G args).run X.P w= .ok (.enter G args) w) (iB: ∀x y W,Calls X.P G #[.agg (xQ k x).toArray,.agg (xQ k y).toArray] W fun e w'=>e= .returned (.int .i64 (cf x y))∧ ∃q PB,w'=grow (W.drewN q) PB)
   {args:List V} {res:eZ} (h:lZ k g cf args=some res):bJ X F args res:=by
 unfold lZ at h
 split at h
 rotate_left
 ·simp at h
 rename_i k' es len g'
 split at h
 rotate_left
 ·simp at h
 rename_i hc
 obtain⟨rfl,rfl,rfl,hk0⟩:=hc
 split at h
 rotate_left
 ·simp at h
 rename_i zs Tt
 split at h
 rotate_left
 ·simp at h
 rename_i hbig
 injection h with h;subst h
 obtain⟨bq,hzk⟩:=C5 Tt
 intro B K w φ0 vals hl hv ho
 match vals,hl with
 | [v,fv],_=>
   have h0:=hv 0 v rfl
   have h1f:=hv 1 fv rfl
   have e0: (enter [V.msl k' es 0 es.length,.fn g' []]).T 0= .sl 0 0 0 es.length:=rfl
   have e1: (enter [V.msl k' es 0 es.length,.fn g' []]).T 1= .fn g' []:=rfl
   have eO: (enter [V.msl k' es 0 es.length,.fn g' []]).O 0={gen:=0,sz:=k',arr:=true,fz:=false,es:=some es}:=rfl
   rw[e0] at h0
   rw[e1] at h1f
   simp only[aj] at h0 h1f
   obtain⟨G',cv,rfl,PU,hcv⟩:=h1f
   obtain rfl:=hG _ PU
   have aid:cv= #[]:=by
     rcases cv with⟨cv⟩
     cases cv with
     | nil=>rfl
     | cons a l=>simp[ag] at hcv
   subst aid
   obtain⟨a,cap,rfl,cS,_,bV⟩:=h0
   obtain⟨_,h1,h2⟩:=bV (by rw[eO])
   rw[show (callFunc F [Value.slice a es.length cap,.func (.func G') #[] #[]].toArray).run X.P w= .ok (.enter F [Value.slice a es.length cap,.func (.func G') #[] #[]].toArray) w by
     simp[callFunc,Sem.run_bind,program,Sem.run,mS,gv]
     simpa using iu]
   simp only[ub]
   have K8:es.length=zs.length:=by rw[bq];simp
   have lL: [Value.slice a es.length cap,.func (.func G') #[] #[]].toArray= #[.slice a es.length cap,.func (.func G') #[] #[]]:=rfl
   rw[lL]
   rcases ajm es.length with hz| hz
   · have aaD:zs=[]:=ajT.1 abV
     subst aaD
     have TY:es=[]:=ajT.1 hz
     subst TY
     have hn:=Go.Proofs.AnyF.slices_SortFunc_none Ly a cap (.func (.func G') #[] #[]) w
     rw[hF] at hn
     refine hn.mono ?_
     rintro e w' ⟨rfl,rfl⟩
     exact⟨φ0,fun _=>dO,_,.tuple [],[],Le.refl _,ho,by simp only[aj];exact⟨#[],rfl,by simp[ag]⟩,.one (by simp[dQ,V.aw,V.al]),rfl,by rw[List.perm_nil.1 (wM hO [])];simp only[cO,eO,V.al,and_self,if_true];rfl⟩
   · have Ce:cap≠0:=abV
     have hφ:cap=(φ0 0).cap:=by simpa using h1
     obtain rfl:=h2.resolve_left Ce
     rw[eO]
     simp only[Nat.zero_mul,akl]
     have q1: ((enter [V.msl k' es 0 es.length,.fn g' []]).O 0).es=some es:=by rw[eO]
     have q2: ((enter [V.msl k' es 0 es.length,.fn g' []]).O 0).fz=false:=by rw[eO]
     have q3: ((enter [V.msl k' es 0 es.length,.fn g' []]).O 0).sz=k':=by rw[eO]
     obtain⟨_,XM,lf,dA⟩:=ho.row 0 es q1 (by show 0 < ((enter [V.msl k' es 0 es.length,.fn g' []]).O 0).sz;rw[q3];exact hk0)
     rcases dA with dA| ⟨c,T,vs,hblk,mG,ZP,kj⟩
     ·exact absurd (hφ ▸ dA) Ce
     ·simp only[eO] at mG lf kj
      rw[bq] at ZP
      have nn:=Cf.1 ZP
      subst nn
      have hH:HoldsK (xQ k') k' w (φ0 0).bY (φ0 0).base zs.toArray:=by
       intro t ht
       have lE:t<zs.length*k':=by simpa using ht
       have hi:t / k'<zs.length:=by rw[Nat.div_lt_iff_lt_mul hk0];exact lE
       have hj:t % k'<k':=Nat.mod_lt _ hk0
       have hzi:=hzk zs[t / k'] (ajI hi)
       obtain⟨y,hy⟩: ∃y,(Value.agg (zs[t / k'].map (Value.int .i64)).toArray).cells[t % k']? =some y:=⟨.int .i64 (zs[t / k']'hi)[t % k'],by simp[Value.cells,hzi,hj]⟩
       have h3:=kj (t / k') _ (by rw[List.getElem?_map,aiW hi];rfl)
       have h4:=h3.2 _ _ hy
       have h5:=M5 (i:=t / k') (j:=t % k') hzk (by rw[List.getElem?_map,aiW hi];rfl) hy
       have et:t / k'*k'+t % k'=t:=by rw[akm];exact Nat.div_add_mod t k'
       rw[et] at h5
       obtain⟨h6,h7⟩:=aiV.1 h5
       rw[aky,et] at h4
       refine⟨?_,?_⟩
       ·rw[h4,getElem!_pos (flatK (xQ k') k' zs.toArray) t h6,h7];rfl
       ·simp only[World.frozen?,hblk];simp
      have hC:=Go.Proofs.AnyQ.slices_SortFunc_eq Ly k' aE zE (xQ k') (Ul k') (fun x v hv=>by simp only[xQ,ai9] at hv;obtain⟨_,_,rfl⟩:=hv;rfl) cf hO G' #[] (φ0 0).bY (φ0 0).base cap zs.toArray w eg
       (fun m os dk hdk x y=>iB x y _) hH (aiV.1 hblk).1 (by simpa using hbig)
      rw[hF,show zs.toArray.size=es.length by simp[K8]] at hC
      refine hC.mono ?_
      rintro e w' ⟨rfl,n,os,rfl⟩
      have hpm:=wM hO zs
      have Xv: (yT cf zs).length=es.length:=by rw[K8];exact hpm.length_eq
      have Uy: ∀z ∈ yT cf zs,z.length=k':=fun z hz=>hzk z (hpm.mem_iff.1 hz)
      have ep:pdq (Go.Proofs.ltOf cf) zs.toArray 0 es.length (Go.Lib.bitLen es.length) true true=(yT cf zs).toArray:=by rw[K8];unfold yT;simp
      rw[ep]
      obtain⟨le',Gq⟩:=LK (μ:=⟨w,φ0,(enter [V.msl k' es 0 es.length,.fn g' []]).O⟩) ho 0 (es:=es) (es':=(yT cf zs).map tx) (Fl:=flatK (xQ k') k' (yT cf zs).toArray) q1 q2 hblk (by rw[←hφ];exact Ce) (by rw[q3];exact mG)
       (by rw[List.length_map,Xv];exact XM) (by
         rw[q3]
         simp only[List.all_map,aiY]
         intro z hz
         exact LJ (Uy z hz)) (Cf.2 rfl) (fun i v hv=>by
         rw[q3]
         refine⟨?_,fun j y hy=>M5 Uy hv hy⟩
         rw[List.getElem?_map,aiU] at hv
         obtain⟨z,hz,rfl⟩:=hv
         simp[Value.cells,Uy z (List.mem_of_getElem? hz)]) n os
      refine⟨φ0,fun _=>dO,_,.tuple [],[],le',Gq,by simp only[aj];exact⟨#[],rfl,by simp[ag]⟩,.one (by simp[dQ,V.aw,V.al]),rfl,?_⟩
      have hp:=PE (yT cf zs)
      simp only[cO,aA,eO,hp,and_self,if_true]
end
end Go.AM
