/- Texts of the proof. -/
import Derived.Test.YtdifmldbllaeiaaGreatOpsC
import Derived.Test.YtdifmldbllaeiaaGreatSd
import Derived.Shelf.SortG.Plain
import Derived.Shelf.SortG.SortNone
import Derived.Shelf.SlSortCmp.NoneTotal
set_option linter.unusedSimpArgs false
set_option linter.unusedVariables false
namespace Go.AM
open Go Go.RowKit Go.Sort
section
variable {X:TrEnv} {F:FuncId} {fn:Func}
theorem Mp {Y:Ctx} {μ:Mu} (ho:ba Y μ) {α:Type} [Inhabited α] {enc:α→Value} (r:Nat) {es es':List V} {c:Array Value} {T:TypeId} {d:Array α} (bo: (μ.O r).es=some es) (gu: (μ.O r).fz=false) (bF: (μ.O r).sz=1)
  (hb:μ.w.heap[(μ.φ r).bV]? =some (.cells c T (0,0))) (il: (μ.φ r).cap≠0) (lM: (μ.φ r).base+(μ.φ r).cap≤c.size) (dX: ∀x,(enc x).cells= #[enc x])
  (hlen:es'.length=d.size) (hd:d.size≤(μ.φ r).cap) (jM:es'.all (aU · 1)=true) (bl:ag Y μ es' (d.toList.map enc)) (n:Nat) (os:Array Go.Obj):
  Le μ ⟨grow (putRow enc (Go.Sort.ahead μ.w n) (μ.φ r).bV (μ.φ r).base d) os,μ.φ,cU μ.O r {μ.O r with es:=some es'}⟩∧ba Y ⟨grow (putRow enc (Go.Sort.ahead μ.w n) (μ.φ r).bV (μ.φ r).base d) os,μ.φ,cU μ.O r {μ.O r with es:=some es'}⟩:=by
 have h1:=kU ho r bo gu hb il (c':=putCells enc (μ.φ r).base d c) (by simp[putCells]) (μ.O r).gen (μ.φ r).base (μ.φ r).cap (es':=es') (vs':=d.toList.map enc) (.inl ⟨rfl,rfl,rfl⟩) il ae0 (by rw[bF];exact jM) bl (by rw[bF];omega) (by
  intro i v hv
  rw[age,afZ] at hv
  obtain⟨x,hx,rfl⟩:=hv
  rw[dX,bF]
  refine⟨rfl,fun j y hy=> ?_⟩
  have hi:i<d.size:=by
    have:=(af0.1 hx).1
    simpa using this
  have hj:j=0:=by
    rcases agr j with h| h
    ·exact h
    ·rw[agX (by simp;omega)] at hy;simp at hy
  subst hj
  simp at hy
  subst hy
  have hk: (μ.φ r).base+i*1+0 <c.size:=ae0
  have Fb:d[i]! =x:=by
    have h2:d[i]? =some x:=by simpa using hx
    have h3:=af1.1 h2
    obtain⟨h4,h5⟩:=h3
    rw[getElem!_pos d i h4];exact h5
  simp only[putCells,Array.getElem?_mapIdx,agl hk,agc]
  rw[if_pos ⟨ae0,ae0⟩,show (μ.φ r).base+i*1+0 - (μ.φ r).base=i by omega,Fb])
 have e0: (⟨(μ.φ r).bV,(μ.φ r).base,(μ.φ r).cap⟩:Row)=μ.φ r:=rfl
 have e1:cU μ.φ r (μ.φ r)=μ.φ:=by funext k;unfold cU;split<;>simp_all
 rw[e0,e1] at h1
 obtain⟨le,D4⟩:=h1
 have hw:putRow enc (Go.Sort.ahead μ.w n) (μ.φ r).bV (μ.φ r).base d={μ.w.setRow (μ.φ r).bV (putCells enc (μ.φ r).base d c) with drawn:=μ.w.drawn+n}:=by
  unfold putRow mapBlock World.setRow Go.Sort.ahead
  congr 1
  apply Array.ext_getElem?
  intro k
  simp only[Array.getElem?_modify]
  by_cases hk: (μ.φ r).bV=k
  · subst hk
    simp only[if_pos rfl,hb,agc,onCells]
  ·simp only[if_neg hk]
 rw[hw]
 have hold: ∀b,b<μ.w.heap.size→(grow {μ.w.setRow (μ.φ r).bV (putCells enc (μ.φ r).base d c) with drawn:=μ.w.drawn+n} os).heap[b]? =(μ.w.setRow (μ.φ r).bV (putCells enc (μ.φ r).base d c)).heap[b]? :=fun b kI=>by
  have hs:b< (μ.w.setRow (μ.φ r).bV (putCells enc (μ.φ r).base d c)).heap.size:=by simpa [World.setRow] using kI
  simp only[grow]
  rw[Array.getElem?_append_left hs]
 have mC: (μ.w.setRow (μ.φ r).bV (putCells enc (μ.φ r).base d c)).heap.size=μ.w.heap.size:=by simp[World.setRow]
 have Iu:Le ⟨μ.w.setRow (μ.φ r).bV (putCells enc (μ.φ r).base d c),μ.φ,cU μ.O r {μ.O r with es:=some es'}⟩ ⟨grow {μ.w.setRow (μ.φ r).bV (putCells enc (μ.φ r).base d c) with drawn:=μ.w.drawn+n} os,μ.φ,cU μ.O r {μ.O r with es:=some es'}⟩:=
  ⟨by simp[grow],fun b kI uR=> ⟨hold b (by rw[←mC];exact kI),uR⟩,fun _=>af6 _,fun _ _=> ⟨rfl,rfl⟩,rfl,rfl,rfl,
    fun a ha=>by simp only[World.frozen?];rw[hold a.block (by rw[←mC];exact ha)]⟩
 refine⟨le.trans Iu,D4.sE Iu rfl rfl fun b kI=>hold b (by rw[←mC];exact kI)⟩
theorem GJ {α:Type} [Inhabited α] {enc:α→Value} {tv:α→V} {le:α→α→Bool} (DA: ∀x,(enc x).cells= #[enc x]) (mz: ∀x,(tv x).au=true) (Xa: ∀x,aU (tv x) 1=true)
   (bl: ∀ (Y:Ctx) (μ:Mu) x v,aj Y μ (tv x) v↔v=enc x) (mc:X.P.funcs[F]? =some fn) (gQ: (fn.name== "runtime.NumGoroutine")=false) {cd:Code} (fS:fn.body=some cd)
   (uz: ∀a cap w,Calls X.P F #[.slice a 0 cap] w fun e w'=>e= .returned (.tuple #[])∧w'=w)
   (EA: ∀bV off cap (zs:List α) w,Holds enc w bV off zs.toArray→bV<w.heap.size→zs.length< 4611686018427387904→Calls X.P F #[.slice (some ⟨bV,off,none⟩) zs.length cap] w fun e w'=>
     e= .returned (.tuple #[])∧ ∃n os,w'=grow (putRow enc (Go.Sort.ahead w n) bV off (oJ le zs).toArray) os)
   {es:List V} {zs:List α} (bo:es=zs.map tv) (hbig:zs.length< 4611686018427387904):bG X F [.msl 1 es 0 es.length] ⟨.tuple [],[(0,(oJ le zs).map tv)]⟩:=by
 have SY: ∀ (Y:Ctx) (μ:Mu) (zs:List α) (vs:List Value),ag Y μ (zs.map tv) vs↔vs=zs.map enc:=by
   intro Y μ zs
   induction zs with
   | nil=>intro vs;cases vs<;>simp[ag]
   | cons z zs ih=>
     intro vs
     cases vs with
     | nil=>simp[ag]
     | cons v vs=>simp only[List.map_cons,ag,bl,ih,ahK]
 have Xb: ∀zs:List α,V.ak (zs.map tv)=true:=by
   intro zs
   induction zs with
   | nil=>rfl
   | cons z zs ih=>simp only[List.map_cons,V.ak,mz,ih,agE]
 intro B K w φ0 vals hl hv ho
 match vals,hl with
 | [v],_=>
   have h0:=hv 0 v rfl
   have e0: (enter [V.msl 1 es 0 es.length]).T 0= .sl 0 0 0 es.length:=rfl
   have eO: (enter [V.msl 1 es 0 es.length]).O 0={gen:=0,sz:=1,arr:=true,fz:=false,es:=some es}:=rfl
   rw[e0] at h0
   simp only[aj] at h0
   obtain⟨a,cap,rfl,cM,_,bT⟩:=h0
   obtain⟨_,h1,h2⟩:=bT (by rw[eO])
   have WR: (callFunc F [Value.slice a es.length cap].toArray).run X.P w= .ok (.enter F [Value.slice a es.length cap].toArray) w:=by
     simp[callFunc,Sem.run_bind,program,Sem.run,mc,fS]
     simpa using gQ
   rw[WR]
   simp only[sC]
   have It:es.length=zs.length:=by rw[bo];simp
   have kN: [Value.slice a es.length cap].toArray= #[.slice a es.length cap]:=rfl
   rw[kN]
   rcases agr es.length with hz| hz
   · have Xc:zs=[]:=agR.1 ae0
     subst Xc
     have QA:es=[]:=agR.1 hz
     subst QA
     refine(uz a cap w).mono ?_
     rintro e w' ⟨rfl,rfl⟩
     exact⟨φ0,fun _=>dE,_,.tuple [],[],Le.refl _,ho,by simp only[aj];exact⟨#[],rfl,by simp[ag]⟩,.one (by simp[dH,V.au,V.ak]),rfl,rfl⟩
   · have Af:cap≠0:=ae0
     have hφ:cap=(φ0 0).cap:=by simpa using h1
     obtain rfl:=h2.resolve_left Af
     rw[eO]
     simp only[Nat.zero_mul,ahk]
     have q1: ((enter [V.msl 1 es 0 es.length]).O 0).es=some es:=by rw[eO]
     have q2: ((enter [V.msl 1 es 0 es.length]).O 0).fz=false:=by rw[eO]
     have q3: ((enter [V.msl 1 es 0 es.length]).O 0).sz=1:=by rw[eO]
     obtain⟨_,Uv,jM,dg⟩:=ho.row 0 es q1 (by show 0 < ((enter [V.msl 1 es 0 es.length]).O 0).sz;rw[q3];exact Nat.one_pos)
     rcases dg with dg| ⟨c,T,vs,hblk,lM,Wf,iG⟩
     ·exact absurd (hφ ▸ dg) Af
     ·simp only[eO] at lM jM iG
      rw[bo] at Wf
      have lE:=(SY _ _ _ _).1 Wf
      subst lE
      have hH:Holds enc w (φ0 0).bV (φ0 0).base zs.toArray:=by
       intro j hj
       have P6:j<zs.length:=by simpa using hj
       have:=iG j (enc zs[j]) (by simp[P6])
       have h3:=this.2 0 (enc zs[j]) (by rw[DA];rfl)
       simp only[Nat.mul_one,ahk] at h3
       refine⟨?_,?_⟩
       ·rw[h3];simp[getElem!_pos,P6]
       ·simp only[World.frozen?,hblk];simp
      have hC:=EA (φ0 0).bV (φ0 0).base cap zs w hH (af1.1 hblk).1 hbig
      rw[←It] at hC
      refine hC.mono ?_
      rintro e w' ⟨rfl,n,os,rfl⟩
      have hsl: (oJ le zs).length=es.length:=by rw[It];exact(nP _ _).length_eq
      obtain⟨le',D4⟩:=Mp (μ:=⟨w,φ0,(enter [V.msl 1 es 0 es.length]).O⟩) ho (enc:=enc) 0 (es:=es) (es':=(oJ le zs).map tv) (d:=(oJ le zs).toArray) q1 q2 q3 hblk (by rw[←hφ];exact Af) (by simpa using lM) DA
       afU (by simp only[ahv,hsl];exact Uv) (by simp only[List.all_map,af5];intro x _;exact Xa x) ((SY _ _ _ _).2 afU) n os
      refine⟨φ0,fun _=>dE,_,.tuple [],[],le',D4,by simp only[aj];exact⟨#[],rfl,by simp[ag]⟩,.one (by simp[dH,V.au,V.ak]),rfl,?_⟩
      have hp:=Xb (oJ le zs)
      simp only[cI,aw,eO,hp,and_self,if_true]
end
section
variable {X:TrEnv} {F:FuncId} {fn:Func} {ρ:Go.Shelf.Ren}
theorem I3 (Ly:Go.Proofs.SlLaysN.n53 X.P ρ) (hF:ρ.f 53=F) (mc:X.P.funcs[F]? =some fn) (gQ: (fn.name== "runtime.NumGoroutine")=false) {cd:Code} (fS:fn.body=some cd) {args:List V} {res:eL} (h:Ea args=some res):bG X F args res:=by
 unfold Ea at h
 split at h
 ·rename_i es len
  split at h
  ·rename_i hlen
   subst hlen
   split at h
   ·rename_i zs P8
    split at h
    ·rename_i hbig
     injection h with h;subst h
     refine GJ (enc:=Value.int .i64) (le:=My) (fun _=>rfl) (fun _=>rfl) (fun _=>rfl) (fun Y μ x v=>by simp only[aj]) mc gQ fS (fun a cap w=>by have:=Go.Proofs.AnyG.slices_Sort_int_none Ly a cap w;rwa [hF] at this) ?_ (uW P8) hbig
     intro bV off cap zs w hH hb hl
     have:=Go.Proofs.AnyG.slices_Sort_int Ly bV off cap zs w hH hb hl
     rw[hF,D9] at this
     exact this
    ·simp at h
   ·simp at h
  ·simp at h
 ·simp at h
end
end Go.AM
namespace Go.AM
open Go Go.RowKit Go.Sort
def vQ (k:Nat) (x:List Int):List Value:=(List.range k).map fun i=>Value.int .i64 (x.getD i 0)
theorem QO (k:Nat) (x:List Int): (vQ k x).length=k:=by simp[vQ]
theorem TF {z:List Int} {k:Nat} (h:z.length=k):vQ k z=z.map (Value.int .i64):=by
 apply agQ
 intro i
 simp only[vQ,age,ahU,agL]
 by_cases hi:i<k
 ·rw[ahU hi]
  simp[show i<z.length by omega]
 ·rw[agZ (by simp;omega),agZ (l:=z) ae0]
  rfl
theorem DR {Y:Ctx} {μ:Mu}: ∀ {z:List Int} {vs:List Value},ag Y μ (z.map (V.int .i64)) vs↔vs=z.map (Value.int .i64)
 | [],vs=>by cases vs<;>simp[ag]
 | a::z,[]=>by simp[ag]
 | a::z,v::vs=>by simp only[List.map_cons,ag,aj,DR,ahK]
theorem QP {Y:Ctx} {μ:Mu} {z:List Int} {v:Value}:aj Y μ (sR z) v↔v= .agg (z.map (Value.int .i64)).toArray:=by
 simp only[sR,aj]
 constructor
 ·rintro⟨_,vs,rfl,h⟩
  rw[DR] at h
  rw[←h]
 ·rintro rfl
  exact⟨by simp[af5,V.aR],_,rfl,DR.2 rfl⟩
theorem Ag {Y:Ctx} {μ:Mu}: ∀ {zs:List (List Int)} {vs:List Value},ag Y μ (zs.map sR) vs↔vs=zs.map fun z=> .agg (z.map (Value.int .i64)).toArray
 | [],vs=>by cases vs<;>simp[ag]
 | a::z,[]=>by simp[ag]
 | a::z,v::vs=>by simp only[List.map_cons,ag,QP,Ag,ahK]
theorem I4 {z:List Int} {k:Nat} (h:z.length=k):aU (sR z) k=true:=by
 simp[aU,sR,V.da,V.cells,V.isAgg,h]
theorem Mq (zs:List (List Int)):V.ak (zs.map sR)=true:=by
 induction zs with
 | nil=>rfl
 | cons z zs ih=>
   have: ∀l:List Int,V.ak (l.map (V.int .i64))=true:=fun l=>by induction l with| nil=>rfl| cons a l ih=>simp only[List.map_cons,V.ak,ih];rfl
   simp only[List.map_cons,V.ak,ih,sR,V.au,this,agE]
section
variable {X:TrEnv} {F:FuncId} {fn:Func} {ρ:Go.Shelf.Ren}
theorem I5 {Y:Ctx} {μ:Mu} (ho:ba Y μ) (r:Nat) {es es':List V} {c:Array Value} {T:TypeId} {Fl:Array Value} {vs':List Value} (bo: (μ.O r).es=some es) (gu: (μ.O r).fz=false)
  (hb:μ.w.heap[(μ.φ r).bV]? =some (.cells c T (0,0))) (il: (μ.φ r).cap≠0) (lM: (μ.φ r).base+(μ.φ r).cap*(μ.O r).sz≤c.size)
  (hlen:es'.length≤(μ.φ r).cap) (jM:es'.all (aU · (μ.O r).sz)=true) (bl:ag Y μ es' vs')
  (dX: ∀i v,vs'[i]? =some v→v.cells.size=(μ.O r).sz∧ ∀j y,v.cells[j]? =some y→Fl[i*(μ.O r).sz+j]? =some y) (n:Nat) (os:Array Go.Obj):
  Le μ ⟨grow (putRow id (Go.Sort.ahead μ.w n) (μ.φ r).bV (μ.φ r).base Fl) os,μ.φ,cU μ.O r {μ.O r with es:=some es'}⟩∧ba Y ⟨grow (putRow id (Go.Sort.ahead μ.w n) (μ.φ r).bV (μ.φ r).base Fl) os,μ.φ,cU μ.O r {μ.O r with es:=some es'}⟩:=by
 have h1:=kU ho r bo gu hb il (c':=putCells id (μ.φ r).base Fl c) (by simp[putCells]) (μ.O r).gen (μ.φ r).base (μ.φ r).cap (es':=es') (vs':=vs') (.inl ⟨rfl,rfl,rfl⟩) il hlen jM bl lM (by
  intro i v hv
  obtain⟨e1,e2⟩:=dX i v hv
  refine⟨e1,fun j y hy=> ?_⟩
  have h3:=e2 j y hy
  obtain⟨h4,h5⟩:=af1.1 h3
  have hi:i<es'.length:=by rw[bl.length];exact(af0.1 hv).1
  have hj:j< (μ.O r).sz:=by rw[←e1];exact(af1.1 hy).1
  have hk: (μ.φ r).base+i*(μ.O r).sz+j<c.size:=by
    have: (i+1)*(μ.O r).sz≤(μ.φ r).cap*(μ.O r).sz:=agC _ ae0
    rw[agv,Nat.one_mul] at this
    omega
  simp only[putCells,Array.getElem?_mapIdx,agl hk,agc,id_eq]
  rw[if_pos ⟨ae0,ae0⟩,show (μ.φ r).base+i*(μ.O r).sz+j - (μ.φ r).base=i*(μ.O r).sz+j by omega,getElem!_pos Fl _ h4,h5])
 have e0: (⟨(μ.φ r).bV,(μ.φ r).base,(μ.φ r).cap⟩:Row)=μ.φ r:=rfl
 have e1:cU μ.φ r (μ.φ r)=μ.φ:=by funext k;unfold cU;split<;>simp_all
 rw[e0,e1] at h1
 obtain⟨le,D4⟩:=h1
 have hw:putRow id (Go.Sort.ahead μ.w n) (μ.φ r).bV (μ.φ r).base Fl={μ.w.setRow (μ.φ r).bV (putCells id (μ.φ r).base Fl c) with drawn:=μ.w.drawn+n}:=by
  unfold putRow mapBlock World.setRow Go.Sort.ahead
  congr 1
  apply Array.ext_getElem?
  intro k
  simp only[Array.getElem?_modify]
  by_cases hk: (μ.φ r).bV=k
  · subst hk
    simp only[if_pos rfl,hb,agc,onCells]
  ·simp only[if_neg hk]
 rw[hw]
 generalize putCells id (μ.φ r).base Fl c=c' at*
 have mC: (μ.w.setRow (μ.φ r).bV c').heap.size=μ.w.heap.size:=by simp[World.setRow]
 have hold: ∀b,b<μ.w.heap.size→(grow {μ.w.setRow (μ.φ r).bV c' with drawn:=μ.w.drawn+n} os).heap[b]? =(μ.w.setRow (μ.φ r).bV c').heap[b]? :=fun b kI=>by
  have hs:b< (μ.w.setRow (μ.φ r).bV c').heap.size:=by rw[mC];exact kI
  simp only[grow]
  rw[Array.getElem?_append_left hs]
 have Iu:Le ⟨μ.w.setRow (μ.φ r).bV c',μ.φ,cU μ.O r {μ.O r with es:=some es'}⟩ ⟨grow {μ.w.setRow (μ.φ r).bV c' with drawn:=μ.w.drawn+n} os,μ.φ,cU μ.O r {μ.O r with es:=some es'}⟩:=
  ⟨by simp[grow],fun b kI uR=> ⟨hold b (by rw[←mC];exact kI),uR⟩,fun _=>af6 _,fun _ _=> ⟨rfl,rfl⟩,rfl,rfl,rfl,
    fun a ha=>by simp only[World.frozen?];rw[hold a.block (by rw[←mC];exact ha)]⟩
 exact⟨le.trans Iu,D4.sE Iu rfl rfl fun b kI=>hold b (by rw[←mC];exact kI)⟩
theorem Ki {k:Nat} {zs:List (List Int)} (hk: ∀z ∈ zs,z.length=k) {i j:Nat} {v y:Value} (hv: (zs.map fun z=>Value.agg (z.map (Value.int .i64)).toArray)[i]? =some v) (hy:v.cells[j]? =some y): (flatK (vQ k) k zs.toArray)[i*k+j]? =some y:=by
 rw[age,afZ] at hv
 obtain⟨z,hz,rfl⟩:=hv
 have hzk:=hk z (List.mem_of_getElem? hz)
 obtain⟨hi,hzi⟩:=af0.1 hz
 have Hu: (z.map (Value.int .i64))[j]? =some y:=by simpa [Value.cells] using hy
 have hj:j<k:=by have:=(af0.1 Hu).1;simp at this;omega
 have ht:i*k+j<zs.toArray.size*k:=by
  have: (i+1)*k≤zs.length*k:=agC _ hi
  rw[agv,Nat.one_mul] at this
  simp;omega
 have h1:=get_flatK (vQ k) k zs.toArray (i*k+j) ht
 rw[getElem!_pos _ _ (by simpa using ht)] at h1
 rw[agl (by simpa using ht),h1]
 have e1: (i*k+j) / k=i:=by rw[ahj,Nat.mul_add_div ae0,Nat.div_eq_of_lt hj];omega
 have e2: (i*k+j) % k=j:=by rw[ahj,Nat.mul_add_mod,Nat.mod_eq_of_lt hj]
 rw[e1,e2,getElem!_pos zs.toArray i (by simpa using hi)]
 have e3:zs.toArray[i]'(by simpa using hi)=z:=by simpa using hzi
 rw[e3,TF hzk]
 obtain⟨h4,h5⟩:=af0.1 Hu
 rw[getElem!_pos (z.map (Value.int .i64)) j h4,h5]
theorem qt (Ly:Go.Proofs.SlLaysF0.n6 X.P ρ) (hF:ρ.f 6=F) (mc:X.P.funcs[F]? =some fn) (gQ: (fn.name== "runtime.NumGoroutine")=false) {cd:Code} (fS:fn.body=some cd) {k g:Nat} {G:FuncId}
   (aE: ∀w,(isAgg (ρ.t 24)).run X.P w= .ok true w) (zE: ∀w,(Go.sizeOf (ρ.t 24)).run X.P w= .ok k w) {cf:List Int→List Int→Int} (hO:SWO (Go.Proofs.ltOf cf)) (hG: ∀G',X.fo G'=some g→G'=G)
   (eg: ∀args w,(callFunc G args).run X.P w= .ok (.enter G args) w) (ig: ∀x y W,Calls X.P G #[.agg (vQ k x).toArray,.agg (vQ k y).toArray] W fun e w'=>e= .returned (.int .i64 (cf x y))∧ ∃q Mn,w'=grow (W.drewN q) Mn)
   {args:List V} {res:eL} (h:lu k g cf args=some res):bG X F args res:=by
 unfold lu at h
 split at h
 rotate_left
 ·simp at h
 rename_i k' es len g'
 split at h
 rotate_left
 ·simp at h
 rename_i hc
 obtain⟨rfl,rfl,rfl,hk0⟩:=hc
 split at h
 rotate_left
 ·simp at h
 rename_i zs P8
 split at h
 rotate_left
 ·simp at h
 rename_i hbig
 injection h with h;subst h
 obtain⟨bo,hzk⟩:=Ch P8
 intro B K w φ0 vals hl hv ho
 match vals,hl with
 | [v,fv],_=>
   have h0:=hv 0 v rfl
   have h1f:=hv 1 fv rfl
   have e0: (enter [V.msl k' es 0 es.length,.fn g' []]).T 0= .sl 0 0 0 es.length:=rfl
   have e1: (enter [V.msl k' es 0 es.length,.fn g' []]).T 1= .fn g' []:=rfl
   have eO: (enter [V.msl k' es 0 es.length,.fn g' []]).O 0={gen:=0,sz:=k',arr:=true,fz:=false,es:=some es}:=rfl
   rw[e0] at h0
   rw[e1] at h1f
   simp only[aj] at h0 h1f
   obtain⟨G',cv,rfl,MG,hcv⟩:=h1f
   obtain rfl:=hG _ MG
   have afo:cv= #[]:=by
     rcases cv with⟨cv⟩
     cases cv with
     | nil=>rfl
     | cons a l=>simp[ag] at hcv
   subst afo
   obtain⟨a,cap,rfl,cM,_,bT⟩:=h0
   obtain⟨_,h1,h2⟩:=bT (by rw[eO])
   rw[show (callFunc F [Value.slice a es.length cap,.func (.func G') #[] #[]].toArray).run X.P w= .ok (.enter F [Value.slice a es.length cap,.func (.func G') #[] #[]].toArray) w by
     simp[callFunc,Sem.run_bind,program,Sem.run,mc,fS]
     simpa using gQ]
   simp only[sC]
   have It:es.length=zs.length:=by rw[bo];simp
   have kN: [Value.slice a es.length cap,.func (.func G') #[] #[]].toArray= #[.slice a es.length cap,.func (.func G') #[] #[]]:=rfl
   rw[kN]
   rcases agr es.length with hz| hz
   · have Xc:zs=[]:=agR.1 ae0
     subst Xc
     have QA:es=[]:=agR.1 hz
     subst QA
     have hn:=Go.Proofs.AnyF.slices_SortFunc_none Ly a cap (.func (.func G') #[] #[]) w
     rw[hF] at hn
     refine hn.mono ?_
     rintro e w' ⟨rfl,rfl⟩
     exact⟨φ0,fun _=>dE,_,.tuple [],[],Le.refl _,ho,by simp only[aj];exact⟨#[],rfl,by simp[ag]⟩,.one (by simp[dH,V.au,V.ak]),rfl,by rw[List.perm_nil.1 (vO hO [])];simp only[cI,eO,V.ak,and_self,if_true];rfl⟩
   · have Af:cap≠0:=ae0
     have hφ:cap=(φ0 0).cap:=by simpa using h1
     obtain rfl:=h2.resolve_left Af
     rw[eO]
     simp only[Nat.zero_mul,ahk]
     have q1: ((enter [V.msl k' es 0 es.length,.fn g' []]).O 0).es=some es:=by rw[eO]
     have q2: ((enter [V.msl k' es 0 es.length,.fn g' []]).O 0).fz=false:=by rw[eO]
     have q3: ((enter [V.msl k' es 0 es.length,.fn g' []]).O 0).sz=k':=by rw[eO]
     obtain⟨_,Uv,jM,dg⟩:=ho.row 0 es q1 (by show 0 < ((enter [V.msl k' es 0 es.length,.fn g' []]).O 0).sz;rw[q3];exact hk0)
     rcases dg with dg| ⟨c,T,vs,hblk,lM,Wf,iG⟩
     ·exact absurd (hφ ▸ dg) Af
     ·simp only[eO] at lM jM iG
      rw[bo] at Wf
      have lE:=Ag.1 Wf
      subst lE
      have hH:HoldsK (vQ k') k' w (φ0 0).bV (φ0 0).base zs.toArray:=by
       intro t ht
       have kH:t<zs.length*k':=by simpa using ht
       have hi:t / k'<zs.length:=by rw[Nat.div_lt_iff_lt_mul hk0];exact kH
       have hj:t % k'<k':=Nat.mod_lt _ hk0
       have hzi:=hzk zs[t / k'] (agP hi)
       obtain⟨y,hy⟩: ∃y,(Value.agg (zs[t / k'].map (Value.int .i64)).toArray).cells[t % k']? =some y:=⟨.int .i64 (zs[t / k']'hi)[t % k'],by simp[Value.cells,hzi,hj]⟩
       have h3:=iG (t / k') _ (by rw[age,af3 hi];rfl)
       have h4:=h3.2 _ _ hy
       have h5:=Ki (i:=t / k') (j:=t % k') hzk (by rw[age,af3 hi];rfl) hy
       have et:t / k'*k'+t % k'=t:=by rw[ahj];exact Nat.div_add_mod t k'
       rw[et] at h5
       obtain⟨h6,h7⟩:=af1.1 h5
       rw[ahy,et] at h4
       refine⟨?_,?_⟩
       ·rw[h4,getElem!_pos (flatK (vQ k') k' zs.toArray) t h6,h7];rfl
       ·simp only[World.frozen?,hblk];simp
      have hC:=Go.Proofs.AnyQ.slices_SortFunc_eq Ly k' aE zE (vQ k') (QO k') (fun x v hv=>by simp only[vQ,agk] at hv;obtain⟨_,_,rfl⟩:=hv;rfl) cf hO G' #[] (φ0 0).bV (φ0 0).base cap zs.toArray w eg
       (fun m os dk hdk x y=>ig x y _) hH (af1.1 hblk).1 (by simpa using hbig)
      rw[hF,show zs.toArray.size=es.length by simp[It]] at hC
      refine hC.mono ?_
      rintro e w' ⟨rfl,n,os,rfl⟩
      have hpm:=vO hO zs
      have hsl: (xw cf zs).length=es.length:=by rw[It];exact hpm.length_eq
      have Q4: ∀z ∈ xw cf zs,z.length=k':=fun z hz=>hzk z (hpm.mem_iff.1 hz)
      have ep:pdq (Go.Proofs.ltOf cf) zs.toArray 0 es.length (Go.Lib.bitLen es.length) true true=(xw cf zs).toArray:=by rw[It];unfold xw;simp
      rw[ep]
      obtain⟨le',D4⟩:=I5 (μ:=⟨w,φ0,(enter [V.msl k' es 0 es.length,.fn g' []]).O⟩) ho 0 (es:=es) (es':=(xw cf zs).map sR) (Fl:=flatK (vQ k') k' (xw cf zs).toArray) q1 q2 hblk (by rw[←hφ];exact Af) (by rw[q3];exact lM)
       (by rw[List.length_map,hsl];exact Uv) (by
         rw[q3]
         simp only[List.all_map,af5]
         intro z hz
         exact I4 (Q4 z hz)) (Ag.2 rfl) (fun i v hv=>by
         rw[q3]
         refine⟨?_,fun j y hy=>Ki Q4 hv hy⟩
         rw[age,afZ] at hv
         obtain⟨z,hz,rfl⟩:=hv
         simp[Value.cells,Q4 z (List.mem_of_getElem? hz)]) n os
      refine⟨φ0,fun _=>dE,_,.tuple [],[],le',D4,by simp only[aj];exact⟨#[],rfl,by simp[ag]⟩,.one (by simp[dH,V.au,V.ak]),rfl,?_⟩
      have hp:=Mq (xw cf zs)
      simp only[cI,aw,eO,hp,and_self,if_true]
end
end Go.AM
