/- Texts of the proof. -/
import Derived.Test.YtdifmldbllaeiaaGreatOpsC
import Derived.Test.YtdifmldbllaeiaaGreatSd
import Derived.Shelf.SortG.Plain
import Derived.Shelf.SortG.SortNone
import Derived.Shelf.SlSortCmp.NoneTotal
set_option linter.unusedSimpArgs false
set_option linter.unusedVariables false
namespace Go.AM
open Go Go.RowKit Go.Sort
section
variable {X:TrEnv} {F:FuncId} {fn:Func}
theorem PU {Y:Ctx} {μ:Mu} (o:bq Y μ) {α:Type} [Inhabited α] {enc:α->Value} (r:Nat) {es es':List V} {c:Array Value} {T:TypeId} {d:Array α} (bC: (μ.O r).es=some es) (iC: (μ.O r).fz=false) (bM: (μ.O r).sz=1)
  (hb:μ.w.heap[(μ.φ r).cj]? =some (.cells c T (0,0))) (m: (μ.φ r).cap≠0) (A: (μ.φ r).base+(μ.φ r).cap<=c.size) (p: ∀x,(enc x).cells= #[enc x])
  (hlen:es'.length=d.size) (hd:d.size<=(μ.φ r).cap) (q:es'.all (bj · 1)=true) (s:ag Y μ es' (d.toList.map enc)) (n:Nat) (os:Array Go.Obj):
  Le μ ⟨grow (putRow enc (Go.Sort.ahead μ.w n) (μ.φ r).cj (μ.φ r).base d) os,μ.φ,dh μ.O r {μ.O r with es:=some es'}⟩/\bq Y ⟨grow (putRow enc (Go.Sort.ahead μ.w n) (μ.φ r).cj (μ.φ r).base d) os,μ.φ,dh μ.O r {μ.O r with es:=some es'}⟩:=by
 have h1:=mG o r bC iC hb m (c':=putCells enc (μ.φ r).base d c) (by simp[putCells]) (μ.O r).gen (μ.φ r).base (μ.φ r).cap (es':=es') (vs':=d.toList.map enc) (.inl ⟨rfl,rfl,rfl⟩) m ajk (by rw[bM];exact q) s (by rw[bM];omega) (by
  intro i v hv;rw[ajF,ajr] at hv;obtain⟨x,hx,rfl⟩:=hv;rw[p,bM];refine⟨rfl,fun j y hy=> ?_⟩;have hi:i<d.size:=by have:=(ajp.1 hx).1;simpa using this
  have t:j=0:=by
    rcases ajY j with h| h
    .exact h
    rw[akx (by simp;omega)] at hy;simp at hy
  subst t;simp at hy;subst hy;have g: (μ.φ r).base+i*1+0 <c.size:=ajk;have TD:d[i]! =x:=by
    have h2:d[i]? =some x:=by simpa using hx
    have h3:=ajs.1 h2;obtain⟨h4,h5⟩:=h3;rw[getElem!_pos d i h4];exact h5
  simp only[putCells,Array.getElem?_mapIdx,ajP g,ajE];rw[if_pos ⟨ajk,ajk⟩,show (μ.φ r).base+i*1+0 - (μ.φ r).base=i by omega,TD])
 have e0: (⟨(μ.φ r).cj,(μ.φ r).base,(μ.φ r).cap⟩:Row)=μ.φ r:=rfl;have u:dh μ.φ r (μ.φ r)=μ.φ:=by funext k;unfold dh;split<;>simp_all
 rw[e0,u] at h1;obtain⟨le,Ha⟩:=h1;have hw:putRow enc (Go.Sort.ahead μ.w n) (μ.φ r).cj (μ.φ r).base d={μ.w.setRow (μ.φ r).cj (putCells enc (μ.φ r).base d c) with drawn:=μ.w.drawn+n}:=by
  unfold putRow mapBlock World.setRow Go.Sort.ahead;congr 1
  apply Array.ext_getElem?;intro k;simp only[Array.getElem?_modify];by_cases g: (μ.φ r).cj=k
  . subst g
    simp only[if_pos rfl,hb,ajE,onCells]
  simp only[if_neg g]
 rw[hw];have e: ∀b,b<μ.w.heap.size->(grow {μ.w.setRow (μ.φ r).cj (putCells enc (μ.φ r).base d c) with drawn:=μ.w.drawn+n} os).heap[b]? =(μ.w.setRow (μ.φ r).cj (putCells enc (μ.φ r).base d c)).heap[b]? :=fun b f=>by
  have hs:b< (μ.w.setRow (μ.φ r).cj (putCells enc (μ.φ r).base d c)).heap.size:=by simpa [World.setRow] using f
  simp only[grow];rw[Array.getElem?_append_left hs]
 have l: (μ.w.setRow (μ.φ r).cj (putCells enc (μ.φ r).base d c)).heap.size=μ.w.heap.size:=by simp[World.setRow]
 have LC:Le ⟨μ.w.setRow (μ.φ r).cj (putCells enc (μ.φ r).base d c),μ.φ,dh μ.O r {μ.O r with es:=some es'}⟩ ⟨grow {μ.w.setRow (μ.φ r).cj (putCells enc (μ.φ r).base d c) with drawn:=μ.w.drawn+n} os,μ.φ,dh μ.O r {μ.O r with es:=some es'}⟩:=
  ⟨by simp[grow],fun b f z=> ⟨e b (by rw[<-l];exact f),z⟩,fun _=>ajw _,fun _ _=> ⟨rfl,rfl⟩,rfl,rfl,rfl,
    fun a ha=>by simp only[World.frozen?];rw[e a.block (by rw[<-l];exact ha)]⟩
 refine⟨le.trans LC,Ha.vp LC rfl rfl fun b f=>e b (by rw[<-l];exact f)⟩
theorem JF {α:Type} [Inhabited α] {enc:α->Value} {f:α->V} {le:α->α->Bool} (Df: ∀x,(enc x).cells= #[enc x]) (G: ∀x,(f x).az=true) (i: ∀x,bj (f x) 1=true)
   (H: ∀ (Y:Ctx) (μ:Mu) x v,aj Y μ (f x) v↔v=enc x) (I:X.P.funcs[F]? =some fn) (J: (fn.name== "runtime.NumGoroutine")=false) {L:Code} (M:fn.body=some L)
   (N: ∀a cap w,Calls X.P F #[.slice a 0 cap] w fun e w'=>e= .returned (.tuple #[])/\w'=w)
   (Q7: ∀cj off cap (zs:List α) w,Holds enc w cj off zs.toArray->cj<w.heap.size->zs.length< 4611686018427387904->Calls X.P F #[.slice (some ⟨cj,off,none⟩) zs.length cap] w fun e w'=>
     e= .returned (.tuple #[])/\ ∃n os,w'=grow (putRow enc (Go.Sort.ahead w n) cj off (qI le zs).toArray) os)
   {es:List V} {zs:List α} (bC:es=zs.map f) (hbig:zs.length< 4611686018427387904):bL X F [.msl 1 es 0 es.length] ⟨.tuple [],[(0,(qI le zs).map f)]⟩:=by
 have W8: ∀ (Y:Ctx) (μ:Mu) (zs:List α) (vs:List Value),ag Y μ (zs.map f) vs↔vs=zs.map enc:=by
   intro Y μ zs;induction zs with
   | nil=>intro vs;cases vs<;>simp[ag]
   | cons z zs k=>
     intro vs;cases vs with
     | nil=>simp[ag]
     | cons v vs=>simp only[List.map_cons,ag,H,k,alu]
 have l: ∀zs:List α,V.al (zs.map f)=true:=by
   intro zs;induction zs with
   | nil=>rfl
   | cons z zs k=>simp only[List.map_cons,V.al,G,k,akh]
 intro B K w φ0 vals hl hv m
 match vals,hl with
 | [v],_=>
   have h0:=hv 0 v rfl;have e0: (enter [V.msl 1 es 0 es.length]).T 0= .sl 0 0 0 es.length:=rfl;have g: (enter [V.msl 1 es 0 es.length]).O 0={gen:=0,sz:=1,arr:=true,fz:=false,es:=some es}:=rfl;rw[e0] at h0;simp only[aj] at h0;obtain⟨a,cap,rfl,cW,_,Q⟩:=h0;obtain⟨_,h1,h2⟩:=Q (by rw[g]);have o: (callFunc F [Value.slice a es.length cap].toArray).run X.P w= .ok (.enter F [Value.slice a es.length cap].toArray) w:=by simp[callFunc,Sem.run_bind,program,Sem.run,I,M];simpa using J
   rw[o];simp only[vl];have LB:es.length=zs.length:=by rw[bC];simp
   have R: [Value.slice a es.length cap].toArray= #[.slice a es.length cap]:=rfl;rw[R];rcases ajY es.length with t| t
   . have p:zs=[]:=aks.1 ajk
     subst p;have Ux:es=[]:=aks.1 t;subst Ux;refine(N a cap w).mono ?_;rintro e w' ⟨rfl,rfl⟩;exact⟨φ0,fun _=>ee,_,.tuple [],[],Le.refl _,m,by simp only[aj];exact⟨#[],rfl,by simp[ag]⟩,.one (by simp[ej,V.az,V.al]),rfl,rfl⟩
   have CR:cap≠0:=ajk;have hφ:cap=(φ0 0).cap:=by simpa using h1
   obtain rfl:=h2.resolve_left CR;rw[g];simp only[Nat.zero_mul,akQ];have u: ((enter [V.msl 1 es 0 es.length]).O 0).es=some es:=by rw[g]
   have S: ((enter [V.msl 1 es 0 es.length]).O 0).fz=false:=by rw[g]
   have y: ((enter [V.msl 1 es 0 es.length]).O 0).sz=1:=by rw[g]
   obtain⟨_,Yp,U,q⟩:=m.row 0 es u (by show 0 < ((enter [V.msl 1 es 0 es.length]).O 0).sz;rw[y];exact Nat.one_pos);rcases q with q| ⟨c,T,vs,b,A,h,C⟩
   .exact absurd (hφ ▸ q) CR
   simp only[g] at A U C;rw[bC] at h;have W:=(W8 _ _ _ _).1 h;subst W;have Z:Holds enc w (φ0 0).cj (φ0 0).base zs.toArray:=by
    intro j hj;have D:j<zs.length:=by simpa using hj
    have:=C j (enc zs[j]) (by simp[D]);have h3:=this.2 0 (enc zs[j]) (by rw[Df];rfl);simp only[Nat.mul_one,akQ] at h3;refine⟨?_,?_⟩
    .rw[h3];simp[getElem!_pos,D]
    simp only[World.frozen?,b];simp
   have E:=Q7 (φ0 0).cj (φ0 0).base cap zs w Z (ajs.1 b).1 hbig;rw[<-LB] at E;refine E.mono ?_;rintro e w' ⟨rfl,n,os,rfl⟩;have r: (qI le zs).length=es.length:=by rw[LB];exact(qa _ _).length_eq
   obtain⟨s,Ha⟩:=PU (μ:=⟨w,φ0,(enter [V.msl 1 es 0 es.length]).O⟩) m (enc:=enc) 0 (es:=es) (es':=(qI le zs).map f) (d:=(qI le zs).toArray) u S y b (by rw[<-hφ];exact CR) (by simpa using A) Df
    ajl (by simp only[alf,r];exact Yp) (by simp only[List.all_map,ajx];intro x _;exact i x) ((W8 _ _ _ _).2 ajl) n os
   refine⟨φ0,fun _=>ee,_,.tuple [],[],s,Ha,by simp only[aj];exact⟨#[],rfl,by simp[ag]⟩,.one (by simp[ej,V.az,V.al]),rfl,?_⟩;have hp:=l (qI le zs);simp only[cV,aD,g,hp,and_self,if_true]
end
section
variable {X:TrEnv} {F:FuncId} {fn:Func} {ρ:Go.Shelf.Ren}
theorem Ma (Ly:Go.Proofs.SlLaysN.n53 X.P ρ) (b:ρ.f 53=F) (d:X.P.funcs[F]? =some fn) (e: (fn.name== "runtime.NumGoroutine")=false) {g:Code} (i:fn.body=some g) {args:List V} {res:fu} (h:Hf args=some res):bL X F args res:=by
 unfold Hf at h;split at h
 .rename_i es len;split at h
  .rename_i hlen;subst hlen;split at h
   .rename_i c T5;split at h
    .rename_i hbig;injection h with h;subst h;refine JF (enc:=Value.int .i64) (le:=J0) (fun _=>rfl) (fun _=>rfl) (fun _=>rfl) (fun Y μ x v=>by simp only[aj]) d e i (fun a cap w=>by have:=Go.Proofs.AnyG.slices_Sort_int_none Ly a cap w;rwa [b] at this) ?_ (xM T5) hbig;intro cj off cap c w j hb hl;have:=Go.Proofs.AnyG.slices_Sort_int Ly cj off cap c w j hb hl;rw[b,He] at this;exact this
    simp at h
   simp at h
  simp at h
 simp at h
end
end Go.AM
namespace Go.AM
open Go Go.RowKit Go.Sort
def yR (k:Nat) (x:List Int):List Value:=(List.range k).map fun i=>Value.int .i64 (x.getD i 0)
theorem UN (k:Nat) (x:List Int): (yR k x).length=k:=by simp[yR]
theorem XK {z:List Int} {k:Nat} (h:z.length=k):yR k z=z.map (Value.int .i64):=by
 apply akp;intro i;simp only[yR,ajF,alE,akc];by_cases hi:i<k
 .rw[alE hi];simp[show i<z.length by omega]
 rw[akm (by simp;omega),akm (l:=z) ajk];rfl
theorem GS {Y:Ctx} {μ:Mu}: ∀ {z:List Int} {vs:List Value},ag Y μ (z.map (V.int .i64)) vs↔vs=z.map (Value.int .i64)
 | [],vs=>by cases vs<;>simp[ag]
 | a::z,[]=>by simp[ag]
 | a::z,v::vs=>by simp only[List.map_cons,ag,aj,GS,alu]
theorem UO {Y:Ctx} {μ:Mu} {z:List Int} {v:Value}:aj Y μ (BY z) v↔v= .agg (z.map (Value.int .i64)).toArray:=by
 simp only[BY,aj];constructor
 .rintro⟨_,vs,rfl,h⟩;rw[GS] at h;rw[<-h]
 rintro rfl;exact⟨by simp[ajx,V.aZ],_,rfl,GS.2 rfl⟩
theorem CS {Y:Ctx} {μ:Mu}: ∀ {zs:List (List Int)} {vs:List Value},ag Y μ (zs.map BY) vs↔vs=zs.map fun z=> .agg (z.map (Value.int .i64)).toArray
 | [],vs=>by cases vs<;>simp[ag]
 | a::z,[]=>by simp[ag]
 | a::z,v::vs=>by simp only[List.map_cons,ag,UO,CS,alu]
theorem Mb {z:List Int} {k:Nat} (h:z.length=k):bj (BY z) k=true:=by simp[bj,BY,V.dw,V.cells,V.isAgg,h]
theorem PV (zs:List (List Int)):V.al (zs.map BY)=true:=by
 induction zs with
 | nil=>rfl
 | cons z zs b=>
   have: ∀l:List Int,V.al (l.map (V.int .i64))=true:=fun l=>by induction l with| nil=>rfl| cons a l b=>simp only[List.map_cons,V.al,b];rfl
   simp only[List.map_cons,V.al,b,BY,V.az,this,akh]
section
variable {X:TrEnv} {F:FuncId} {fn:Func} {ρ:Go.Shelf.Ren}
theorem Mc {Y:Ctx} {μ:Mu} (o:bq Y μ) (r:Nat) {es es':List V} {c:Array Value} {T:TypeId} {Fl:Array Value} {vs':List Value} (bC: (μ.O r).es=some es) (iC: (μ.O r).fz=false)
  (hb:μ.w.heap[(μ.φ r).cj]? =some (.cells c T (0,0))) (l: (μ.φ r).cap≠0) (p: (μ.φ r).base+(μ.φ r).cap*(μ.O r).sz<=c.size)
  (hlen:es'.length<=(μ.φ r).cap) (q:es'.all (bj · (μ.O r).sz)=true) (m:ag Y μ es' vs')
  (s: ∀i v,vs'[i]? =some v->v.cells.size=(μ.O r).sz/\ ∀j y,v.cells[j]? =some y->Fl[i*(μ.O r).sz+j]? =some y) (n:Nat) (os:Array Go.Obj):
  Le μ ⟨grow (putRow id (Go.Sort.ahead μ.w n) (μ.φ r).cj (μ.φ r).base Fl) os,μ.φ,dh μ.O r {μ.O r with es:=some es'}⟩/\bq Y ⟨grow (putRow id (Go.Sort.ahead μ.w n) (μ.φ r).cj (μ.φ r).base Fl) os,μ.φ,dh μ.O r {μ.O r with es:=some es'}⟩:=by
 have h1:=mG o r bC iC hb l (c':=putCells id (μ.φ r).base Fl c) (by simp[putCells]) (μ.O r).gen (μ.φ r).base (μ.φ r).cap (es':=es') (vs':=vs') (.inl ⟨rfl,rfl,rfl⟩) l hlen q m p (by
  intro i v hv;obtain⟨f,t⟩:=s i v hv;refine⟨f,fun j y hy=> ?_⟩;have h3:=t j y hy;obtain⟨h4,h5⟩:=ajs.1 h3;have hi:i<es'.length:=by rw[m.length];exact(ajp.1 hv).1
  have x:j< (μ.O r).sz:=by rw[<-f];exact(ajs.1 hy).1
  have g: (μ.φ r).base+i*(μ.O r).sz+j<c.size:=by have: (i+1)*(μ.O r).sz<=(μ.φ r).cap*(μ.O r).sz:=akb _ ajk;rw[aj4,Nat.one_mul] at this;omega
  simp only[putCells,Array.getElem?_mapIdx,ajP g,ajE,id_eq];rw[if_pos ⟨ajk,ajk⟩,show (μ.φ r).base+i*(μ.O r).sz+j - (μ.φ r).base=i*(μ.O r).sz+j by omega,getElem!_pos Fl _ h4,h5])
 have e0: (⟨(μ.φ r).cj,(μ.φ r).base,(μ.φ r).cap⟩:Row)=μ.φ r:=rfl;have f:dh μ.φ r (μ.φ r)=μ.φ:=by funext k;unfold dh;split<;>simp_all
 rw[e0,f] at h1;obtain⟨le,Ha⟩:=h1;have hw:putRow id (Go.Sort.ahead μ.w n) (μ.φ r).cj (μ.φ r).base Fl={μ.w.setRow (μ.φ r).cj (putCells id (μ.φ r).base Fl c) with drawn:=μ.w.drawn+n}:=by
  unfold putRow mapBlock World.setRow Go.Sort.ahead;congr 1
  apply Array.ext_getElem?;intro k;simp only[Array.getElem?_modify];by_cases g: (μ.φ r).cj=k
  . subst g
    simp only[if_pos rfl,hb,ajE,onCells]
  simp only[if_neg g]
 rw[hw];generalize putCells id (μ.φ r).base Fl c=c' at*;have h: (μ.w.setRow (μ.φ r).cj c').heap.size=μ.w.heap.size:=by simp[World.setRow]
 have d: ∀b,b<μ.w.heap.size->(grow {μ.w.setRow (μ.φ r).cj c' with drawn:=μ.w.drawn+n} os).heap[b]? =(μ.w.setRow (μ.φ r).cj c').heap[b]? :=fun b e=>by
  have hs:b< (μ.w.setRow (μ.φ r).cj c').heap.size:=by rw[h];exact e
  simp only[grow];rw[Array.getElem?_append_left hs]
 have LC:Le ⟨μ.w.setRow (μ.φ r).cj c',μ.φ,dh μ.O r {μ.O r with es:=some es'}⟩ ⟨grow {μ.w.setRow (μ.φ r).cj c' with drawn:=μ.w.drawn+n} os,μ.φ,dh μ.O r {μ.O r with es:=some es'}⟩:=
  ⟨by simp[grow],fun b e u=> ⟨d b (by rw[<-h];exact e),u⟩,fun _=>ajw _,fun _ _=> ⟨rfl,rfl⟩,rfl,rfl,rfl,
    fun a ha=>by simp only[World.frozen?];rw[d a.block (by rw[<-h];exact ha)]⟩
 exact⟨le.trans LC,Ha.vp LC rfl rfl fun b e=>d b (by rw[<-h];exact e)⟩
theorem NB {k:Nat} {zs:List (List Int)} (e: ∀z ∈ zs,z.length=k) {i j:Nat} {v y:Value} (hv: (zs.map fun z=>Value.agg (z.map (Value.int .i64)).toArray)[i]? =some v) (hy:v.cells[j]? =some y): (flatK (yR k) k zs.toArray)[i*k+j]? =some y:=by
 rw[ajF,ajr] at hv;obtain⟨z,c,rfl⟩:=hv;have a:=e z (List.mem_of_getElem? c);obtain⟨hi,b⟩:=ajp.1 c;have G1: (z.map (Value.int .i64))[j]? =some y:=by simpa [Value.cells] using hy
 have d:j<k:=by have:=(ajp.1 G1).1;simp at this;omega
 have ht:i*k+j<zs.toArray.size*k:=by have: (i+1)*k<=zs.length*k:=akb _ hi;rw[aj4,Nat.one_mul] at this;simp;omega
 have h1:=get_flatK (yR k) k zs.toArray (i*k+j) ht;rw[getElem!_pos _ _ (by simpa using ht)] at h1;rw[ajP (by simpa using ht),h1];have f: (i*k+j) / k=i:=by rw[ak2,Nat.mul_add_div ajk,Nat.div_eq_of_lt d];omega
 have g: (i*k+j) % k=j:=by rw[ak2,Nat.mul_add_mod,alB d]
 rw[f,g,getElem!_pos zs.toArray i (by simpa using hi)];have h:zs.toArray[i]'(by simpa using hi)=z:=by simpa using b
 rw[h,XK a];obtain⟨h4,h5⟩:=ajp.1 G1;rw[getElem!_pos (z.map (Value.int .i64)) j h4,h5]
theorem sN (Ly:Go.Proofs.SlLaysF0.n6 X.P ρ) (hF:ρ.f 6=F) (nr:X.P.funcs[F]? =some fn) (iV: (fn.name== "runtime.NumGoroutine")=false) {cd:Code} (ij:fn.body=some cd) {k g:Nat} {G:FuncId}
   (aE: ∀w,(isAgg (ρ.t 24)).run X.P w= .ok true w) (zE: ∀w,(Go.sizeOf (ρ.t 24)).run X.P w= .ok k w) {o:List Int->List Int->Int} (L:SWO (Go.Proofs.ltOf o)) (hG: ∀G',X.gA G'=some g->G'=G)
   (eg: ∀args w,(callFunc G args).run X.P w= .ok (.enter G args) w) (iM: ∀x y W,Calls X.P G #[.agg (yR k x).toArray,.agg (yR k y).toArray] W fun e w'=>e= .returned (.int .i64 (o x y))/\ ∃q PS,w'=grow (W.drewN q) PS)
   {args:List V} {res:fu} (h:rz k g o args=some res):bL X F args res:=by
 unfold rz at h;split at h
 rotate_left
 .simp at h
 rename_i b es len r;split at h
 rotate_left
 .simp at h
 rename_i hc;obtain⟨rfl,rfl,rfl,A⟩:=hc;split at h
 rotate_left
 .simp at h
 rename_i d T5;split at h
 rotate_left
 .simp at h
 rename_i hbig;injection h with h;subst h;obtain⟨bC,C⟩:=E3 T5;intro B K w φ0 vals hl hv M
 match vals,hl with
 | [v,fv],_=>
   have h0:=hv 0 v rfl;have D:=hv 1 fv rfl;have e0: (enter [V.msl b es 0 es.length,.fn r []]).T 0= .sl 0 0 0 es.length:=rfl;have e1: (enter [V.msl b es 0 es.length,.fn r []]).T 1= .fn r []:=rfl;have s: (enter [V.msl b es 0 es.length,.fn r []]).O 0={gen:=0,sz:=b,arr:=true,fz:=false,es:=some es}:=rfl;rw[e0] at h0;rw[e1] at D;simp only[aj] at h0 D;obtain⟨G',I,rfl,P8,N⟩:=D;obtain rfl:=hG _ P8;have Q:I= #[]:=by
     rcases I with⟨I⟩;cases I with
     | nil=>rfl
     | cons a l=>simp[ag] at N
   subst Q;obtain⟨a,cap,rfl,cW,_,b9⟩:=h0;obtain⟨_,h1,h2⟩:=b9 (by rw[s]);rw[show (callFunc F [Value.slice a es.length cap,.func (.func G') #[] #[]].toArray).run X.P w= .ok (.enter F [Value.slice a es.length cap,.func (.func G') #[] #[]].toArray) w by simp[callFunc,Sem.run_bind,program,Sem.run,nr,ij];simpa using iV];simp only[vl];have LB:es.length=d.length:=by rw[bC];simp
   have mz: [Value.slice a es.length cap,.func (.func G') #[] #[]].toArray= #[.slice a es.length cap,.func (.func G') #[] #[]]:=rfl;rw[mz];rcases ajY es.length with u| u
   . have R:d=[]:=aks.1 ajk
     subst R;have Ux:es=[]:=aks.1 u;subst Ux;have hn:=Go.Proofs.AnyF.slices_SortFunc_none Ly a cap (.func (.func G') #[] #[]) w;rw[hF] at hn;refine hn.mono ?_;rintro e w' ⟨rfl,rfl⟩;exact⟨φ0,fun _=>ee,_,.tuple [],[],Le.refl _,M,by simp only[aj];exact⟨#[],rfl,by simp[ag]⟩,.one (by simp[ej,V.az,V.al]),rfl,by rw[List.perm_nil.1 (yu L [])];simp only[cV,s,V.al,and_self,if_true];rfl⟩
   have CR:cap≠0:=ajk;have hφ:cap=(φ0 0).cap:=by simpa using h1
   obtain rfl:=h2.resolve_left CR;rw[s];simp only[Nat.zero_mul,akQ];have q1: ((enter [V.msl b es 0 es.length,.fn r []]).O 0).es=some es:=by rw[s]
   have q2: ((enter [V.msl b es 0 es.length,.fn r []]).O 0).fz=false:=by rw[s]
   have J: ((enter [V.msl b es 0 es.length,.fn r []]).O 0).sz=b:=by rw[s]
   obtain⟨_,Yp,kQ,S⟩:=M.row 0 es q1 (by show 0 < ((enter [V.msl b es 0 es.length,.fn r []]).O 0).sz;rw[J];exact A);rcases S with S| ⟨c,T,vs,p,nD,E,fL⟩
   .exact absurd (hφ ▸ S) CR
   simp only[s] at nD kQ fL;rw[bC] at E;have ns:=CS.1 E;subst ns;have hH:HoldsK (yR b) b w (φ0 0).cj (φ0 0).base d.toArray:=by
    intro t ht;have lE:t<d.length*b:=by simpa using ht
    have hi:t / b<d.length:=by rw[Nat.div_lt_iff_lt_mul A];exact lE
    have hj:t % b<b:=Nat.mod_lt _ A;have U:=C d[t / b] (aky hi);obtain⟨y,hy⟩: ∃y,(Value.agg (d[t / b].map (Value.int .i64)).toArray).cells[t % b]? =some y:=⟨.int .i64 (d[t / b]'hi)[t % b],by simp[Value.cells,U,hj]⟩;have h3:=fL (t / b) _ (by rw[ajF,aju hi];rfl);have h4:=h3.2 _ _ hy;have h5:=NB (i:=t / b) (j:=t % b) C (by rw[ajF,aju hi];rfl) hy;have et:t / b*b+t % b=t:=by rw[ak2];exact Nat.div_add_mod t b
    rw[et] at h5;obtain⟨h6,h7⟩:=ajs.1 h5;rw[aln,et] at h4;refine⟨?_,?_⟩
    .rw[h4,getElem!_pos (flatK (yR b) b d.toArray) t h6,h7];rfl
    simp only[World.frozen?,p];simp
   have hC:=Go.Proofs.AnyQ.slices_SortFunc_eq Ly b aE zE (yR b) (UN b) (fun x v hv=>by simp only[yR,ajL] at hv;obtain⟨_,_,rfl⟩:=hv;rfl) o L G' #[] (φ0 0).cj (φ0 0).base cap d.toArray w eg
    (fun m os dk hdk x y=>iM x y _) hH (ajs.1 p).1 (by simpa using hbig)
   rw[hF,show d.toArray.size=es.length by simp[LB]] at hC;refine hC.mono ?_;rintro e w' ⟨rfl,n,os,rfl⟩;have H:=yu L d;have Y: (zX o d).length=es.length:=by rw[LB];exact H.length_eq
   have Q8: ∀z ∈ zX o d,z.length=b:=fun z u=>C z (H.mem_iff.1 u);have ep:pdq (Go.Proofs.ltOf o) d.toArray 0 es.length (Go.Lib.bitLen es.length) true true=(zX o d).toArray:=by rw[LB];unfold zX;simp
   rw[ep];obtain⟨Z,Ha⟩:=Mc (μ:=⟨w,φ0,(enter [V.msl b es 0 es.length,.fn r []]).O⟩) M 0 (es:=es) (es':=(zX o d).map BY) (Fl:=flatK (yR b) b (zX o d).toArray) q1 q2 p (by rw[<-hφ];exact CR) (by rw[J];exact nD)
    (by rw[List.length_map,Y];exact Yp) (by
      rw[J];simp only[List.all_map,ajx];intro z u;exact Mb (Q8 z u)) (CS.2 rfl) (fun i v hv=>by
      rw[J];refine⟨?_,fun j y hy=>NB Q8 hv hy⟩;rw[ajF,ajr] at hv;obtain⟨z,u,rfl⟩:=hv;simp[Value.cells,Q8 z (List.mem_of_getElem? u)]) n os
   refine⟨φ0,fun _=>ee,_,.tuple [],[],Z,Ha,by simp only[aj];exact⟨#[],rfl,by simp[ag]⟩,.one (by simp[ej,V.az,V.al]),rfl,?_⟩;have hp:=PV (zX o d);simp only[cV,aD,s,hp,and_self,if_true]
end
end Go.AM
