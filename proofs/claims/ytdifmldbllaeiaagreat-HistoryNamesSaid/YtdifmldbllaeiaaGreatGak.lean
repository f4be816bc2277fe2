/- Texts of the proof. -/
import Derived.Test.YtdifmldbllaeiaaGreatGaj
set_option maxRecDepth 20000
set_option maxHeartbeats 4000000
set_option linter.unusedSimpArgs false
set_option linter.unusedVariables false
namespace Go.AM
inductive Se (d:Int):aB->List an->aB->Prop
 | nil {m:aB}:Se d m [] m
 | cons {m M m':aB} {e:an} {es:List an} (ha:U8 m e) (hi:Sg m d e) (ht:yi e) (hs:Step m e M) (h:Se d M es m'):Se d m (e::es) m'
theorem Si.run {d:Int} {m m':aB} {b b':Int} {evs:List an} (h:Si d m b evs m' b'):Se d m evs m':=by
 induction h with
 | nil=>exact .nil
 | cons hn ha hp hi hs ht hb h a=>exact .cons hp hi ht hs a
theorem Se.take {d:Int} {m m':aB} {evs:List an} (h:Se d m evs m'): ∀k,∃M,Se d m (evs.take k) M:=by
 induction h with
 | nil=>exact fun k=> ⟨_,by rw[List.take_nil];exact .nil⟩
 | cons ha hi ht hs h a=>
   intro k;cases k with
   | zero=>exact⟨_,.nil⟩
   | succ k=>
     obtain⟨M,hM⟩:=a k;exact⟨M,.cons ha hi ht hs hM⟩
structure aB.Nd (m:aB):Prop where
 e: (m.aA.map aH.id).Nodup
 f: (m.ak.map aP.id).Nodup
 w: (m.aF.map bH.id).Nodup
 p: (m.ar.map aI.id).Nodup
section
variable {α:Type} {key:α->Int}
theorem key_inj {l:List α} (h: (l.map key).Nodup) {i j:Nat} {x y:α} (hi:l[i]? =some x) (b:l[j]? =some y) (c:key x=key y):i=j:=by
 have a: (l.map key)[i]? =some (key x):=by rw[ajF,hi];rfl
 have d: (l.map key)[j]? =some (key y):=by rw[ajF,b];rfl
 exact(List.getElem?_inj (by have:=(ajp.1 a).1;exact this) h).1 (by rw[a,d,c])
theorem cH {l:List α} (h: (l.map key).Nodup) {x y:α} (hi:x ∈ l) (a:y ∈ l) (b:key x=key y):x=y:=by obtain⟨i,hi⟩:=ajH hi;obtain⟨j,a⟩:=ajH a;obtain rfl:=key_inj h hi a b;rw[hi] at a;injection a
theorem gN {u:α->Option α} (c: ∀x y,u x=some y->key y=key x): ∀ {l:List α},(l.map key).Nodup->((l.filterMap u).map key).Nodup/\ ∀k ∈ (l.filterMap u).map key,k ∈ l.map key
 | [],_=> ⟨ajl,ajl⟩
 | a::l,h=>by
   rw[List.map_cons,ako] at h;obtain⟨h1,h2⟩:=gN c h.2;rw[aj7];split
   .exact⟨h1,fun k b=>aka _ (h2 k b)⟩
   rename_i y hy;rw[List.map_cons,ako,c a y hy];exact⟨⟨fun hm=>h.1 (h2 _ hm),h1⟩,fun k b=>by
    rcases ajy.1 b with rfl| b
    .rw[List.map_cons];exact akv
    .exact aka _ (h2 k b)⟩
theorem eE {u v:α->Option α}: ∀ {l:List α},(∀x ∈ l,u x=v x)->l.filterMap u=l.filterMap v
 | [],_=>rfl
 | a::l,h=>by rw[aj7,aj7,h a akv,eE fun x hx=>h x (aka _ hx)]
theorem Au {y:α}: ∀ {l:List α} {k:Nat} {x:α},(l.map key).Nodup->l[k]? =some x->l.set k y=l.filterMap fun z=>some (if key z=key x then y else z)
 | [],k,x,_,h=>by simp at h
 | a::l,0,x,hn,h=>by
   rw[List.map_cons,ako] at hn;simp only[akF,ajq] at h;subst h;rw[List.set_cons_zero,aj7,if_pos rfl];have:l.filterMap (fun z=>some (if key z=key a then y else z))=l:=by rw[eE (v:=some) (fun z b=>by rw[if_neg (fun e=>hn.1 (by rw[<-e];exact alk b))])];exact List.filterMap_some
   dsimp only;rw[this]
 | a::l,k+1,x,hn,h=>by rw[List.map_cons,ako] at hn;rw[akf] at h;have hx:=List.mem_of_getElem? h;rw[List.set_cons_succ,aj7,if_neg (fun e=>hn.1 (by rw[e];exact alk hx)),Au hn.2 h]
theorem yj: ∀ {l:List α} {k:Nat} {x:α},(l.map key).Nodup->l[k]? =some x->l.eraseIdx k=l.filterMap fun z=>if key z=key x then none else some z
 | [],k,x,_,h=>by simp at h
 | a::l,0,x,hn,h=>by
   rw[List.map_cons,ako] at hn;simp only[akF,ajq] at h;subst h;rw[List.eraseIdx_cons_zero,aj7,if_pos rfl];dsimp only;rw[eE (v:=some) (fun z b=>by rw[if_neg (fun e=>hn.1 (by rw[<-e];exact alk b))])];exact List.filterMap_some.symm
 | a::l,k+1,x,hn,h=>by rw[List.map_cons,ako] at hn;rw[akf] at h;have hx:=List.mem_of_getElem? h;rw[List.eraseIdx_cons_succ,aj7,if_neg (fun e=>hn.1 (by rw[e];exact alk hx)),yj hn.2 h]
theorem cq {u:α->Option α} {l:List α} (h: ∀x ∈ l,u x=some x):l.filterMap u=l:=by rw[eE (v:=some) h];exact List.filterMap_some
end
def uE (e:an) (x:aH):Option aH:=
 if e.kind=1 then some (if x.id=e.id then⟨x.id,x.line.eraseIdx e.n.toNat,x.left,x.right⟩ else x)
 else if e.kind=2 then(if cJ e.id e.other x then none else some (gr e.id e.other x))
 else some x
def uF (e:an) (f x:aP):Option aP:=
 if e.kind=2 then(if x.id=e.id then none else some (if x.id=e.other then uf x f else x)) else some x
def uW (e:an) (x:bH):Option bH:=if e.kind=3 then(if x.id=e.id then none else some x) else some x
def uP (e:an) (a x:aI):Option aI:=
 if e.kind=4 then(if x.id=e.id then none else some (if x.id=e.other then lH a x else x)) else some x
def pH (m:aB) (e:an) (f:aP) (a:aI):aB:=⟨m.aA.filterMap (uE e),m.ak.filterMap (uF e f),m.aF.filterMap (uW e),m.ar.filterMap (uP e a)⟩
theorem yk (es:List aH) (a b:Int): ∀n,ek es a b n=(es.take n).filterMap fun x=>if cJ a b x then none else some (gr a b x)
 | 0=>by rw[akR];rfl
 | n+1=>by
   rw[ek];cases h:es[n]? with
   | none=>
     have:es.length<=n:=List.getElem?_eq_none_iff.1 h;rw[yk es a b n,List.take_of_length_le this,List.take_of_length_le ajk]
   | some e=>
     rw[aj6,h,akZ,yk es a b n];dsimp only;split
     .rename_i ht;simp[ht]
     rename_i ht;simp[ht]
theorem yl {fs:List aP} {i j:Nat} {f g:aP} (hn: (fs.map aP.id).Nodup) (hi:fs[i]? =some f) (a:fs[j]? =some g): ∀n,dz fs i j f n=(fs.take n).filterMap fun x=>if x.id=f.id then none else some (if x.id=g.id then uf x f else x)
 | 0=>by rw[akR];rfl
 | n+1=>by
   rw[dz];cases h:fs[n]? with
   | none=>
     have:fs.length<=n:=List.getElem?_eq_none_iff.1 h;rw[yl hn hi a n,List.take_of_length_le this,List.take_of_length_le ajk]
   | some e=>
     rw[aj6,h,akZ,yl hn hi a n];dsimp only;by_cases h1:n=i
     .subst h1;rw[h] at hi;injection hi with hi;subst hi;rw[if_pos rfl];simp
     rw[if_neg h1];have b: ¬e.id=f.id:=fun k=>h1 (key_inj hn h hi k);by_cases h2:n=j
     .subst h2;rw[h] at a;injection a with a;subst a;rw[if_pos rfl];simp[b]
     rw[if_neg h2];have c: ¬e.id=g.id:=fun k=>h2 (key_inj hn h a k);simp[b,c]
theorem ym {ps:List aI} {a b:Int} (h:mW ps a b=0): ∃ (i j:Nat) (x y:aI),fq ps a=i/\fq ps b=j/\ps[i]? =some x/\ps[j]? =some y/\x.id=a/\y.id=b/\y9 a b x y=0:=by
 unfold mW at h;rcases gh ps a with h1| ⟨i,x,h1,h2,h3⟩
 .rw[h1] at h;simp at h
 rcases gh ps b with c| ⟨j,y,c,d,e⟩
 .rw[c] at h;simp at h
 rw[h1,c] at h;simp only[ajZ,h2,d] at h;rw[if_pos ajk] at h;exact⟨i,j,x,y,h1,c,h2,d,h3,e,h⟩
theorem uZ {a b:Int} {x y:aI} (h:y9 a b x y=0):a≠b/\x.aC=y.aC/\(x.name=[]\/y.name=[]\/x.name=y.name):=by
 unfold y9 at h;split at h
 .cases h
 rename_i h1;split at h
 .cases h
 rename_i h2;split at h
 .cases h
 rename_i h3;refine⟨fun e=>h1 (.inl e),by simpa using h2,?_⟩;by_cases c:x.name=[]
 .exact .inl c
 by_cases d:y.name=[]
 .exact .inr (.inl d)
 by_cases f:x.name=y.name
 .exact .inr (.inr f)
 exact absurd ⟨c,d,f⟩ h3
theorem Step.turns {m M:aB} {e:an} (hn:m.Nd) (h:Step m e M): ∃f a,(e.kind=2->f ∈ m.ak/\f.id=e.id)/\(e.kind=4->a ∈ m.ar/\a.id=e.id)/\M=pH m e f a:=by
 cases h with
 | @drop t q h=>
   refine⟨⟨0,[],[],0,0⟩,⟨0,0,0,[],[],0,0⟩,fun h=> (by simp at h),fun h=> (by simp at h),?_⟩;unfold pH;congr 1
   .show m.aA.set _ _=_;rw[Au hn.e q.he];refine eE fun x hx=> ?_;unfold uE;rw[if_pos rfl];congr 1
    split
    .rename_i o;obtain rfl:=cH hn.e hx (List.mem_of_getElem? q.he) o;rfl
    rfl
   .exact(cq fun x _=>rfl).symm
   .exact(cq fun x _=>rfl).symm
   exact(cq fun x _=>rfl).symm
 | @De t a b i j f g h h1 h2 h3 h4 h5=>
   obtain⟨_,c,l,_⟩:=cI h1;rw[h2] at c;injection c with c;subst c;obtain⟨_,n,r,_⟩:=cI h3;rw[h4] at n;injection n with n;subst n;refine⟨f,⟨0,0,0,[],[],0,0⟩,fun _=> ⟨List.mem_of_getElem? h2,l⟩,fun h=> (by simp at h),?_⟩;unfold pH;congr 1
   .rw[yk,akd];rfl
   .rw[yl hn.f h2 h4,akd,l,r];rfl
   .exact(cq fun x _=>rfl).symm
   exact(cq fun x _=>rfl).symm
 | @thin t a k w h h1 h2 h3=>
   refine⟨⟨0,[],[],0,0⟩,⟨0,0,0,[],[],0,0⟩,fun h=> (by simp at h),fun h=> (by simp at h),?_⟩;unfold pH;congr 1
   .exact(cq fun x _=>rfl).symm
   .exact(cq fun x _=>rfl).symm
   .rw[yj hn.w h2,h3];rfl
   exact(cq fun x _=>rfl).symm
 | @oV t a b h=>
   obtain⟨i,j,x,y,h1,h2,h3,h4,h5,h6,h7⟩:=ym h;have bW:=(uZ h7).1;have JL:j≠i:=fun e=>by subst e;rw[h3] at h4;injection h4 with h4;subst h4;exact bW (h5.symm.trans h6)
   refine⟨⟨0,[],[],0,0⟩,x,fun h=> (by simp at h),fun _=> ⟨List.mem_of_getElem? h3,h5⟩,?_⟩;unfold pH;congr 1
   .exact(cq fun x _=>rfl).symm
   .exact(cq fun x _=>rfl).symm
   .exact(cq fun x _=>rfl).symm
   have e0:mm m.ar a b=(m.ar.set j (lH x y)).eraseIdx i:=by unfold mm;rw[h1,h2];simp only[ajZ,h3,h4]
   rw[e0,Au hn.p h4];have hs: (m.ar.filterMap fun z=>some (if z.id=y.id then lH x y else z))[i]? =some x:=by rw[<-Au (y:=lH x y) hn.p h4,ak8 JL];exact h3
   rw[yj (gN (key:=aI.id) (fun z z' d=>by
    injection d with d;subst d;split
    .rename_i k;exact k.symm
    .rfl) hn.p).1 hs,List.filterMap_filterMap]
   refine eE fun z d=> ?_;unfold uP;rw[if_pos rfl];dsimp only[Option.bind_some];rw[<-h5,<-h6];by_cases c:z.id=y.id
   .obtain rfl:=cH hn.p d (List.mem_of_getElem? h4) c;rw[if_pos rfl];have: ¬ (lH x z).id=x.id:=fun e=>bW (by rw[<-h5,<-h6];exact e.symm);have l: ¬z.id=x.id:=this;rw[if_neg this,if_neg l]
   rw[if_neg c,if_neg c]
open Dr (bZ fU ni fD qK)
theorem gO {m:aB} (hn:m.Nd) {f:aP} (hf:f ∈ m.ak):fU m f.id=f.aC:=by
 rcases cr (fun g:aP=>decide (g.id=f.id)) m.ak with⟨_,h2⟩ | ⟨i,g,h1,h2,h3⟩
 .obtain⟨i,hi⟩:=ajH hf;have:=h2 i f hi;simp at this
 have hg:g=f:=cH hn.f (List.mem_of_getElem? h2) hf (of_decide_eq_true h3);subst hg;exact Dr.BN h1 h2
theorem Ed {m:aB} {id:Int} (h: ∀f ∈ m.ak,f.id≠id):fU m id=0:=by
 rcases cr (fun g:aP=>decide (g.id=id)) m.ak with⟨h1,_⟩ | ⟨i,g,h1,h2,h3⟩
 .exact Dr.BO h1
 exact absurd (of_decide_eq_true h3) (h g (List.mem_of_getElem? h2))
structure zj (m:aB) (e:an) (f:aP) (a:aI):Prop where
 one:e.kind=1-> ∃x ∈ m.aA,x.id=e.id/\1<=e.n/\e.n+1 <x.line.length
 two:e.kind=2->f ∈ m.ak/\f.id=e.id/\e.id≠e.other/\ ∃g ∈ m.ak,g.id=e.other/\f.aC=g.aC/\1<=f.aC/\(f.name=[]\/g.name=[]\/f.name=g.name)
 three:e.kind=3-> ∃w ∈ m.aF,w.id=e.id/\alH 676 [m.v,vi e.id] (vi 0)
 four:e.kind=4->a ∈ m.ar/\a.id=e.id/\e.id≠e.other/\ ∃b ∈ m.ar,b.id=e.other/\a.aC=b.aC/\(a.name=[]\/b.name=[]\/a.name=b.name)
structure InD (m:aB) (d:Int) (e:an):Prop where
 one:e.kind=1->1<=d/\ ∃x ∈ m.aA,x.id=e.id/\bZ m x=d
 two:e.kind=2->1<=d/\ ∃x ∈ m.ak,x.id=e.id/\x.aC=d
 three:e.kind=3-> ∃x ∈ m.aF,x.id=e.id/\x.aC=d
 four:e.kind=4-> ∃x ∈ m.ar,x.id=e.id/\x.aC=d
theorem Sg.at {m:aB} {d:Int} {e:an} (h:Sg m d e):InD m d e:=by
 cases h with
 | drop q h h0=>exact⟨fun _=> ⟨h0,q.e,List.mem_of_getElem? q.he,rfl,h⟩,fun h=> (by simp at h),fun h=> (by simp at h),fun h=> (by simp at h)⟩
 | De h1 h2 h3 h0=>
   obtain⟨g,c,f,_⟩:=cI h1;rw[h2] at c;injection c with c;subst c;exact⟨fun h=> (by simp at h),fun _=> ⟨h0,_,List.mem_of_getElem? h2,f,h3⟩,fun h=> (by simp at h),fun h=> (by simp at h)⟩
 | @thin t a k w h1 h2 h3=>
   refine⟨fun h=> (by simp at h),fun h=> (by simp at h),fun _=> ⟨w,List.mem_of_getElem? h2,?_,h3⟩,fun h=> (by simp at h)⟩;rcases cr (fun w:bH=>decide (w.id=a)) m.aF with⟨c,_⟩ | ⟨i,w',c,f,l⟩
   .unfold gq at h1;rw[c] at h1;omega
   unfold gq at h1;rw[c] at h1;obtain rfl:i=k:=ajk;rw[f] at h2;injection h2 with h2;subst h2;exact of_decide_eq_true l
 | @oV t a b j p h1 h2 h3=>
   refine⟨fun h=> (by simp at h),fun h=> (by simp at h),fun h=> (by simp at h),fun _=> ⟨p,List.mem_of_getElem? h2,?_,h3⟩⟩;rcases gh m.ar a with c| ⟨i,w',c,f,l⟩
   .rw[c] at h1;omega
   rw[c] at h1;obtain rfl:i=j:=ajk;rw[f] at h2;injection h2 with h2;subst h2;exact l
theorem Step.facts {m M:aB} {e:an} (hn:m.Nd) (h:Step m e M): ∃f a,zj m e f a/\M=pH m e f a:=by
 obtain⟨f,a,h1,h2,h3⟩:=h.turns hn;refine⟨f,a,?_,h3⟩;cases h with
 | @drop t q h=>
   have hc:=(ajp.1 q.hc).1;have H:=q.hn;exact⟨fun _=> ⟨q.e,List.mem_of_getElem? q.he,rfl,by show (1:Int)<=(q.n:Int);omega,by show (q.n:Int)+1 <_;omega⟩,fun h=> (by simp at h),fun h=> (by simp at h),fun h=> (by simp at h)⟩
 | @De t a' b i j l g hc u c d o v=>
   obtain⟨r,s⟩:=h1 rfl;obtain⟨_,z,D,_⟩:=cI u;rw[c] at z;injection z with z;subst z;obtain⟨_,g3,g4,_⟩:=cI d;rw[o] at g3;injection g3 with g3;subst g3;have E:l=f:=cH hn.f (List.mem_of_getElem? c) r (D.trans s.symm);subst E;refine⟨fun h=> (by simp at h),fun _=> ⟨r,s,v,g,List.mem_of_getElem? o,g4,?_⟩,fun h=> (by simp at h),fun h=> (by simp at h)⟩;unfold qR at hc;rw[u,d] at hc;simp only[c,o] at hc;unfold DT at hc;rw[if_neg v] at hc;split at hc
   .cases hc
   rename_i c1;split at hc
   .cases hc
   split at hc
   .cases hc
   rename_i c2;refine⟨?_,?_,?_⟩
   .by_cases hd:l.aC=g.aC
    .exact hd
    exact absurd (.inl hd) c1
   .by_cases hd:l.aC< 1
    .exact absurd (.inr hd) c1
    omega
   by_cases A:l.name=[]
   .exact .inl A
   by_cases B:g.name=[]
   .exact .inr (.inl B)
   by_cases C:l.name=g.name
   .exact .inr (.inr C)
   exact absurd ⟨A,B,C⟩ c2
 | @thin t a' k w hc u c d=>exact⟨fun h=> (by simp at h),fun h=> (by simp at h),fun _=> ⟨w,List.mem_of_getElem? c,d,hc⟩,fun h=> (by simp at h)⟩
 | @oV t a' b hc=>
   obtain⟨r,s⟩:=h2 rfl;obtain⟨i,j,x,y,u,c,d,o,v,F,G⟩:=ym hc;obtain rfl:x=a:=cH hn.p (List.mem_of_getElem? d) r (v.trans s.symm);obtain⟨c1,c2,c3⟩:=uZ G;exact⟨fun h=> (by simp at h),fun h=> (by simp at h),fun h=> (by simp at h),fun _=> ⟨r,s,c1,y,List.mem_of_getElem? o,F,c2,c3⟩⟩
section
variable {m:aB} {e:an} {f:aP} {a:aI}
theorem Sj {x y:aH} (h:uE e x=some y):y.id=x.id:=by
 unfold uE at h;split at h
 .injection h with h;subst h;split<;>rfl
 split at h
 .split at h
  .cases h
  injection h with h;subst h;rfl
 injection h with h;subst h;rfl
theorem Ee {x y:aP} (h:uF e f x=some y):y.id=x.id/\y.aC=x.aC:=by
 unfold uF at h;split at h
 .split at h
  .cases h
  injection h with h;subst h;split<;>exact⟨rfl,rfl⟩
 injection h with h;subst h;exact⟨rfl,rfl⟩
theorem H9 {x y:bH} (h:uW e x=some y):y=x:=by
 unfold uW at h;split at h
 .split at h
  .cases h
  injection h with h;exact h.symm
 injection h with h;exact h.symm
theorem Ia {x y:aI} (h:uP e a x=some y):y.id=x.id/\y.aC=x.aC/\y.x=x.x/\y.y=x.y:=by
 unfold uP at h;split at h
 .split at h
  .cases h
  injection h with h;subst h;split<;>exact⟨rfl,rfl,rfl,rfl⟩
 injection h with h;subst h;exact⟨rfl,rfl,rfl,rfl⟩
theorem FW (hn:m.Nd): (pH m e f a).Nd:=
 ⟨(gN (fun _ _ h=>Sj h) hn.e).1,(gN (fun _ _ h=> (Ee h).1) hn.f).1,(gN (fun _ _ h=>by rw[H9 h]) hn.w).1,(gN (fun _ _ h=> (Ia h).1) hn.p).1⟩
theorem BQ (hn:m.Nd) (hf:zj m e f a) (x:Int):fU (pH m e f a) (if e.kind=2 then dH e.id e.other x else x)=fU m x:=by
 have j:=FW (e:=e) (f:=f) (a:=a) hn;by_cases b:e.kind=2
 .rw[if_pos b];obtain⟨h1,h2,h3,g,h4,h5,h6,_⟩:=hf.two b;have up: ∀y ∈ m.ak,y.id≠e.id-> ∃z ∈ (pH m e f a).ak,z.id=y.id/\z.aC=y.aC:=fun y hy bW=>by
   have k:uF e f y=some (if y.id=e.other then uf y f else y):=by unfold uF;rw[if_pos b,if_neg bW]
   exact⟨_,akw.2 ⟨y,hy,k⟩,Ee k⟩
  unfold dH;by_cases hx:x=e.id
  .rw[if_pos hx];obtain⟨z,h,c,i⟩:=up g h4 (by rw[h5];exact h3.symm);rw[<-h5,<-c,gO j h,i,hx,<-h2,gO hn h1,h6]
  rw[if_neg hx];by_cases hy: ∃y ∈ m.ak,y.id=x
  . obtain⟨y,d,rfl⟩:=hy
    obtain⟨z,h,c,i⟩:=up y d hx;rw[<-c,gO j h,c,gO hn d,i]
  have G1: ∀y ∈ m.ak,y.id≠x:=fun y h1 h2=>hy ⟨y,h1,h2⟩;rw[Ed G1,Ed fun z l=> ?_];obtain⟨y,d,n⟩:=akw.1 l;rw[(Ee n).1];exact G1 y d
 rw[if_neg b];have: (pH m e f a).ak=m.ak:=cq fun x _=>by unfold uF;rw[if_neg b]
 unfold fU ni;rw[this]
theorem qp (hn:m.Nd) (hf:zj m e f a) {x y:aH} (h:uE e x=some y):bZ (pH m e f a) y=bZ m x:=by
 have h1:=BQ hn hf x.left;have h2:=BQ hn hf x.right;have hl:y.left=(if e.kind=2 then dH e.id e.other x.left else x.left)/\y.right=(if e.kind=2 then dH e.id e.other x.right else x.right):=by
  unfold uE at h;split at h
  .rename_i k;rw[if_neg ajk,if_neg ajk];injection h with h;subst h;split<;>exact⟨rfl,rfl⟩
  split at h
  .rename_i k;rw[if_pos k,if_pos k];split at h
   .cases h
   injection h with h;subst h;exact⟨rfl,rfl⟩
  rename_i k;rw[if_neg k,if_neg k];injection h with h;subst h;exact⟨rfl,rfl⟩
 unfold bZ;rw[hl.1,hl.2,h1,h2]
end
theorem bK {α:Type} {u:α->Option α} {p q:α->Bool}: ∀ {l:List α},(∀x ∈ l,∀y,u x=some y->q y=p x)->(l.filterMap u).filter q=(l.filter p).filterMap u
 | [],_=>rfl
 | x::l,h=>by
   have a:=bK (u:=u) (p:=p) (q:=q) (l:=l) fun z b=>h z (aka _ b);rw[aj7,akO];cases hx:u x with
   | none=>
     dsimp only;split
     .rw[aj7,hx];exact a
     exact a
   | some y=>
     dsimp only;rw[akO,h x akv y hx];split
     .rw[aj7,hx];dsimp only;rw[a]
     exact a
structure ez (d:Int) (M Y:aB):Prop where
 e:d≠0->M.aA.filter (fun x=>decide (bZ M x=d))=Y.aA.filter (fun x=>decide (bZ Y x=d))
 f:M.ak.filter (fun x=>decide (x.aC=d))=Y.ak.filter (fun x=>decide (x.aC=d))
 w:M.aF.filter (fun x=>decide (x.aC=d))=Y.aF.filter (fun x=>decide (x.aC=d))
 p:M.ar.filter (fun x=>decide (x.aC=d))=Y.ar.filter (fun x=>decide (x.aC=d))
theorem ez.refl (d:Int) (m:aB):ez d m m:=⟨fun _=>rfl,rfl,rfl,rfl⟩
theorem qq {α:Type} {l a:List α} {p q:α->Bool} (h:l.filter p=a.filter q) {x:α} (hx:x ∈ l) (hp:p x=true):x ∈ a/\q x=true:=by have:=akr.2 ⟨hx,hp⟩;rw[h] at this;exact akr.1 this
section
variable {d:Int} {M Y:aB} (h:ez d M Y)
include h
theorem ez.symm:ez d Y M:=⟨fun k=> (h.e k).symm,h.f.symm,h.w.symm,h.p.symm⟩
theorem ez.em (h0:d≠0) {x:aH} (hx:x ∈ M.aA) (hd:bZ M x=d):x ∈ Y.aA/\bZ Y x=d:=by have:=qq (h.e h0) hx (decide_eq_true hd);exact⟨this.1,of_decide_eq_true this.2⟩
theorem ez.fm {x:aP} (hx:x ∈ M.ak) (hd:x.aC=d):x ∈ Y.ak:=(qq h.f hx (decide_eq_true hd)).1
theorem ez.wm {x:bH} (hx:x ∈ M.aF) (hd:x.aC=d):x ∈ Y.aF:=(qq h.w hx (decide_eq_true hd)).1
theorem ez.pm {x:aI} (hx:x ∈ M.ar) (hd:x.aC=d):x ∈ Y.ar:=(qq h.p hx (decide_eq_true hd)).1
end
theorem ez.same {d:Int} {M Y:aB} {e:an} {f f':aP} {a a':aI} (h:ez d M Y) (nM:M.Nd) (nY:Y.Nd) (hM:zj M e f a) (hY:zj Y e f' a') (hA:InD M d e):ez d (pH M e f a) (pH Y e f' a'):=by
 have j:uF e f=uF e f':=by
  funext x;unfold uF;split
  .rename_i k;obtain⟨_,g,l,m,g3⟩:=hA.two k;obtain⟨c,i,_⟩:=hM.two k;obtain⟨n,o,_⟩:=hY.two k;obtain rfl:g=f:=cH nM.f l c (m.trans i.symm);obtain rfl:g=f':=cH nY.f (h.fm c g3) n (i.trans o.symm);rfl
  rfl
 have q:uP e a=uP e a':=by
  funext x;unfold uP;split
  .rename_i k;obtain⟨g,l,m,g3⟩:=hA.four k;obtain⟨c,i,_⟩:=hM.four k;obtain⟨n,o,_⟩:=hY.four k;obtain rfl:g=a:=cH nM.p l c (m.trans i.symm);obtain rfl:g=a':=cH nY.p (h.pm c g3) n (i.trans o.symm);rfl
  rfl
 refine⟨fun h0=> ?_,?_,?_,?_⟩
 .show (M.aA.filterMap (uE e)).filter _=(Y.aA.filterMap (uE e)).filter _;rw[bK (p:=fun x=>decide (bZ M x=d)) (fun x _ y b=>by rw[qp nM hM b]),bK (p:=fun x=>decide (bZ Y x=d)) (fun x _ y b=>by rw[qp nY hY b]),h.e h0]
 .show (M.ak.filterMap (uF e f)).filter _=(Y.ak.filterMap (uF e f')).filter _;rw[bK (p:=fun x=>decide (x.aC=d)) (fun x _ y b=>by rw[(Ee b).2]),bK (p:=fun x=>decide (x.aC=d)) (fun x _ y b=>by rw[(Ee b).2]),h.f,j]
 .show (M.aF.filterMap (uW e)).filter _=(Y.aF.filterMap (uW e)).filter _;rw[bK (p:=fun x=>decide (x.aC=d)) (fun x _ y b=>by rw[H9 b]),bK (p:=fun x=>decide (x.aC=d)) (fun x _ y b=>by rw[H9 b]),h.w]
 show (M.ar.filterMap (uP e a)).filter _=(Y.ar.filterMap (uP e a')).filter _;rw[bK (p:=fun x=>decide (x.aC=d)) (fun x _ y b=>by rw[(Ia b).2.1]),bK (p:=fun x=>decide (x.aC=d)) (fun x _ y b=>by rw[(Ia b).2.1]),h.p,q]
section
variable {d d':Int} {Y:aB} {e:an} {f:aP} {a:aI} (nY:Y.Nd) (hY:zj Y e f a) (hA:InD Y d' e) (bW:d≠d')
include nY hY hA bW
theorem Sk (h0:d≠0) {x:aH} (hx:x ∈ Y.aA) (hd:bZ Y x=d):uE e x=some x:=by
 unfold uE;split
 .rename_i k;obtain⟨_,z,b,c,h⟩:=hA.one k;rw[if_neg];intro l;obtain rfl:x=z:=cH nY.e hx b (l.trans c.symm);exact bW (hd.symm.trans h)
 split
 .rename_i k;obtain⟨_,z,b,c,h⟩:=hA.two k;obtain⟨a,m,p,g,n,o,g3,_⟩:=hY.two k;obtain rfl:z=f:=cH nY.f b a (c.trans m.symm);have ha:fU Y e.id=d':=by rw[<-c,gO nY b,h]
  have hb:fU Y e.other=d':=by rw[<-o,gO nY n,<-g3,h]
  have Za:fU Y x.left=d/\fU Y x.right=d:=by
   unfold bZ at hd;split at hd
   .rename_i hh;exact⟨hd,hh ▸ hd⟩
   exact absurd hd.symm h0
  have i:x.left≠e.id:=fun k=>bW (by rw[<-Za.1,k,ha]);have j:x.right≠e.id:=fun k=>bW (by rw[<-Za.2,k,ha]);have ht:cJ e.id e.other x=false:=by
   unfold cJ;rw[decide_eq_false_iff_not];rintro(⟨a,_⟩ | ⟨_,a⟩)
   .exact i a
   exact j a
  rw[if_neg (by rw[ht];simp)];unfold gr dH;rw[if_neg i,if_neg j]
 rfl
theorem Sm {x:aP} (hx:x ∈ Y.ak) (hd:x.aC=d):uF e f x=some x:=by
 unfold uF;split
 .rename_i k;obtain⟨_,z,b,c,h⟩:=hA.two k;obtain⟨i,j,n,g,l,m,g3,_⟩:=hY.two k;obtain rfl:z=f:=cH nY.f b i (c.trans j.symm);rw[if_neg (fun a=>bW (by rw[<-hd,<-h,cH nY.f hx b (a.trans c.symm)])),if_neg (fun a=>bW (by rw[<-hd,<-h,g3,cH nY.f hx l (a.trans m.symm)]))]
 rfl
omit hY in
theorem Sn {x:bH} (hx:x ∈ Y.aF) (hd:x.aC=d):uW e x=some x:=by
 unfold uW;split
 .rename_i k;obtain⟨z,a,b,c⟩:=hA.three k;rw[if_neg (fun f=>bW (by rw[<-hd,<-c,cH nY.w hx a (f.trans b.symm)]))]
 rfl
theorem Sp {x:aI} (hx:x ∈ Y.ar) (hd:x.aC=d):uP e a x=some x:=by
 unfold uP;split
 .rename_i k;obtain⟨z,c,f,h⟩:=hA.four k;obtain⟨i,j,n,g,l,m,g3,_⟩:=hY.four k;obtain rfl:z=a:=cH nY.p c i (f.trans j.symm);rw[if_neg (fun b=>bW (by rw[<-hd,<-h,cH nY.p hx c (b.trans f.symm)])),if_neg (fun b=>bW (by rw[<-hd,<-h,g3,cH nY.p hx l (b.trans m.symm)]))]
 rfl
theorem ez.other {M:aB} (h:ez d M Y):ez d M (pH Y e f a):=by
 refine⟨fun h0=> ?_,?_,?_,?_⟩
 .show _=(Y.aA.filterMap (uE e)).filter _;rw[bK (p:=fun x=>decide (bZ Y x=d)) (fun x _ y b=>by rw[qp nY hY b]),h.e h0];exact(cq fun x hx=>by obtain⟨h1,h2⟩:=akr.1 hx;exact Sk nY hY hA bW h0 h1 (of_decide_eq_true h2)).symm
 .show _=(Y.ak.filterMap (uF e f)).filter _;rw[bK (p:=fun x=>decide (x.aC=d)) (fun x _ y b=>by rw[(Ee b).2]),h.f];exact(cq fun x hx=>by obtain⟨h1,h2⟩:=akr.1 hx;exact Sm nY hY hA bW h1 (of_decide_eq_true h2)).symm
 .show _=(Y.aF.filterMap (uW e)).filter _;rw[bK (p:=fun x=>decide (x.aC=d)) (fun x _ y b=>by rw[H9 b]),h.w];exact(cq fun x hx=>by obtain⟨h1,h2⟩:=akr.1 hx;exact Sn nY hA bW h1 (of_decide_eq_true h2)).symm
 show _=(Y.ar.filterMap (uP e a)).filter _;rw[bK (p:=fun x=>decide (x.aC=d)) (fun x _ y b=>by rw[(Ia b).2.1]),h.p];exact(cq fun x hx=>by obtain⟨h1,h2⟩:=akr.1 hx;exact Sp nY hY hA bW h1 (of_decide_eq_true h2)).symm
end
structure wR (m Y:aB):Prop where
 e: ∀x ∈ Y.aA,∃x0 ∈ m.aA,x0.id=x.id/\fD x.line x0.line/\bZ Y x=bZ m x0/\(bZ m x0=0->x.line=x0.line)
 w: ∀x ∈ Y.aF,x ∈ m.aF
 p: ∀x ∈ Y.ar,∃x0 ∈ m.ar,x0.id=x.id/\x0.aC=x.aC/\x0.x=x.x/\x0.y=x.y
 nd:Y.Nd
 bd:Y.Bd
theorem wR.refl {m:aB} (hn:m.Nd) (hb:m.Bd):wR m m:=
 ⟨fun x hx=> ⟨x,hx,rfl,.refl _,rfl,fun _=>rfl⟩,fun x hx=>hx,fun x hx=> ⟨x,hx,rfl,rfl,rfl,rfl⟩,hn,hb⟩
theorem wR.step {m Y:aB} {d:Int} {e:an} {f:aP} {a:aI} (h:wR m Y) (hY:zj Y e f a) (hA:InD Y d e) (hb: (pH Y e f a).Bd):wR m (pH Y e f a):=by
 refine⟨fun y hy=> ?_,fun y hy=> ?_,fun y hy=> ?_,FW h.nd,hb⟩
 .obtain⟨x,hx,b⟩:=akw.1 hy;obtain⟨x0,h1,h2,h3,h4,h5⟩:=h.e x hx;refine⟨x0,h1,by rw[Sj b];exact h2,?_⟩;rw[qp h.nd hY b];by_cases c:e.kind=1/\x.id=e.id
  .obtain⟨z,j,i,v,A⟩:=hY.one c.1;obtain⟨B,g,l,o,g3⟩:=hA.one c.1;obtain rfl:z=x:=cH h.nd.e j hx (i.trans c.2.symm);obtain rfl:g=z:=cH h.nd.e l hx (o.trans i.symm);have hy:y=⟨g.id,g.line.eraseIdx e.n.toNat,g.left,g.right⟩:=by unfold uE at b;rw[if_pos c.1,if_pos c.2] at b;injection b with b;exact b.symm
   subst hy;exact⟨(fD.erase ajk ajk).trans h3,h4,fun h0=>ajk⟩
  have:y.line=x.line:=by
   unfold uE at b;split at b
   .rename_i k;rw[if_neg (fun q=>c ⟨k,q⟩)] at b;injection b with b;rw[b]
   split at b
   .   split at b
       .cases b
       injection b with b;rw[<-b];rfl
   injection b with b;rw[b]
  rw[this];exact⟨h3,h4,h5⟩
 .obtain⟨x,hx,b⟩:=akw.1 hy;rw[H9 b];exact h.w x hx
 obtain⟨x,hx,b⟩:=akw.1 hy;obtain⟨x0,h1,h2,h3,h4,h5⟩:=h.p x hx;obtain⟨r,s,t,u⟩:=Ia b;exact⟨x0,h1,by rw[r];exact h2,by rw[s];exact h3,by rw[t];exact h4,by rw[u];exact h5⟩
structure lP (d:Int) (m M:aB):Prop where
 c:wR m M
 e0: ∀x0 ∈ m.aA,bZ m x0=0-> ∃x ∈ M.aA,x.id=x0.id/\x.line=x0.line
 o: ∀d',d'≠d->ez d' m M
theorem lP.refl {m:aB} (d:Int) (hn:m.Nd) (hb:m.Bd):lP d m m:=⟨.refl hn hb,fun x hx _=> ⟨x,hx,rfl,rfl⟩,fun d' _=> .refl _ _⟩
theorem lP.step {m M:aB} {d:Int} {e:an} {f:aP} {a:aI} (h:lP d m M) (hn:m.Nd) (hM:zj M e f a) (hA:InD M d e) (hb: (pH M e f a).Bd):lP d m (pH M e f a):=by
 refine⟨h.c.step hM hA hb,fun x0 b h0=> ?_,fun d' bW=> (h.o d' bW).other h.c.nd hM hA bW⟩;obtain⟨x,h1,h2,h3⟩:=h.e0 x0 b h0;have hd:bZ M x=0:=by obtain⟨x1,l,n,_,r,_⟩:=h.c.e x h1;obtain rfl:x1=x0:=cH hn.e l b (n.trans h2);rw[r,h0]
 suffices hh: ∃y,uE e x=some y/\y.line=x.line by obtain⟨y,q,hl⟩:=hh;exact⟨y,akw.2 ⟨x,h1,q⟩,(Sj q).trans h2,hl.trans h3⟩
 unfold uE;split
 .rename_i k;obtain⟨s,z,i,j,p⟩:=hA.one k;rw[if_neg]
  .exact⟨x,rfl,rfl⟩
  intro t;obtain rfl:x=z:=cH h.c.nd.e h1 i (t.trans j.symm);omega
 split
 .rename_i k;obtain⟨s,z,i,j,p⟩:=hA.two k;obtain⟨l,n,w,g,u,v,g3,_⟩:=hM.two k;obtain rfl:z=f:=cH h.c.nd.f i l (j.trans n.symm);have ha:fU M e.id=d:=by rw[<-j,gO h.c.nd i,p]
  have hb:fU M e.other=d:=by rw[<-v,gO h.c.nd u,<-g3,p]
  rw[if_neg]
  .exact⟨_,rfl,rfl⟩
  intro ht;unfold cJ at ht;rcases of_decide_eq_true ht with⟨t1,t2⟩ | ⟨t1,t2⟩;all_goals
   unfold bZ at hd;rw[t1,t2,ha,hb,if_pos rfl] at hd;omega
 exact⟨x,rfl,rfl⟩
end Go.AM
namespace Go.AM
open Dr (bZ fU ni fD qK)
theorem ky {α:Type} {key:α->Int} {l:List α} (hn: (l.map key).Nodup) {k:Nat} {x:α} (a:l[k]? =some x):firstIdx (fun z=>decide (key z=key x)) l=(k:Int):=by
 rcases cr (fun z=>decide (key z=key x)) l with⟨_,h2⟩ | ⟨i,y,h1,h2,h3⟩
 .have:=h2 k x a;simp at this
 .rw[h1,key_inj hn h2 a (of_decide_eq_true h3)]
theorem yn {fs:List aP} (hn: (fs.map aP.id).Nodup) {f:aP} (hf:f ∈ fs): ∃i,aY fs f.id=some i/\fs[i]? =some f:=by
 cases h:aY fs f.id with
 | none=>
   obtain⟨i,hi⟩:=ajH hf;exact absurd rfl (Bv h i f hi)
 | some i=>
   obtain⟨g,h1,h2,_⟩:=cI h;rw[cH hn (List.mem_of_getElem? h1) hf h2] at h1;exact⟨i,rfl,h1⟩
open Dr in
theorem zl {P:Pt×Pt->Bool} {e n:Int}: ∀ {es:List aH} {j:Nat},((wS e n j es).any P)=false↔ ∀ (i:Nat) x,es[i]? =some x->((pJ (decide (((j+i:Nat):Int)=e)) n 0 x.line).any P)=false
 | [],j=>by simp[wS]
 | a::es,j=>by
   rw[wS,List.any_append,Bool.or_eq_false_iff,zl (es:=es) (j:=j+1)];constructor
   .rintro⟨h1,h2⟩ i x hx;cases i with
    | zero=>simp only[akF,ajq] at hx;subst hx;exact h1
    | succ i=>
      have:=h2 i x (by simpa using hx);rwa [show j+1+i=j+(i+1) by omega] at this
   intro h;refine⟨h 0 a rfl,fun i x hx=> ?_⟩;have:=h (i+1) x (by simpa using hx);rwa [show j+(i+1)=j+1+i by omega] at this
section
variable {d:Int} {m M Y:aB} (o9:qK m) (hn:m.Nd) (hM:lP d m M) (hY:wR m Y) (hA:ez d M Y)
include o9 hn hM hY hA
omit hn in
open Dr in
theorem lP.drop (q:s9 M) (hd:bZ M q.e=d) (h0:1<=d) (hc:OK M q=0): ∃f:s9 Y,f.n=q.n/\f.e=q.e/\f.a=q.a/\f.b=q.b/\f.c=q.c/\bZ Y f.e=d/\OK Y f=0:=by
 have ZD:=List.mem_of_getElem? q.he;obtain⟨u,l⟩:=hA.em ajk ZD hd;obtain⟨v,Ie⟩:=ajH u;have hlen:=hY.bd.e;refine⟨⟨v,q.n,q.e,q.a,q.b,q.c,Ie,ky hY.nd.e Ie,q.hn,q.ha,q.hb,q.hc,ajk,q.hl⟩,rfl,rfl,rfl,rfl,rfl,l,?_⟩;unfold OK at hc ⊢;rw[hd,if_neg ajk] at hc;dsimp only;rw[l,if_neg ajk];have hr: (s9.rest (⟨v,q.n,q.e,q.a,q.b,q.c,Ie,ky hY.nd.e Ie,q.hn,q.ha,q.hb,q.hc,ajk,q.hl⟩:s9 Y))=q.rest:=rfl;rw[hr];split at hc
 case isFalse=>cases hc
 rename_i BS;rw[if_pos BS];split at hc
 case isFalse=>cases hc
 rename_i g;rw[if_pos];unfold BT at g ⊢;rw[ajt,ake,ake,zl] at g ⊢;obtain⟨h1,h2⟩:=g;refine⟨fun i x hx=> ?_,?_⟩
 .simp only[akg] at h1 ⊢;have m:=List.mem_of_getElem? hx;by_cases Bp:i=v
  .subst Bp;rw[hx] at Ie;injection Ie with Ie;subst Ie;have:=h1 q.k q.e q.he;rw[decide_eq_true rfl] at this ⊢;exact this
  rw[decide_eq_false ajk];have J:x.id≠q.e.id:=fun e=>Bp (key_inj hY.nd.e hx Ie e);have X8: ∀y ∈ M.aA,y.id=x.id->y.line=x.line->((pJ false q.n 0 x.line).any fun z=>fj q.a q.b q.c z.1 z.2)=false:=fun y hy w A=>by
   obtain⟨j,r⟩:=ajH hy;have K:j≠q.k:=fun e=>by subst e;rw[q.he] at r;injection r with r;exact J (by rw[<-w,<-r])
   have:=h1 j y r;rw[decide_eq_false ajk,A] at this;exact this
  by_cases JN:bZ Y x=d
  .exact X8 x (hA.symm.em ajk m JN).1 rfl rfl
  obtain⟨x0,t,G,B,h,C⟩:=hY.e x m;by_cases D:bZ Y x=0
  . obtain⟨y,L,N,O⟩:=hM.e0 x0 t (by rw[<-h];exact D)
    exact X8 y L (N.trans G) (O.trans (C (by rw[<-h];exact D)).symm)
  obtain⟨H,P,R,g3,g4,_⟩:=hM.c.e q.e ZD;obtain⟨i0,E⟩:=ajH P;obtain⟨Q,F⟩:=ajH t;have hs:Sep H.line x0.line:=o9 i0 Q H x0 E F (by rw[<-g4,hd];omega) (by rw[<-h];exact D) (by rw[<-g4,<-h,hd];exact fun e=>JN e.symm);exact Wl (Wm hs g3 B) (List.mem_of_getElem? q.ha) (OL q.hn q.hb (ajp.1 q.hc).1) (List.mem_of_getElem? q.hc) false q.n 0
 rw[akU] at h2 ⊢;intro p hp;by_cases s:p.aC=d
 .exact h2 p (hA.symm.pm hp s)
 obtain⟨I,t,G,B,h,C⟩:=hY.p p hp;have:=h2 I ((hM.o I.aC (by rw[B];exact s)).pm t rfl);rwa [h,C] at this
end
section
variable {d:Int} {m M Y:aB} (nM:M.Nd) (nY:Y.Nd) (hA:ez d M Y)
include nM nY hA
theorem ez.De {a b:Int} (hc:qR M a b=0) {f:aP} (hf:f ∈ M.ak) (c:f.id=a) (U7:f.aC=d):qR Y a b=0/\wO Y a=wO M a/\ ∃i,aY Y.ak a=some i/\Y.ak[i]? =some f:=by
 subst c;have k:=hA.fm hf U7;obtain⟨i,i1,i2⟩:=yn nM.f hf;obtain⟨t,i3,l⟩:=yn nY.f k;have u: ∃g ∈ M.ak,g.id=b/\DT M.aA f.id b f g=0:=by
  unfold qR at hc;rw[i1] at hc;cases h:aY M.ak b with
  | none=>rw[h] at hc;cases hc
  | some j=>
    obtain⟨g,p,v,_⟩:=cI h;rw[h] at hc;simp only[i2,p] at hc;exact⟨g,List.mem_of_getElem? p,v,hc⟩
 obtain⟨g,q,r,g3⟩:=u;have KS:g.aC=d/\1<=d/\ ∃x ∈ M.aA,cJ f.id b x=true:=by
  have g3:=g3;unfold DT at g3;split at g3
  .cases g3
  split at g3
  .cases g3
  rename_i c1;split at g3
  .cases g3
  rename_i c2;refine⟨?_,?_,?_⟩
  .by_cases e:f.aC=g.aC
   .rw[<-e];exact U7
   exact absurd (.inl e) c1
  .by_cases e:f.aC< 1
   .exact absurd (.inr e) c1
   omega
  exact akG.1 (by simpa using c2)
 obtain⟨d1,A,x,x1,x2⟩:=KS;have m:=hA.fm q d1;obtain⟨B,s,w⟩:=yn nY.f m;rw[r] at s;have n:bZ M x=d:=by
  unfold cJ at x2;have ha:fU M f.id=d:=by rw[gO nM hf,U7]
  have hb:fU M b=d:=by rw[<-r,gO nM q,d1]
  unfold bZ;rcases of_decide_eq_true x2 with⟨t1,t2⟩ | ⟨t1,t2⟩ <;>rw[t1,t2,ha,hb,if_pos rfl]
 have o:=(hA.em ajk x1 n).1;refine⟨?_,?_,t,i3,l⟩
 .unfold qR;rw[i3,s];simp only[l,w];unfold DT at g3 ⊢;have y:M.aA.any (cJ f.id b)=true:=akG.2 ⟨x,x1,x2⟩;have z:Y.aA.any (cJ f.id b)=true:=akG.2 ⟨x,o,x2⟩;rw[y] at g3;rw[z];exact g3
 unfold wO;rw[i1,i3];simp only[i2,l]
omit nM in
theorem ez.oV {a b:Int} (hc:mW M.ar a b=0) {p:aI} (hp:p ∈ M.ar) (Hn:p.id=a) (c:p.aC=d) (nM: (M.ar.map aI.id).Nodup):mW Y.ar a b=0/\ll Y.ar a b=ll M.ar a b/\ ∃i:Nat,fq Y.ar a=i/\Y.ar[i]? =some p:=by
 obtain⟨i,j,x,y,h1,h2,h3,h4,h5,h6,h7⟩:=ym hc;obtain rfl:x=p:=cH nM (List.mem_of_getElem? h3) hp (h5.trans Hn.symm);have f:y.aC=d:=by rw[<- (uZ h7).2.1];exact c
 obtain⟨k,e⟩:=ajH (hA.pm hp c);obtain⟨m,g⟩:=ajH (hA.pm (List.mem_of_getElem? h4) f);have h:fq Y.ar a=k:=by rw[<-h5];exact ky nY.p e
 have l:fq Y.ar b=m:=by rw[<-h6];exact ky nY.p g
 refine⟨?_,?_,k,h,e⟩
 .unfold mW;rw[h,l];simp only[ajZ,e,g];rw[if_pos ajk];exact h7
 unfold ll;rw[h,l,h1,h2];simp only[ajZ,e,g,h3,h4];rw[if_pos ajk,if_pos ajk]
end
theorem Wn {α:Type} {key:α->Int} {l:List α} (hn: (l.map key).Nodup) (p:α->Bool): ((l.filter p).map key).Nodup:=List.Nodup.sublist (List.Sublist.map _ List.filter_sublist) hn
theorem uh (d:Int) (n:uS) (l:List bH):fG d n l=fG d n (l.filter fun x=>decide (x.aC=d)):=by
 unfold fG;rw[List.countP_filter];refine List.countP_congr fun x _=> ?_;simp only[decide_eq_true_eq,ajt];constructor
 .exact fun h=> ⟨h,h.1.symm⟩
 exact fun h=>h.1
theorem KT {b r:Bool} {w:bH} {ws:List bH} (h:Ef b r w ws=0):b=false/\r=false/\(w.name=[]\/2<=fG w.aC w.name ws):=by
 unfold Ef at h;split at h
 .cases h
 rename_i h1;split at h
 .cases h
 rename_i h2;split at h
 .cases h
 rename_i h3;refine⟨by simpa using h1,by simpa using h2,?_⟩;by_cases hn:w.name=[]
 .exact .inl hn
 refine .inr ?_;by_cases hl:fG w.aC w.name ws< 2
 .exact absurd ⟨hn,hl⟩ h3
 omega
theorem Eh {M:aB} (hb:M.Bd) {a:Int} {k:Nat} {w:bH} (h:gq M.aF a=k) (b:M.aF[k]? =some w) {d:bH->bH->Bool} (e: ∀x w,oT x->oT w->alH 684 [x.v,w.v] (.bool (d x w))) (h0:alH 676 [M.v,vi a] (vi 0)):
  jX d w M.aF=false/\alH 685 [.lit 8 ((iP w M.aF).map bH.v),au (iP w (M.aF.take k)).length] (.bool false)/\(w.name=[]\/2<=fG w.aC w.name M.aF):=by
 have c:=List.mem_of_getElem? b;have f:=qt (p:=fun x:bH=>decide (x.aC=w.aC)) b (decide_eq_true rfl);have hlen:=akA (fun x:bH=>decide (x.aC=w.aC)) M.aF;have hw:=hb.w;obtain⟨r,hr⟩:=zg (ws:=iP w M.aF) (n:=(iP w (M.aF.take k)).length) (ajp.1 f).1 (by unfold iP;omega) (fun x hx=>hb.wl x ((akr.1 hx).1));have h1:=MH hb.w h b (fun x hx=>e x w (hb.wl x hx) (hb.wl w c)) hr;obtain⟨g,i,g3⟩:=KT (rS (h1.fM h0));subst i;exact⟨g,hr,g3⟩
section
variable {d:Int} {m M Y:aB} (hM:lP d m M) (hY:wR m Y) (hA:ez d M Y)
include hM hY hA
theorem lP.thin {w:bH} (hw:w ∈ M.aF) (hd:w.aC=d) (h0:alH 676 [M.v,vi w.id] (vi 0)):alH 676 [Y.v,vi w.id] (vi 0)/\(∃c,alH 678 [M.v,vi w.id] (vi c)/\alH 678 [Y.v,vi w.id] (vi c))/\ ∃k:Nat,gq Y.aF w.id=k/\Y.aF[k]? =some w:=by
 obtain⟨h,i⟩:=skJ;obtain⟨k,f⟩:=ajH hw;have b:=hA.wm hw hd;obtain⟨g,Ie⟩:=ajH b;have f1:gq M.aF w.id=k:=ky hM.c.nd.w f;have f2:gq Y.aF w.id=g:=ky hY.nd.w Ie;obtain⟨a,j,g3⟩:=Eh hM.c.bd f1 f i h0;have l:iP w M.aF=iP w Y.aF:=by unfold iP;rw[hd];exact hA.w
 have n: (iP w (M.aF.take k)).length=(iP w (Y.aF.take g)).length:=by have q:=qt (p:=fun x:bH=>decide (x.aC=w.aC)) f (decide_eq_true rfl);have m:=qt (p:=fun x:bH=>decide (x.aC=w.aC)) Ie (decide_eq_true rfl);have Ei:M.aF.filter (fun x:bH=>decide (x.aC=w.aC))=Y.aF.filter (fun x:bH=>decide (x.aC=w.aC)):=l;rw[<-Ei] at m;exact key_inj (Wn hM.c.nd.w _) q m rfl
 rw[l,n] at j;have hb:jX h w Y.aF=false:=by
  unfold jX at a ⊢;rw[Bool.or_eq_false_iff] at a ⊢;refine⟨a.1,?_⟩;have a:=a.2;rw[akU] at a ⊢;intro x hx;by_cases e:x.aC=w.aC
  .simp[e]
  exact a x ((hM.o x.aC (by rw[<-hd];exact e)).wm (hY.w x hx) rfl)
 have ht:fG w.aC w.name M.aF=fG w.aC w.name Y.aF:=by rw[uh w.aC w.name M.aF,uh w.aC w.name Y.aF,hd,hA.w]
 rw[ht] at g3;have h1:=MH hY.bd.w f2 Ie (fun x hx=>i x w (hY.bd.wl x hx) (hY.bd.wl w b)) j;have r:Ef (jX h w Y.aF) false w Y.aF=0:=by
  unfold Ef;rw[hb,if_neg ajl,if_neg ajl,if_neg];rintro⟨n1,n2⟩;rcases g3 with g3| g3
  .exact n1 g3
  omega
 rw[r] at h1;exact⟨h1,⟨_,Ic hM.c.bd.w f1 f,Ic hY.bd.w f2 Ie⟩,g,f2,Ie⟩
end
theorem lP.o9 {d:Int} {m M Y:aB} (o9:qK m) (hn:m.Nd) (hM:lP d m M) (hY:wR m Y) (hA:ez d M Y) {e:an} (h:U8 M e) (hi:Sg M d e):U8 Y e/\Sg Y d e:=by
 have x:=hi.at;cases h with
 | @drop t a n c h1 h2 h3 h4=>
   cases hi with
   | drop q hd h0=>
     have hc:Dr.OK M q=0:=rS ((Dr.qi hM.c.bd.fit q).fM h1);obtain⟨v,y,z,D,E,F,G,H⟩:=hM.drop o9 hY hA q hd h0 hc;have g:=Dr.qi hY.bd.fit v;have j:=Dr.mj hY.bd.fit v;have l:=(Dr.mj hM.c.bd.fit q).fM h2;have Q6:v.cost=q.cost:=by unfold Dr.s9.cost Dr.s9.ZE;rw[D,E,F]
     rw[H] at g;rw[Q6,rS l] at j;rw[y,z] at g j;refine⟨.drop g j h3 h4,?_⟩;rw[<-y,<-z];exact .drop v G h0
 | @De t a b c h1 h2 h3 h4=>
   obtain⟨h0,f,f1,f2,A⟩:=x.two rfl;have hc:qR M a b=0:=rS ((FO hM.c.bd.small a b).fM h1);obtain⟨g,j,i,l,o⟩:=hA.De hM.c.nd hY.nd hc f1 f2 A;have r:=rS ((BJ hM.c.bd.small a b).fM h2);have s:=BJ hY.bd.small a b;have u:=FO hY.bd.small a b;rw[g] at u;rw[j,r] at s;exact⟨.De u s h3 h4,.De l o A h0⟩
 | @thin t a c h1 h2 h3 h4=>
   obtain⟨w,I,B,w3⟩:=x.three rfl;dsimp only at B;subst B;obtain⟨g,⟨L,j,l⟩,k,o,r⟩:=hM.thin hY hA I w3 h1;obtain rfl:=rS (j.fM h2);exact⟨.thin g l h3 h4,.thin o r w3⟩
 | @oV t a b c h1 h2 h3 h4=>
   obtain⟨p,J,K,C⟩:=x.four rfl;have hl:=hM.c.bd.p;have N:=hY.bd.p;have hc:mW M.ar a b=0:=rS ((qi ajk a b).fM h1);obtain⟨g,j,i,l,o⟩:=hA.oV hY.nd hc J K C hM.c.nd.p;have r:=rS ((mj (m:=M) ajk a b).fM h2);have s:=mj (m:=Y) ajk a b;have u:=qi (m:=Y) ajk a b;rw[g] at u;rw[j,r] at s;exact⟨.oV u s h3 h4,.oV l o C⟩
end Go.AM
namespace Go.AM
theorem KU {m:aB} (h:m.Fit):alH 739 [m.v] (.agg [.own 4 (m.aA.map aH.v),.own 5 (m.ak.map aP.v),.own 8 (m.aF.map bH.v),.own 7 (m.ar.map aI.v)]):=by
 have o:=h.e;have q:=h.w;have c1:=sZ m.aA h.e;have c2:=pw m.ak h.f;have c3:=pz m.aF h.w;have c4:=mD m.ar h.p;refine amM ?_;conv=>whnf
 repeat' (first| intro g| apply ca c1| apply ca c2| apply ca c3| apply ca c4| refine st ?_| refine br ?_ ?_<;>intro hc| rfl) <;>conv=>whnf
 rename_i t c a d b gP;have r: ∀ {l:List aH} {i:Nat} {x:aH},l[i]? =some x->(l.map aH.v).set (i:Int).toNat (.agg [vi x.id,.lit 2 (x.line.map Pt.v),vi x.left,vi x.right])=l.map aH.v:=fun h=>pq h;have s: ∀ {l:List bH} {i:Nat} {x:bH},l[i]? =some x->(l.map bH.v).set (i:Int).toNat (.agg [vi x.id,.lit 2 (x.line.map Pt.v),vi x.level,.str x.cls,.str x.name,.bool x.uT,vi x.weight,vi x.aC])=l.map bH.v:=fun h=>pq h;refine aO.by (fun (i:Nat)=> ⟨[(2,.ptr 48 c 0 0),(3,.ptr 64 g 0 0),(22,.sl 176 a 0 (m.aA.map aH.v).length),(23,au (m.aA.map aH.v).length),(24,au i)],
   [(64,⟨g,4,false,false,some [.agg [.sl 176 a 0 (m.aA.map aH.v).length,.sl 224 d 0 (m.ak.map aP.v).length,.sl 272 b 0 (m.aF.map bH.v).length,.sl 320 gP 0 (m.ar.map aI.v).length]]⟩),
    (48,⟨c,4,false,false,some [.agg [.lit 4 [],.lit 5 [],.lit 8 [],.lit 7 []]]⟩),
    (176,⟨a,4,true,false,some (m.aA.map aH.v)⟩),(224,⟨d,5,true,false,some (m.ak.map aP.v)⟩),(272,⟨b,8,true,false,some (m.aF.map bH.v)⟩),(320,⟨gP,7,true,false,some (m.ar.map aI.v)⟩)]⟩)
  (fun i=>i<=m.aA.length) (fun i=>m.aA.length - i) 0 su ajl ?_
 rintro i hi;by_cases j:i<m.aA.length
 .obtain⟨e,he⟩: ∃e,m.aA[i]? =some e:=⟨_,aM j⟩;have k:=dZ e.line (h.el e (List.mem_of_getElem? he));conv=>whnf
  repeat' (first| intro g| refine wi (aw he rfl) ?_| apply ca k| refine st ?_| refine br ?_ ?_<;>intro hc| rfl) <;>conv=>whnf
  have n: (⟨a,4,true,false,some ((m.aA.map aH.v).set (i:Int).toNat (.agg [vi e.id,.lit 2 (e.line.map Pt.v),vi e.left,vi e.right]))⟩:Obj)=⟨a,4,true,false,some (m.aA.map aH.v)⟩:=by rw[r he]
  exact aR.mk (i+1) om ajk (by(refine⟨?_,?_⟩ <;>repeat' (first| exact True.intro| refine And.intro (n) ?_| refine ai ?_| refine And.intro ?_ ?_)))
 obtain rfl:i=m.aA.length:=ajk;conv=>whnf
 repeat' (first| intro g| refine st ?_| refine br ?_ ?_<;>intro hc| rfl) <;>conv=>whnf
 refine aO.by (fun (i:Nat)=> ⟨[(2,.ptr 48 c 0 0),(3,.ptr 64 g 0 0),(39,.sl 272 b 0 (m.aF.map bH.v).length),(40,au (m.aF.map bH.v).length),(41,au i)],
   [(64,⟨g,4,false,false,some [.agg [.sl 176 a 0 (m.aA.map aH.v).length,.sl 224 d 0 (m.ak.map aP.v).length,.sl 272 b 0 (m.aF.map bH.v).length,.sl 320 gP 0 (m.ar.map aI.v).length]]⟩),
    (48,⟨c,4,false,false,some [.agg [.lit 4 [],.lit 5 [],.lit 8 [],.lit 7 []]]⟩),
    (176,⟨a,4,true,false,some (m.aA.map aH.v)⟩),(224,⟨d,5,true,false,some (m.ak.map aP.v)⟩),(272,⟨b,8,true,false,some (m.aF.map bH.v)⟩),(320,⟨gP,7,true,false,some (m.ar.map aI.v)⟩)]⟩)
  (fun i=>i<=m.aF.length) (fun i=>m.aF.length - i) 0 su ajl ?_
 rintro i hi;by_cases j:i<m.aF.length
 .obtain⟨e,he⟩: ∃e,m.aF[i]? =some e:=⟨_,aM j⟩;have k:=dZ e.line (h.wl e (List.mem_of_getElem? he));conv=>whnf
  repeat' (first| intro g| refine wi (aw he rfl) ?_| apply ca k| refine st ?_| refine br ?_ ?_<;>intro hc| rfl) <;>conv=>whnf
  have n: (⟨b,8,true,false,some ((m.aF.map bH.v).set (i:Int).toNat (.agg [vi e.id,.lit 2 (e.line.map Pt.v),vi e.level,.str e.cls,.str e.name,.bool e.uT,vi e.weight,vi e.aC]))⟩:Obj)=⟨b,8,true,false,some (m.aF.map bH.v)⟩:=by rw[s he]
  exact aR.mk (i+1) om ajk (by(refine⟨?_,?_⟩ <;>repeat' (first| exact True.intro| refine And.intro (n) ?_| refine ai ?_| refine And.intro ?_ ?_)))
 obtain rfl:i=m.aF.length:=ajk;conv=>whnf
 repeat' (first| intro g| refine wi (jd rfl) ?_| refine st ?_| refine br ?_ ?_<;>intro hc| rfl) <;>conv=>whnf
theorem Wo (h:dP):alH 756 [h.v] (.fn 765 [.eptr h.v 0]):=by
 refine amM ?_;conv=>whnf
 repeat' (first| intro g| refine st ?_| refine br ?_ ?_<;>intro hc| rfl) <;>conv=>whnf
theorem Ig: ∀ (evs:List an) (i:Nat) (b:Int),(∀e ∈ evs,yi e)-> ∃xs,yW i b (evs.map an.v)=some xs/\xs.length=evs.length/\ ∀x ∈ xs,∃i a b:Int,x=[vi i,.agg [vi a,vi b]]
 | [],i,b,_=> ⟨[],rfl,rfl,ajl⟩
 | e::evs,i,b,h=>by
   obtain⟨xs,h1,h2,h3⟩:=Ig evs (i+1) (e.at_*e.at_) fun x hx=>h x (aka _ hx);have ha:=h e akv;unfold yi at ha;refine⟨[vi i,.agg [vi b,vi (e.at_*e.at_)]]::xs,?_,by simp[h2],fun x hx=> ?_⟩
   .show (if 0<=e.at_/\e.at_<=1024 then(yW (i+1) (e.at_*e.at_) (evs.map an.v)).map ([.int .i64 (i:Int),.agg [.int .i64 b,.int .i64 (e.at_*e.at_)]]:: ·) else none)=_;rw[if_pos ajk,h1];rfl
   rcases ajy.1 hx with rfl| hx
   .exact⟨_,_,_,rfl⟩
   exact h3 x hx
theorem Wp (h:dP) (hl:h.evs.length< 1000000) (ha: ∀e ∈ h.evs,yi e) (c:Int): ∃n:Nat,n<=h.evs.length/\alH 740 [h.v,vi c] (au n):=by
 suffices hh: ∃res,Ev E 740 [h.v,vi c] res/\ ∃n:Nat,n<=h.evs.length/\res=⟨au n,[]⟩ by obtain⟨_,h1,n,h2,rfl⟩:=hh;exact⟨n,h2,h1⟩
 obtain⟨xs,h1,h2,h3⟩:=Ig h.evs 0 0 ha;have hx:E.iter 765 [.eptr h.v 0]=some xs:=by show (if (h.evs.map an.v).length< 4611686018427387904 then yW 0 0 (h.evs.map an.v) else none)=_;rw[if_pos (by simp;omega),h1]
 refine amN ?_;conv=>whnf
 repeat' (first| intro g| apply ca (Wo h) | refine st ?_| refine br ?_ ?_<;>intro hc| rfl) <;>conv=>whnf
 rename_i D5 G4;obtain⟨d,f⟩: ∃x,x=g:=⟨_,rfl⟩;rw[<-f];clear f g;refine rk.by xs rfl hx (fun x hx=>by obtain⟨i,a,b,rfl⟩:=h3 x hx;rfl) (fun (n:Nat)=> [(48,⟨D5,2,false,false,some [h.v]⟩),(64,⟨G4,1,false,false,some [vi c]⟩),(80,⟨d,1,false,false,some [au n]⟩)]) (fun k n=>n<=k) 0 (by(repeat' (first| exact True.intro| refine ai ?_| refine And.intro ?_ ?_))) ajk ?_ ?_
 .rintro k x n U9 j;have m:=(ajp.1 U9).1;obtain⟨i,a,b,rfl⟩:=h3 x (List.mem_of_getElem? U9);clear hx h1 h3 U9;conv=>whnf
  repeat' (first| intro g| refine st ?_| refine br ?_ ?_<;>intro hc| rfl) <;>conv=>whnf
  .exact⟨n,ajk,rfl⟩
  have e0:V.int .i64 (IntKind.i64.wrap ((n:Int)+1))=au (n+1):=congrArg (V.int .i64) (wt);have l: (⟨d,1,false,false,some [V.int .i64 (IntKind.i64.wrap ((n:Int)+1))]⟩:Obj)=⟨d,1,false,false,some [au (n+1)]⟩:=by rw[e0]
  exact NL.mk (n+1) ajk (by(repeat' (first| exact True.intro| refine And.intro (l) ?_| refine ai ?_| refine And.intro ?_ ?_)))
 rintro n j;clear hx h1 h3;conv=>whnf
 repeat' (first| intro g| refine st ?_| refine br ?_ ?_<;>intro hc| rfl) <;>conv=>whnf
 exact⟨n,ajk,rfl⟩
inductive zV (d:Int):aB->List an->aB->Prop
 | nil {m:aB}:zV d m [] m
 | cons {m M m':aB} {e:an} {es:List an} (hi:Sg m d e) (hs:Step m e M) (he:alH 645 [m.v,e.v] (.tuple [M.v,vi 0])) (h:zV d M es m'):zV d m (e::es) m'
inductive zW (dn:dP->Nat):aB->List dP->aB->Prop
 | nil {m:aB}:zW dn m [] m
 | cons {m M m':aB} {h:dP} {l:List dP} (hr:zV h.aC m (h.evs.take (dn h)) M) (hl:zW dn M l m'):zW dn m (h::l) m'
def BU (a:List Int):List V:=a.map fun d=> .tuple [vi d,.bool true]
theorem yo (d:Int): ∀b:List Int,d ∉ b->cp (vi d) (BU b)=some none
 | [],_=>rfl
 | a::b,h=>by
   have c:=yo d b fun k=>h (aka _ k);have bW: (d==a)=false:=by rw[beq_eq_false_iff_ne];exact fun k=>h (by rw[k];exact akv)
   have e:tZ (vi d) (vi a)=some false:=by show (if IntKind.i64=IntKind.i64 then some (d==a) else none)=some false;rw[if_pos rfl,bW]
   show (match tZ (vi d) (vi a) with
    | some true=>some (some (V.bool true))
    | some false=>cp (vi d) (BU b)
    | none=>none)=some none
   rw[e];exact c
theorem Ss {d:Int} {a:List Int} (h:d ∉ a):cZ false (.bool false) (BU a) (vi d)= .done (.bool false):=by unfold cZ;rw[yo d a h];rfl
theorem Su {d:Int} {a:List Int} (h:d ∉ a):jt (vi d) (.bool true) (BU a)=some (BU (a++[d])):=by rw[rH _ _ _ (yo d a h)];unfold BU;rw[ajV];rfl
theorem zV.head {d:Int} {m M:aB} {e:an} {es:List an} (h:zV d m (e::es) M): ∃a,alH 645 [m.v,e.v] (.tuple [a.v,vi 0])/\zV d a es M:=by
 cases h with
 | cons h1 h2 h3 h4=>exact⟨_,h3,h4⟩
theorem zW.head {dn:dP->Nat} {m M:aB} {h:dP} {l:List dP} (k:zW dn m (h::l) M): ∃a,zV h.aC m (h.evs.take (dn h)) a/\zW dn a l M:=by
 cases k with
 | cons h1 h2=>exact⟨_,h1,h2⟩
theorem Sv {l:List dP} (hd: (l.map dP.aC).Nodup) {i:Nat} {h:dP} (hi:l[i]? =some h):h.aC ∉ (l.take i).map dP.aC:=by
 intro hm;obtain⟨x,hx,he⟩:=ajL.1 hm;obtain⟨j,a⟩:=ajH hx;rw[ajW] at a;split at a
 .have:=key_inj hd a hi he;omega
 cases a
theorem Ih {m Y:aB} (hb:m.Bd) {l:List dP} (hl:l.length< 1000000) (hd: (l.map dP.aC).Nodup) {dn:dP->Nat} {f:Int} (c: ∀h ∈ l,dn h<=h.evs.length/\h.evs.length< 1000000/\alH 740 [h.v,vi f] (au (dn h))) (hr:zW dn m l Y):
  alH 730 [m.v,.lit 2 (l.map dP.v),vi f] (.tuple [Y.v,vi 0]):=by
 have P9:=KU hb.fit;have j:bu E 739=[]:=rfl;have o:V.al [m.v]=true:=rfl;refine amM ?_;conv=>whnf
 repeat' (first| intro g| refine st ?_| refine br ?_ ?_<;>intro hc| rfl) <;>conv=>whnf
 rename_i G4 gm;obtain⟨q,r⟩: ∃x,x=g:=⟨_,rfl⟩;rw[<-r];clear r g;refine aO.by (fun (i:Nat)=> ⟨[(1,.lit 2 (l.map dP.v)),(2,vi f),(3,.ptr 64 G4 0 0),(6,.ptr 112 gm 0 0),(8,.mp 272 q),(17,.lit 2 (l.map dP.v)),(18,au l.length),(19,au i)],
   [(64,⟨G4,4,false,false,some [m.v]⟩),(112,⟨gm,4,false,false,some [.agg [.lit 4 [],.lit 5 [],.lit 8 [],.lit 7 []]]⟩),(272,⟨q,0,false,false,some (BU ((l.take i).map dP.aC))⟩)]⟩)
  (fun i=>i<=l.length) (fun i=>l.length - i) 0 su ajk ?_
 intro i hi;by_cases d:i<l.length
 .obtain⟨h,hx⟩: ∃x,l[i]? =some x:=⟨_,aM d⟩;have s:=Sv hd hx;have t:=Su s;have e0: (l.take i).map dP.aC++[h.aC]=(l.take (i+1)).map dP.aC:=by rw[mF hx,ajV];rfl
  rw[e0] at t;have y:=Ss s;clear e0 c hr P9;conv=>whnf
  repeat' (first| intro g| refine wi (aw hx rfl) ?_| refine wi y ?_| refine wi t ?_| refine st ?_| refine br ?_ ?_<;>intro hc| rfl) <;>conv=>whnf
  exact aR.mk (i+1) om ajk su
 obtain rfl:i=l.length:=ajk;rw[akd];clear d hi;conv=>whnf
 repeat' (first| refine jU j o P9 (fun _ _=>rfl) ?_| intro g| refine st ?_| refine br ?_ ?_<;>intro hc| rfl) <;>conv=>whnf
 clear P9 j o;refine aO.by (fun ((i,a):Nat×aB)=> ⟨[(2,vi f),(3,.ptr 64 G4 0 0),(6,.ptr 112 gm 0 0),(11,vi 0),(34,.lit 2 (l.map dP.v)),(35,au l.length),(36,au i)],
   [(64,⟨G4,4,false,false,some [a.v]⟩),(112,⟨gm,4,false,false,some [.agg [.lit 4 [],.lit 5 [],.lit 8 [],.lit 7 []]]⟩)]⟩)
  (fun (i,a)=>i<=l.length/\zW dn a (l.drop i) Y) (fun (i,_)=>l.length - i) (0,m) su ⟨ajk,hr⟩ ?_
 clear hr hb hd;rintro⟨i,a⟩ ⟨hi,hr⟩
 try dsimp only at hi hr
 by_cases d:i<l.length
 case neg=>
  obtain rfl:i=l.length:=ajk;rw[List.drop_length] at hr;obtain rfl:a=Y:=by cases hr;rfl
  clear hr;conv=>whnf
  repeat' (first| intro g| refine st ?_| refine br ?_ ?_<;>intro hc| rfl) <;>conv=>whnf
 obtain⟨h,hx⟩: ∃x,l[i]? =some x:=⟨_,aM d⟩;have p:l.drop i=h::l.drop (i+1):=by
  rw[ajO d];congr 1
  rw[aju d] at hx;injection hx
 rw[p] at hr;obtain⟨M,b,hr⟩:=hr.head;obtain⟨z,A,u⟩:=c h (List.mem_of_getElem? hx);generalize dn h=n at*;have hlen: (h.evs.take n).length=n:=by rw[akj];omega
 obtain⟨evs,V7⟩: ∃evs,h.evs.take n=evs:=⟨_,rfl⟩;rw[V7] at b hlen;have w:aN (h.evs.map an.v) 0 (n:Int).toNat=evs.map an.v:=by rw[<-V7,ajZ];exact BV ajk
 have bW: (n:Int)<=((h.evs.map an.v).length:Int):=by rw[List.length_map];omega
 conv=>whnf
 repeat' (first| intro g| refine wi (aw hx rfl) ?_| refine wi w ?_| apply ca u| refine st ?_| refine br ?_ ?_<;>intro hc| rfl) <;>conv=>whnf
 have uU:evs.length< 1000000:=ajk;clear w bW u V7 p z A;refine aO.by (fun ((k,a):Nat×aB)=> ⟨[(2,vi f),(3,.ptr 64 G4 0 0),(6,.ptr 112 gm 0 0),(11,vi 0),(34,.lit 2 (l.map dP.v)),(35,au l.length),(36,au i),(45,.lit 5 (evs.map an.v)),(46,au evs.length),(47,au k)],
   [(64,⟨G4,4,false,false,some [a.v]⟩),(112,⟨gm,4,false,false,some [.agg [.lit 4 [],.lit 5 [],.lit 8 [],.lit 7 []]]⟩)]⟩)
  (fun (k,a)=>k<=evs.length/\zV h.aC a (evs.drop k) M) (fun (k,_)=>evs.length - k) (0,a) su ⟨ajk,b⟩ ?_
 clear b;rintro⟨k,a⟩ ⟨hk,b⟩
 try dsimp only at hk b
 by_cases FZ:k<evs.length
 case neg=>
  obtain rfl:k=evs.length:=ajk;rw[List.drop_length] at b;obtain rfl:a=M:=by cases b;rfl
  clear b;conv=>whnf
  repeat' (first| intro g| refine st ?_| refine br ?_ ?_<;>intro hc| rfl) <;>conv=>whnf
  exact aR.mk (i+1,a) om ⟨ajk,hr⟩ su
 obtain⟨e,he⟩: ∃x,evs[k]? =some x:=⟨_,aM FZ⟩;have p:evs.drop k=e::evs.drop (k+1):=by
  rw[ajO FZ];congr 1
  rw[aju FZ] at he;injection he
 rw[p] at b;obtain⟨B,h1,b⟩:=b.head;clear p c;conv=>whnf
 repeat' (first| intro g| refine wi (aw he rfl) ?_| apply ca h1| refine st ?_| refine br ?_ ?_<;>intro hc| rfl) <;>conv=>whnf
 exact aR.mk (k+1,B) om ⟨ajk,b⟩ su
end Go.AM
