/-
  Texts of the proof, joined by program: SortD, SortE. Own work.
-/
import Derived.Test.YtkdfnbahehdhmaaGreatRa
import Derived.KernelRfl
set_option linter.unusedSimpArgs false
set_option linter.unusedVariables false
set_option maxRecDepth 20000
namespace Go.AM
section
variable {c:Event→Event→Int} {g:Nat} {L:List Event}
theorem af1 (hm:df E g=[]) (acJ: ∀a b:Event,Ev E g [a.v,b.v] ⟨vi (c a b),[]⟩) {a b s:Int} {i j:Nat} (ha:a=i) (hb:b=j) (lo hi:Nat) (hh:hi≤L.length) (i1:lo≤i) (i2:i<hi) (j1:lo≤j) (j2:j<hi):
   ∃ (p q:Nat) (s':Int),(lo≤p∧p<hi)∧(lo≤q∧q<hi)∧Ev E 585 [.lit 5 (L.map Event.v),vi a,vi b,.mptr 1 [vi s] 0 0,.fn g []] ⟨.tuple [aD p,aD q],[(0,[vi s'])]⟩:=by
 subst ha;subst hb
 by_cases hc:c (at0 L j) (at0 L i) < 0
 · refine⟨j,i,IntKind.i64.wrap (s+1),⟨j1,j2⟩,⟨i1,i2⟩,Ev.aG ag6 (ag7 _) rfl ?_⟩
   (conv=>whnf);repeat' ((first| intro g| refine dI.mk (⟨by omega,rfl⟩) ?_| refine aL.mk _ (afF (by omega) rfl) ?_| refine aL.mk _ (afF (by omega) rfl) ?_| refine gG (by assumption) (by first| assumption| rfl| (simp only[V.an,V.aC,Bool.and_self,Bool.true_and,Bool.and_true, *])) (acJ _ _) rfl ?_| refine st ?_| (first| refine b1 ?_ ?_| refine b2 ?_ ?_| refine Br.mk ?_ ?_) <;>intro hc| exact rfl) <;>conv=>whnf)
 · refine⟨i,j,s,⟨i1,i2⟩,⟨j1,j2⟩,Ev.aG ag6 (ag7 _) rfl ?_⟩
   (conv=>whnf);repeat' ((first| intro g| refine dI.mk (⟨by omega,rfl⟩) ?_| refine aL.mk _ (afF (by omega) rfl) ?_| refine aL.mk _ (afF (by omega) rfl) ?_| refine gG (by assumption) (by first| assumption| rfl| (simp only[V.an,V.aC,Bool.and_self,Bool.true_and,Bool.and_true, *])) (acJ _ _) rfl ?_| refine st ?_| (first| refine b1 ?_ ?_| refine b2 ?_ ?_| refine Br.mk ?_ ?_) <;>intro hc| exact rfl) <;>conv=>whnf)
theorem af2 (hm:df E g=[]) (acJ: ∀a b:Event,Ev E g [a.v,b.v] ⟨vi (c a b),[]⟩) {a b d s:Int} {i j k:Nat} (ha:a=i) (hb:b=j) (hd:d=k) (lo hi:Nat) (hh:hi≤L.length) (i1:lo≤i) (i2:i<hi) (j1:lo≤j) (j2:j<hi) (k1:lo≤k) (k2:k<hi):
  ∃ (p:Nat) (s':Int),(lo≤p∧p<hi)∧Ev E 584 [.lit 5 (L.map Event.v),vi a,vi b,vi d,.mptr 1 [vi s] 0 0,.fn g []] ⟨aD p,[(0,[vi s'])]⟩:=by
 obtain⟨p1,q1,s1,SJ,hq1,h1⟩:=af1 (L:=L) (s:=s) hm acJ ha hb lo hi hh i1 i2 j1 j2
 obtain⟨p2,q2,s2,uM,w6,h2⟩:=af1 (L:=L) (s:=s1) hm acJ (i:=q1) (j:=k) rfl hd lo hi hh hq1.1 hq1.2 k1 k2
 obtain⟨p3,q3,s3,hp3,hq3,h3⟩:=af1 (L:=L) (s:=s2) hm acJ (i:=p1) (j:=p2) rfl rfl lo hi hh SJ.1 SJ.2 uM.1 uM.2
 refine⟨q3,s3,hq3,Ev.aG aiu (aiv _) rfl ?_⟩
 (conv=>whnf);repeat' ((first| intro g| refine dI.mk (⟨rfl,rfl,rfl,rfl⟩) ?_| refine dI.mk (⟨by omega,rfl⟩) ?_| refine ag.mk _ (h1) ?_| refine ag.mk _ (h2) ?_| refine ag.mk _ (h3) ?_| refine st ?_| (first| refine b1 ?_ ?_| refine b2 ?_ ?_| refine Br.mk ?_ ?_) <;>intro hc| exact rfl) <;>conv=>whnf)
theorem afS (hm:df E g=[]) (acJ: ∀a b:Event,Ev E g [a.v,b.v] ⟨vi (c a b),[]⟩) {a s:Int} {i:Nat} (ha:a=i) (lo hi:Nat) (hh:hi≤L.length) (hlen:L.length< 1000000) (i1:lo+1≤i) (i2:i+1 <hi):
  ∃ (p:Nat) (s':Int),(lo≤p∧p<hi)∧Ev E 583 [.lit 5 (L.map Event.v),vi a,.mptr 1 [vi s] 0 0,.fn g []] ⟨aD p,[(0,[vi s'])]⟩:=by
 obtain⟨p,s',hp,h1⟩:=af2 (L:=L) (s:=s) (a:=IntKind.i64.wrap (a - 1)) (b:=a) (d:=IntKind.i64.wrap (a+1)) hm acJ (i:=i - 1) (j:=i) (k:=i+1) ((wrap64 (by omega) (by omega)).trans (by omega)) ha ((wrap64 (by omega) (by omega)).trans (by omega)) lo hi hh (by omega) (by omega) (by omega) (by omega) (by omega) (by omega)
 refine⟨p,s',hp,Ev.aG ais (ait _) rfl ?_⟩
 (conv=>whnf);repeat' ((first| intro g| refine dI.mk (⟨rfl,rfl,rfl,rfl⟩) ?_| refine dI.mk (⟨by omega,rfl⟩) ?_| refine ag.mk _ (h1) ?_| refine st ?_| (first| refine b1 ?_ ?_| refine b2 ?_ ?_| refine Br.mk ?_ ?_) <;>intro hc| exact rfl) <;>conv=>whnf)
theorem agq (hm:df E g=[]) (acJ: ∀a b:Event,Ev E g [a.v,b.v] ⟨vi (c a b),[]⟩) {a b:Nat} (h8:a+8≤b) (hb:b≤L.length) (hlen:L.length< 1000000):
   ∃ (p:Nat) (h:Int),(a≤p∧p<b)∧Ev E 570 [.lit 5 (L.map Event.v),aD a,aD b,.fn g []] ⟨.tuple [aD p,vi h],[]⟩:=by
 have key:=Ev.cO (R:=fun r=> ∃ (p:Nat) (h:Int),(a≤p∧p<b)∧r=⟨.tuple [aD p,vi h],[]⟩) aii (aij [.lit 5 (L.map Event.v),aD a,aD b,.fn g []]) rfl ?_
 · obtain⟨res,h1,p,h,hp,rfl⟩:=key
   exact⟨p,h,hp,h1⟩
 obtain⟨n,hn⟩: ∃n,n=b - a:=⟨_,rfl⟩
 have e0:IntKind.i64.wrap ((b:Int) - a)=n:=(wrap64 (by omega) (by omega)).trans (by omega)
 have e1: (n:Int).tdiv 4=((n / 4:Nat):Int):=rfl
 generalize hq:n / 4=q at e1
 have e2:IntKind.i64.wrap ((q:Nat):Int)=q:=wrap64 (by omega) (by omega)
 have x1:IntKind.i64.wrap ((a:Int)+IntKind.i64.wrap (IntKind.i64.wrap ((IntKind.i64.wrap ((b:Int) - a)).tdiv 4)*1))=((a+q:Nat):Int):=by
   rw[e0,e1,e2];simp only[Int.mul_one,e2];exact(wrap64 (by omega) (by omega)).trans (by omega)
 have x2:IntKind.i64.wrap ((a:Int)+IntKind.i64.wrap (IntKind.i64.wrap ((IntKind.i64.wrap ((b:Int) - a)).tdiv 4)*2))=((a+2*q:Nat):Int):=by
   rw[e0,e1,e2,wrap64 (n:=(q:Int)*2) (by omega) (by omega)]
   exact(wrap64 (by omega) (by omega)).trans (by omega)
 have x3:IntKind.i64.wrap ((a:Int)+IntKind.i64.wrap (IntKind.i64.wrap ((IntKind.i64.wrap ((b:Int) - a)).tdiv 4)*3))=((a+3*q:Nat):Int):=by
   rw[e0,e1,e2,wrap64 (n:=(q:Int)*3) (by omega) (by omega)]
   exact(wrap64 (by omega) (by omega)).trans (by omega)
 by_cases h50:50≤n
 · obtain⟨p1,s1,SJ,m1⟩:=afS (s:=0) (L:=L) hm acJ x1 a b hb hlen (by omega) (by omega)
   obtain⟨p2,s2,uM,m2⟩:=afS (s:=s1) (L:=L) hm acJ x2 a b hb hlen (by omega) (by omega)
   obtain⟨p3,s3,hp3,m3⟩:=afS (s:=s2) (L:=L) hm acJ x3 a b hb hlen (by omega) (by omega)
   obtain⟨p,s,hp,m4⟩:=af2 (s:=s3) (L:=L) hm acJ (i:=p1) (j:=p2) (k:=p3) rfl rfl rfl a b hb SJ.1 SJ.2 uM.1 uM.2 hp3.1 hp3.2
   (conv=>whnf);repeat' ((first| ((exfalso;omega)) | intro g| refine dI.mk (⟨rfl,rfl,rfl,rfl⟩) ?_| refine dI.mk (⟨by omega,rfl⟩) ?_| refine ag.mk _ (m1) ?_| refine ag.mk _ (m2) ?_| refine ag.mk _ (m3) ?_| refine ag.mk _ (m4) ?_| refine st ?_| (first| refine b1 ?_ ?_| refine b2 ?_ ?_| refine Br.mk ?_ ?_) <;>intro hc| exact rfl) <;>conv=>whnf)
   all_goals exact⟨_,_,hp,rfl⟩
 · obtain⟨p,s,hp,m4⟩:=af2 (s:=0) (L:=L) hm acJ x1 x2 x3 a b hb (by omega) (by omega) (by omega) (by omega) (by omega) (by omega)
   (conv=>whnf);repeat' ((first| ((exfalso;omega)) | intro g| refine dI.mk (⟨rfl,rfl,rfl,rfl⟩) ?_| refine dI.mk (⟨by omega,rfl⟩) ?_| refine ag.mk _ (m4) ?_| refine st ?_| (first| refine b1 ?_ ?_| refine b2 ?_ ?_| refine Br.mk ?_ ?_) <;>intro hc| exact rfl) <;>conv=>whnf)
   all_goals exact⟨_,_,hp,rfl⟩
end
end Go.AM
set_option maxRecDepth 20000
namespace Go.AM
theorem agz (r:Int): ∃r':Int,Ev E 55 [.mptr 1 [.int .u64 r] 0 0] ⟨.int .u64 r',[(0,[.int .u64 r'])]⟩:=by
 have key:=Ev.cO (R:=fun res=> ∃r':Int,res=⟨.int .u64 r',[(0,[.int .u64 r'])]⟩) aiR (aiS [.mptr 1 [.int .u64 r] 0 0]) rfl ?_
 · obtain⟨res,h1,r',rfl⟩:=key
   exact⟨r',h1⟩
 (conv=>whnf);repeat' ((first| intro g| refine dI.mk (⟨by omega,rfl⟩) ?_| refine st ?_| (first| refine b1 ?_ ?_| refine b2 ?_ ?_| refine Br.mk ?_ ?_) <;>intro hc| exact rfl) <;>conv=>whnf)
 all_goals exact⟨_,rfl⟩
theorem agA: ∀n:Nat,n< 200→8≤n→ ∃md:Int,1≤md∧md≤2*n∧Ev E 54 [aD n] ⟨.int .u64 md,[]⟩:=by
 have key: (List.range 200).all (fun n=>match call E 100 54 [aD n] with
   | some ⟨.int .u64 k,[]⟩=>decide (n< 8∨1≤k∧k≤2*n)
   | _=>false)=true:=by kernel_rfl
 intro n hn h8
 have h:=List.all_eq_true.1 key n (by simpa using hn)
 split at h
 · rename_i k hk
   simp only[decide_eq_true_eq] at h
   exact⟨k,by omega,by omega,⟨100,hk⟩⟩
 · simp at h
theorem ahc (x md:Int) (h1:1≤md) (h2:md≤1000): ∃k:Nat,(k:Int) <md∧IntKind.i64.wrap (IntKind.u64.wrap ↑(BitVec.ofInt IntKind.u64.bits x &&&BitVec.ofInt IntKind.u64.bits (IntKind.u64.wrap (md - 1))).toNat)=(k:Int):=by
 obtain⟨m,rfl⟩: ∃m:Nat,md=(m:Int)+1:=⟨(md - 1).toNat,by omega⟩
 have hw:IntKind.u64.wrap ((m:Int)+1 - 1)=m:=by
  simp[IntKind.wrap,IntKind.bits,IntKind.signed];omega
 rw[hw]
 have hm: (BitVec.ofInt IntKind.u64.bits (m:Int)).toNat=m:=by
  simp[IntKind.bits];omega
 have hle: (BitVec.ofInt IntKind.u64.bits x &&&BitVec.ofInt IntKind.u64.bits (m:Int)).toNat≤m:=by
  rw[BitVec.toNat_and,hm];exact Nat.and_le_right
 generalize (BitVec.ofInt IntKind.u64.bits x &&&BitVec.ofInt IntKind.u64.bits (m:Int)).toNat=t at*
 have zn:IntKind.u64.wrap (t:Int)=t:=by
  simp[IntKind.wrap,IntKind.bits,IntKind.signed];omega
 exact⟨t,by omega,by rw[zn];exact wrap64 (by omega) (by omega)⟩
set_option maxHeartbeats 4000000 in
theorem agB {g:Nat} {L0:List Event} {a b:Nat} (hab:a≤b) (hb:b≤L0.length) (h8:a+8≤b) (hlen:L0.length< 200):
   ∃L',afG a b L0 L'∧Ev E 569 [.msl 5 (L0.map Event.v) 0 L0.length,aD a,aD b,.fn g []] ⟨.tuple [],[(0,L'.map Event.v)]⟩:=by
 have key:=Ev.cO (R:=fun r=> ∃L':List Event,afG a b L0 L'∧r=⟨.tuple [],[(0,L'.map Event.v)]⟩) aif (aih [.msl 5 (L0.map Event.v) 0 L0.length,aD a,aD b,.fn g []]) rfl ?_
 · obtain⟨res,h1,l',h2,rfl⟩:=key
   exact⟨l',h2,h1⟩
 obtain⟨n,hn⟩: ∃n,n=b - a:=⟨_,rfl⟩
 have w0:IntKind.i64.wrap ((b:Int) - a)=(n:Int):=(wrap64 (by omega) (by omega)).trans (by omega)
 obtain⟨md,m1,m2,xj⟩:=agA n (by omega) (by omega)
 have aiU:Ev E 54 [.int .i64 (IntKind.i64.wrap ((b:Int) - a))] ⟨.int .u64 md,[]⟩:=by rw[w0];exact xj
 have e1: (n:Int).tdiv 4=((n / 4:Nat):Int):=rfl
 generalize hq:n / 4=q at e1
 have e2:IntKind.i64.wrap ((q:Nat):Int)=q:=wrap64 (by omega) (by omega)
 have w1:IntKind.i64.wrap ((a:Int)+IntKind.i64.wrap (IntKind.i64.wrap ((IntKind.i64.wrap ((b:Int) - a)).tdiv 4)*2))=((a+2*q:Nat):Int):=by
   rw[w0,e1,e2,wrap64 (n:=(q:Int)*2) (by omega) (by omega)]
   exact(wrap64 (by omega) (by omega)).trans (by omega)
 have w2:IntKind.i64.wrap (IntKind.i64.wrap ((a:Int)+IntKind.i64.wrap (IntKind.i64.wrap ((IntKind.i64.wrap ((b:Int) - a)).tdiv 4)*2)) - 1)=((a+2*q - 1:Nat):Int):=by
   rw[w1];exact(wrap64 (by omega) (by omega)).trans (by omega)
 have w3:IntKind.i64.wrap (IntKind.i64.wrap ((a:Int)+IntKind.i64.wrap (IntKind.i64.wrap ((IntKind.i64.wrap ((b:Int) - a)).tdiv 4)*2))+1)=((a+2*q+1:Nat):Int):=by
   rw[w1];exact(wrap64 (by omega) (by omega)).trans (by omega)
 (conv=>whnf);repeat' ((first| ((exfalso;omega)) | intro g| refine ag.mk _ (aiU) ?_| refine st ?_| (first| refine b1 ?_ ?_| refine b2 ?_ ?_| refine Br.mk ?_ ?_) <;>intro hc| exact rfl) <;>conv=>whnf)
 refine aV.by (fun ((i,r,L):Nat×Int×List Event)=> ⟨[(0,.sl 0 0 0 L0.length),(1,aD a),(8,.int .i64 (IntKind.i64.wrap ((b:Int) - a))),(9,.ptr 160 g 0 0),(10,.int .u64 md),(11,aD i)],[(0,⟨0,5,true,false,some (L.map Event.v)⟩),(160,⟨g,1,false,false,some [.int .u64 r]⟩)]⟩)
   (fun p=>a≤p.1∧p.1≤a+2*q+2∧afG a b L0 p.2.2) (fun p=>a+2*q+2 - p.1) (a+2*q - 1,IntKind.u64.wrap (IntKind.i64.wrap ((b:Int) - a)),L0) ?_ ⟨by dsimp only;omega,by dsimp only;omega,.refl⟩ ?_
 · have e3:V.int .i64 (IntKind.i64.wrap (IntKind.i64.wrap ((a:Int)+IntKind.i64.wrap (IntKind.i64.wrap ((IntKind.i64.wrap ((b:Int) - a)).tdiv 4)*2)) - 1))=aD (a+2*q - 1):=by rw[w2]
   (refine⟨?_,?_⟩ <;>repeat' (first| exact True.intro| refine And.intro (e3) ?_| refine ai ?_| refine And.intro ?_ ?_))
 rintro⟨i,r,L⟩ ⟨h1,h2,h3⟩
 dsimp only at h1 h2 h3
 have hl:=h3.len
 by_cases hi:i<a+2*q+2
 · obtain⟨r',hxn⟩:=agz r
   obtain⟨k,hk,yk⟩:=ahc r' md m1 (by omega)
   by_cases hkn:k<n
   · have v1:IntKind.i64.wrap ((a:Int)+IntKind.i64.wrap (IntKind.u64.wrap ↑(BitVec.ofInt IntKind.u64.bits r' &&&BitVec.ofInt IntKind.u64.bits (IntKind.u64.wrap (md - 1))).toNat))=((a+k:Nat):Int):=by
      rw[yk];exact(wrap64 (by omega) (by omega)).trans (by omega)
     (conv=>whnf);repeat' ((first| ((exfalso;omega)) | intro g| refine dI.mk (⟨rfl,rfl,rfl,rfl⟩) ?_| refine dI.mk (⟨by omega,rfl⟩) ?_| refine aL.mk _ (afF (by omega) rfl) ?_| refine aL.mk _ (afF (by omega) v1) ?_| refine aL.mk _ (afK rfl v1 (by omega)) ?_| refine ag.mk _ (hxn) ?_| refine st ?_| (first| refine b1 ?_ ?_| refine b2 ?_ ?_| refine Br.mk ?_ ?_) <;>intro hc| exact rfl) <;>conv=>whnf)
     refine a9.mk (i+1,r',swp L i (a+k)) (by dsimp only;omega) ⟨by dsimp only;omega,by dsimp only;omega,h3.trans (.swap (by omega) (by omega) (by omega) (by omega) (by omega))⟩ ?_
     have e2:=afX (g:=0) (sz:=5) (afI (f:=Event.v) (L:=L) (i:=i) rfl v1)
     (refine⟨?_,?_⟩ <;>repeat' (first| exact True.intro| refine And.intro (e2) ?_| refine ai ?_| refine And.intro ?_ ?_))
   · have v1:IntKind.i64.wrap ((a:Int)+IntKind.i64.wrap (IntKind.i64.wrap (IntKind.u64.wrap ↑(BitVec.ofInt IntKind.u64.bits r' &&&BitVec.ofInt IntKind.u64.bits (IntKind.u64.wrap (md - 1))).toNat) - IntKind.i64.wrap ((b:Int) - a)))=((a+(k - n):Nat):Int):=by
      rw[yk,w0,show IntKind.i64.wrap ((k:Int) - n)=((k - n:Nat):Int) from(wrap64 (by omega) (by omega)).trans (by omega)];exact(wrap64 (by omega) (by omega)).trans (by omega)
     (conv=>whnf);repeat' ((first| ((exfalso;omega)) | intro g| refine dI.mk (⟨rfl,rfl,rfl,rfl⟩) ?_| refine dI.mk (⟨by omega,rfl⟩) ?_| refine aL.mk _ (afF (by omega) rfl) ?_| refine aL.mk _ (afF (by omega) v1) ?_| refine aL.mk _ (afK rfl v1 (by omega)) ?_| refine ag.mk _ (hxn) ?_| refine st ?_| (first| refine b1 ?_ ?_| refine b2 ?_ ?_| refine Br.mk ?_ ?_) <;>intro hc| exact rfl) <;>conv=>whnf)
     refine a9.mk (i+1,r',swp L i (a+(k - n))) (by dsimp only;omega) ⟨by dsimp only;omega,by dsimp only;omega,h3.trans (.swap (by omega) (by omega) (by omega) (by omega) (by omega))⟩ ?_
     have e2:=afX (g:=0) (sz:=5) (afI (f:=Event.v) (L:=L) (i:=i) rfl v1)
     (refine⟨?_,?_⟩ <;>repeat' (first| exact True.intro| refine And.intro (e2) ?_| refine ai ?_| refine And.intro ?_ ?_))
 · (conv=>whnf);repeat' ((first| ((exfalso;omega)) | intro g| refine dI.mk (⟨rfl,rfl,Event.bZ _⟩) ?_| refine st ?_| (first| refine b1 ?_ ?_| refine b2 ?_ ?_| refine Br.mk ?_ ?_) <;>intro hc| exact rfl) <;>conv=>whnf)
   exact⟨L,h3,rfl⟩
end Go.AM
