/-
  Texts of the proof, joined by program: SortI. Own work.
-/
import Derived.Test.YtkdfnbahehdhmaaGreatRe
set_option linter.unusedSimpArgs false
set_option linter.unusedVariables false
set_option maxRecDepth 20000
namespace Go.AM
section
variable {c:Event→Event→Int} {g:Nat} {L0 L:List Event} {a0 b0 a b:Nat} {k:Int} {Q:bd→SS→Prop}
theorem agC (ho:Ij c) (hm:df E g=[]) (acJ: ∀a b:Event,Ev E g [a.v,b.v] ⟨vi (c a b),[]⟩) (hd:Dst c L0) (v3:b0≤L0.length) (hlen:L0.length< 200) (ht:afO c a0 b0 L0 a b L) (aft wp:Bool)
   (ih: ∀ (afg:List Event) (x y:Nat) (k:Int),y - x<b - a→x≤y→y≤afg.length→afg.length< 200→Dst c afg→afU c afg x y→ ∃afh,afG x y afg afh∧afH c afh x y∧Ev E 558 [.msl 5 (afg.map Event.v) 0 afg.length,aD x,aD y,vi k,.fn g []] ⟨.tuple [],[(0,afh.map Event.v)]⟩)
   (hR: ∀L' T' O',afG a0 b0 L0 L'→afH c L' a0 b0→SS.Sub ⟨[],[(0,⟨0,5,true,false,some (L'.map Event.v)⟩)]⟩ ⟨T',O'⟩→Q .ret ⟨T',O'⟩)
   (hN: ∀a' b' k' aft wp L' T' O',afO c a0 b0 L0 a' b' L'→b' - a'<b - a→SS.Sub (pdS L0.length a' b' k' aft wp L' g) ⟨T',O'⟩→Q .normal ⟨T',O'⟩):oN E JK (pdS L0.length a b k aft wp L g) Q:=by
 by_cases h12:b - a≤12
 · exact ahg ho hm acJ v3 hlen ht hR h12
 by_cases hk:k=0
 · exact agW ho hm acJ v3 hlen ht hR (by omega) hk
 have h12:12 <b - a:=by omega
 have hab:=ht.h2;have hbb:=ht.h3
 have hl:=ht.p.len
 have key: ∀ {afy:List Event} (p:Nat) (k2:Int),afG a b L afy→(a≤p∧p<b)→ ∃ (afu:List Event) (m:Nat) (w2:Bool),afu.length=L0.length∧a≤m∧m<b∧(0 <a→c (at0 afy (a - 1)) (at0 afy p) < 0)∧Ev E 574 [.msl 5 (afy.map Event.v) 0 L0.length,aD a,aD b,aD p,.fn g []] ⟨.tuple [aD m,.bool w2],[(0,afu.map Event.v)]⟩∧
     (∃afw,afw.length=L0.length∧Ev E 558 [.msl 5 (afu.map Event.v) 0 L0.length,aD a,aD m,vi k2,.fn g []] ⟨.tuple [],[(0,afw.map Event.v)]⟩∧ ∀aft T' O',SS.Sub (pdS L0.length (m+1) b k2 aft w2 afw g) ⟨T',O'⟩→Q .normal ⟨T',O'⟩)∧
     (∃afw,afw.length=L0.length∧Ev E 558 [.msl 5 (afu.map Event.v) 0 L0.length,aD (m+1),aD b,vi k2,.fn g []] ⟨.tuple [],[(0,afw.map Event.v)]⟩∧ ∀aft T' O',SS.Sub (pdS L0.length a m k2 aft w2 afw g) ⟨T',O'⟩→Q .normal ⟨T',O'⟩):=by
   intro afy p k2 h4 hp
   have t4:=ht.perm h4
   have l4:=t4.p.len
   obtain⟨afu,m,w2,p5,m1,m2,afz,SR⟩:=agU hm acJ (L0:=afy) hp.1 hp.2 (by omega) (by omega)
   have t5:=t4.perm p5
   have l5:=t5.p.len
   have d5:Dst c afu:=hd.perm t5.p.perm
   rw[l4] at SR
   obtain⟨afw,p6,afA,e6⟩:=ih afu a m k2 (by omega) m1 (by omega) (by omega) d5 (fun h0 k k1 k3=>t5.afk h0 k k1 (by omega))
   obtain⟨afB,p7,afC,e7⟩:=ih afu (m+1) b k2 (by omega) (by omega) (by omega) (by omega) d5 (afz.ahead d5 (by omega))
   rw[l5] at e6 e7
   exact⟨afu,m,w2,l5,m1,m2,fun h0=>t4.afk h0 p hp.1 hp.2,SR,⟨afw,p6.len.trans l5,e6,fun aft T' O' hs=>hN _ _ _ _ _ _ _ _ (t5.left ho hd v3 m1 m2 afz p6 afA) (by omega) hs⟩,⟨afB,p7.len.trans l5,e7,fun aft T' O' hs=>hN _ _ _ _ _ _ _ _ (t5.right ho m1 m2 afz p7 afC) (by omega) hs⟩⟩
 have aiA: ∀ {afh:List Event},afG a b L afh→ ∃afx,afG a b L afx∧afx.length=L0.length∧Ev E 571 [.msl 5 (afh.map Event.v) 0 L0.length,aD a,aD b,.fn g []] ⟨.tuple [],[(0,afx.map Event.v)]⟩:=by
   intro afh h2
   have l2:=h2.len
   obtain⟨afx,p3,e3⟩:=ahe (g:=g) (L0:=afh) (a:=a) (b:=b) (by omega) (by omega) (by omega)
   rw[l2,hl] at e3
   exact⟨afx,h2.trans p3,by rw[p3.len,l2,hl],e3⟩
 have aiB: ∀ {afx:List Event},afG a b L afx→ ∃ (afy:List Event) (w:Bool),afG a b L afy∧afy.length=L0.length∧(w=true→afH c afy a b)∧Ev E 572 [.msl 5 (afx.map Event.v) 0 L0.length,aD a,aD b,.fn g []] ⟨.bool w,[(0,afy.map Event.v)]⟩:=by
   intro afx h3
   have l3:=h3.len
   obtain⟨afy,w,p4,s4,e4⟩:=agV ho hm acJ (L0:=afx) (a:=a) (b:=b) (by omega) (by omega) (by omega) (ht.perm h3).afk
   rw[l3,hl] at e4
   exact⟨afy,w,h3.trans p4,by rw[p4.len,l3,hl],s4,e4⟩
 have ago: ∀ {afh:List Event},afh.length=L0.length→ ∃ (p:Nat) (h:Int),(a≤p∧p<b)∧Ev E 570 [.lit 5 (afh.map Event.v),aD a,aD b,.fn g []] ⟨.tuple [aD p,vi h],[]⟩:=fun h2=>agq hm acJ (by omega) (by omega) (by omega)
 have pR: ∀ {afy:List Event},afG a b L afy→afH c afy a b→ ∀T' O',SS.Sub ⟨[],[(0,⟨0,5,true,false,some (afy.map Event.v)⟩)]⟩ ⟨T',O'⟩→Q .ret ⟨T',O'⟩:=fun h4 s4 T' O' hs=>by
   obtain⟨f1,f2⟩:=ht.done h4 s4
   exact hR _ _ _ f1 f2 hs
 clear ih hR hN
 cases aft with
 | false=>
   obtain⟨afh,p2,hbr⟩:=agB (g:=g) (L0:=L) hab (by omega) (by omega) (by omega)
   rw[hl] at hbr
   have l2:afh.length=L0.length:=p2.len.trans hl
   obtain⟨p,h,hp,hch⟩:=ago l2
   by_cases hh:h=2
   · obtain⟨afx,p3,l3,hrv⟩:=aiA p2
     obtain⟨afu,m,w2,l5,m1,m2,ahd,Xi,⟨afw,l6,afD,n6⟩,⟨afB,l7,afE,n7⟩⟩:=key (b - 1 - (p - a)) (IntKind.i64.wrap (k - 1)) p3 ⟨by omega,by omega⟩
     by_cases hs:m - a<b - m
     · exact agX hm acJ hlen (by omega) h12 hk hp hl l2 l3 l5 hbr hch hh hrv rfl ahd m1 m2 Xi hs l6 afD n6
     · exact agY hm acJ hlen (by omega) h12 hk hp hl l2 l3 l5 hbr hch hh hrv rfl ahd m1 m2 Xi hs l7 afE n7
   · obtain⟨afu,m,w2,l5,m1,m2,ahd,Xi,⟨afw,l6,afD,n6⟩,⟨afB,l7,afE,n7⟩⟩:=key p (IntKind.i64.wrap (k - 1)) p2 hp
     by_cases hs:m - a<b - m
     · exact ahh hm acJ hlen (by omega) h12 hk hp hl l2 l5 hbr hch hh ahd m1 m2 Xi hs l6 afD n6
     · exact ahi hm acJ hlen (by omega) h12 hk hp hl l2 l5 hbr hch hh ahd m1 m2 Xi hs l7 afE n7
 | true=>
   obtain⟨p,h,hp,hch⟩:=ago hl
   by_cases hh:h=2
   · obtain⟨afx,p3,l3,hrv⟩:=aiA (afG.refl (a:=a) (b:=b) (L:=L))
     cases wp with
     | false=>
       obtain⟨afu,m,w2,l5,m1,m2,ahd,Xi,⟨afw,l6,afD,n6⟩,⟨afB,l7,afE,n7⟩⟩:=key (b - 1 - (p - a)) k p3 ⟨by omega,by omega⟩
       by_cases hs:m - a<b - m
       · exact agZ hm acJ hlen (by omega) h12 hk hp hl l3 l5 hch hh hrv rfl ahd m1 m2 Xi hs l6 afD n6
       · exact ag0 hm acJ hlen (by omega) h12 hk hp hl l3 l5 hch hh hrv rfl ahd m1 m2 Xi hs l7 afE n7
     | true=>
       obtain⟨afy,w,p4,l4,s4,hpi⟩:=aiB p3
       cases w with
       | true=>exact aiz hm acJ hlen (by omega) h12 hk hp hl l3 l4 hch hh hrv rfl hpi (pR p4 (s4 rfl))
       | false=>
         obtain⟨afu,m,w2,l5,m1,m2,ahd,Xi,⟨afw,l6,afD,n6⟩,⟨afB,l7,afE,n7⟩⟩:=key (b - 1 - (p - a)) k p4 ⟨by omega,by omega⟩
         by_cases hs:m - a<b - m
         · exact ag3 hm acJ hlen (by omega) h12 hk hp hl l3 l4 l5 hch hh hrv rfl hpi ahd m1 m2 Xi hs l6 afD n6
         · exact ag4 hm acJ hlen (by omega) h12 hk hp hl l3 l4 l5 hch hh hrv rfl hpi ahd m1 m2 Xi hs l7 afE n7
   · cases wp with
     | false=>
       obtain⟨afu,m,w2,l5,m1,m2,ahd,Xi,⟨afw,l6,afD,n6⟩,⟨afB,l7,afE,n7⟩⟩:=key p k (afG.refl (a:=a) (b:=b) (L:=L)) hp
       by_cases hs:m - a<b - m
       · exact ahj hm acJ hlen (by omega) h12 hk hp hl l5 hch hh ahd m1 m2 Xi hs l6 afD n6
       · exact ahk hm acJ hlen (by omega) h12 hk hp hl l5 hch hh ahd m1 m2 Xi hs l7 afE n7
     | true=>
       by_cases hh1:h=1
       · obtain⟨afy,w,p4,l4,s4,hpi⟩:=aiB (afG.refl (a:=a) (b:=b) (L:=L))
         cases w with
         | true=>exact aiy hm acJ hlen (by omega) h12 hk hp hl l4 hch hh hh1 hpi (pR p4 (s4 rfl))
         | false=>
           obtain⟨afu,m,w2,l5,m1,m2,ahd,Xi,⟨afw,l6,afD,n6⟩,⟨afB,l7,afE,n7⟩⟩:=key p k p4 hp
           by_cases hs:m - a<b - m
           · exact ag1 hm acJ hlen (by omega) h12 hk hp hl l4 l5 hch hh hh1 hpi ahd m1 m2 Xi hs l6 afD n6
           · exact ag2 hm acJ hlen (by omega) h12 hk hp hl l4 l5 hch hh hh1 hpi ahd m1 m2 Xi hs l7 afE n7
       · obtain⟨afu,m,w2,l5,m1,m2,ahd,Xi,⟨afw,l6,afD,n6⟩,⟨afB,l7,afE,n7⟩⟩:=key p k (afG.refl (a:=a) (b:=b) (L:=L)) hp
         by_cases hs:m - a<b - m
         · exact ahl hm acJ hlen (by omega) h12 hk hp hl l5 hch hh hh1 ahd m1 m2 Xi hs l6 afD n6
         · exact ahm hm acJ hlen (by omega) h12 hk hp hl l5 hch hh hh1 ahd m1 m2 Xi hs l7 afE n7
theorem ahn {es ng:List V} {n:Nat} {T':List (Nat×V)} {O':List (Nat×Obj)} {R:fL→Prop} (hs:SS.Sub ⟨[],[(0,⟨0,5,true,false,some es⟩)]⟩ ⟨T',O'⟩) (hp:V.an es=true) (hR:R ⟨.tuple [],[(0,es)]⟩) (a b:Nat) (k:Int) (g:Nat):v9 TR.results [.msl 5 ng 0 n,aD a,aD b,vi k,.fn g []] R .ret ⟨T',O'⟩:=by
 have h0:lk O' 0=some ⟨0,5,true,false,some es⟩:=hs.2.lk (by rfl)
 show kH [] _ _ _
 unfold kH xP
 simp only[sG]
 rw[h0]
 exact dI.mk ⟨rfl,rfl,hp⟩ (dI.mk rfl hR)
theorem aho (ho:Ij c) (hm:df E g=[]) (acJ: ∀a b:Event,Ev E g [a.v,b.v] ⟨vi (c a b),[]⟩): ∀ (n:Nat) (L0:List Event) (a b:Nat) (k:Int),b - a=n→a≤b→b≤L0.length→L0.length< 200→Dst c L0→afU c L0 a b→
   ∃L',afG a b L0 L'∧afH c L' a b∧Ev E 558 [.msl 5 (L0.map Event.v) 0 L0.length,aD a,aD b,vi k,.fn g []] ⟨.tuple [],[(0,L'.map Event.v)]⟩:=by
 intro n
 induction n using Nat.strongRecOn with
 | ind n ih=>
   intro L0 a b k hn hab hb hlen hd ha
   have key:=Ev.cO (R:=fun r=> ∃L':List Event,afG a b L0 L'∧afH c L' a b∧r=⟨.tuple [],[(0,L'.map Event.v)]⟩) ah9 (aia [.msl 5 (L0.map Event.v) 0 L0.length,aD a,aD b,vi k,.fn g []]) rfl ?_
   · obtain⟨res,h1,l',h2,h3,rfl⟩:=key
     exact⟨l',h2,h3,h1⟩
   (conv=>whnf);repeat' ((first| intro g| refine st ?_| (first| refine b1 ?_ ?_| refine b2 ?_ ?_| refine Br.mk ?_ ?_) <;>intro hc| exact rfl) <;>conv=>whnf)
   refine aV.by (fun ((a,b,k,aft,wp,L):Nat×Nat×Int×Bool×Bool×List Event)=>pdS L0.length a b k aft wp L g)
     (fun p=>afO c a b L0 p.1 p.2.1 p.2.2.2.2.2) (fun p=>p.2.1 - p.1) (a,b,k,true,true,L0) (by unfold pdS; (refine⟨?_,?_⟩ <;>repeat' (first| exact True.intro| refine ai ?_| refine And.intro ?_ ?_))) (afO.start hab ha) ?_
   rintro⟨a1,b1,k1,aft,wp,L⟩ ht
   dsimp only at ht ⊢
   have h1:=ht.h1;have h2:=ht.h2;have h3:=ht.h3
   refine agC ho hm acJ hd hb hlen ht aft wp (fun afg x y k hxy hx hy hl G3 IY=>ih (y - x) (by omega) afg x y k rfl hx hy hl G3 IY) ?_ ?_
   · intro L' T' O' p1 s1 hs
     exact ahn (R:=fun r=> ∃L':List Event,afG a b L0 L'∧afH c L' a b∧r=⟨.tuple [],[(0,L'.map Event.v)]⟩) hs (Event.bZ _) ⟨L',p1,s1,rfl⟩ a b k g
   · intro a' b' k' aft wp L' T' O' t' KE hs
     exact a9.mk (a',b',k',aft,wp,L') KE t' hs
end
theorem ag5: ∀n,n< 200→ ∃k:Int,Ev E 40 [.int .u64 (n:Nat)] ⟨vi k,[]⟩:=by
 have key: (List.range 200).all (fun n=>match call E 100 40 [.int .u64 (n:Nat)] with
   | some ⟨.int .i64 k,[]⟩=>true
   | _=>false)=true:=by kernel_rfl
 intro n hn
 have h:=List.all_eq_true.1 key n (by simpa using hn)
 split at h
 · rename_i k hk
   exact⟨k,⟨100,hk⟩⟩
 · simp at h
theorem agb {c:Event→Event→Int} {g:Nat} {l:List Event} (ho:Ij c) (hm:df E g=[]) (acJ: ∀a b:Event,Ev E g [a.v,b.v] ⟨vi (c a b),[]⟩) (hd:Dst c l) (hlen:l.length< 200):
  ∃l':List Event,l'.Perm l∧l'.Pairwise (gS c)∧Ev E 544 [.msl 5 (l.map Event.v) 0 l.length,.fn g []] ⟨.tuple [],[(0,l'.map Event.v)]⟩:=by
 obtain⟨k,hb⟩:=ag5 l.length hlen
 obtain⟨l',h1,h2,h3⟩:=aho ho hm acJ l.length l 0 l.length k rfl (Nat.zero_le _) (Nat.le_refl _) hlen hd (fun h=>absurd h (by decide))
 have hl:=h1.len
 refine⟨l',h1.perm,afH.all (by rw[hl];exact h2),?_⟩
 have hw:IntKind.u64.wrap (l.length:Int)=l.length:=by
  simp[IntKind.wrap,IntKind.bits,IntKind.signed];omega
 have rC:Ev E 40 [.int .u64 (IntKind.u64.wrap (l.length:Int))] ⟨vi k,[]⟩:=by rw[hw];exact hb
 refine Ev.aG ah7 (ah8 _) rfl ?_
 (conv=>whnf);repeat' ((first| intro g| refine dI.mk (⟨rfl,rfl,rfl,by simp,Event.bZ _⟩) ?_| refine dI.mk (⟨rfl,rfl,Event.bZ _⟩) ?_| refine ag.mk _ (rC) ?_| refine ag.mk _ (h3) ?_| refine st ?_| (first| refine b1 ?_ ?_| refine b2 ?_ ?_| refine Br.mk ?_ ?_) <;>intro hc| exact rfl) <;>conv=>whnf)
end Go.AM
