/-
  Texts of the proof: LbS.
-/
import Derived.Test.YtjkmpppkkhbjkaaGreatMb
import Derived.Test.YtjkmpppkkhbjkaaGreatLy
import Derived.Test.YtjkmpppkkhbjkaaGreatTj
set_option maxRecDepth 20000
set_option linter.unusedSimpArgs false
set_option linter.unusedVariables false
set_option maxHeartbeats 4000000
namespace Go.AM
structure Rnd (n:Int) (mv hv:V) where
 L:List dq
 ids:List Int
 NI:Ev E 596 [mv,hv] ⟨.own 6 (L.map dq.v),[]⟩
 ES:Ev E 597 [mv,hv] ⟨.own 6 (L.map dq.v),[]⟩
 same:Ev E 598 [.lit 6 (L.map dq.v),.lit 6 (L.map dq.v)] ⟨.bool true,[]⟩
 ord:Ev E 600 [mv] ⟨.own 1 (ids.map vi),[]⟩
 xl:Ev E 601 [mv] ⟨.own 1 (ids.map vi),[]⟩
 NJ:Ev E 599 [.lit 1 (ids.map vi),.lit 1 (ids.map vi)] ⟨.bool true,[]⟩
 sh: ∀q:Int,q< 9223372036854775808→Ev E 602 [.lit 6 (L.map dq.v),vi q] ⟨.own 1 ((eD L q).map vi),[]⟩
 sY: ∀q:Int,Ev E 603 [.lit 6 (L.map dq.v),vi q] ⟨.own 1 ((eD L q).map vi),[]⟩
 sZ: ∀q:Int,Ev E 599 [.lit 1 ((eD L q).map vi),.lit 1 ((eD L q).map vi)] ⟨.bool true,[]⟩
theorem rnd {n:Int} {m:bk} (hm:m.au.length≤6) {l:List bI} (hl:l.length< 4000) (oU: ∀h ∈ l,h.fg.length< 1000000):Nonempty (Rnd n m.v (.lit 2 (l.map bI.v))):=by
 have hq:=jA m.au
 have hLl: (fK l (cU m.au)).length< 1000:=by rw[rM];omega
 have ht:=Fw l (cU m.au)
 exact⟨⟨fK l (cU m.au),(cU m.au).map Place.id,HE (by omega) hl oU,Eu (by omega) (by omega) oU,Hp (by omega),HF (by omega),B6 (by omega),
  Ld (by simp;omega),fun q hq=>HH (by omega) ht hq,fun q=>B5 (by omega) ht q,fun q=>Ld (by have:=o8 (fK l (cU m.au)) q;omega)⟩⟩
theorem Yq {ls:List (List Int)} (hs:r5 ls) (r:Raw) (hp:r.ps.length< 9223372036854775808) (hh:r.hs.length< 9223372036854775808) {n:Int} (n0: -9223372036854775808≤n) (n1:n< 9223372036854775808):Ev E 586 [fa ls,r.v,vi n] ⟨.bool true,[]⟩:=by
 have YC:=DL
 obtain⟨m0,Ie,hm6,H8⟩:=I3 hs (decide (n.tmod 2=0))
 obtain⟨ps,vG,YD⟩:=M4 r.ps hp
 obtain⟨l1,YL,YE,mm⟩:=ER Ie
 obtain⟨l2,Bg,YF,YG⟩:=HJ r.hs hh
 obtain⟨s,Nh⟩:=HI r
 have MJ:=Hq s
 have ph:=Ap s
 obtain⟨Zh,rhs⟩:=r
 have Li: ∀h ∈ l1,h.fg.length< 1000000:=fun h hx=>by have:=YE h hx;omega
 have H9: ∀h ∈ l2,h.fg.length< 1000000:=fun h hx=>by have:=YF h hx;omega
 obtain⟨R0⟩:=rnd (n:=n) hm6 YL Li
 obtain⟨R1⟩:=rnd (n:=n) (m:=⟨[],[],[],ps⟩) vG (l:=l2) (by omega) H9
 obtain⟨R2⟩:=rnd (n:=n) hm6 (l:=l2) (by omega) H9
 obtain⟨es,fs,ws,pp⟩:=m0
 have Bt:n.tmod 10000 < 9223372036854775808:=by have:=Int.tmod_lt_of_pos n (show (0:Int) < 10000 by omega);omega
 have Gw:n.tmod 40 < 9223372036854775808:=by have:=Int.tmod_lt_of_pos n (show (0:Int) < 40 by omega);omega
 refine Ev.aT Ud (Ue _) rfl ?_
 unfold bk.vo at H8
 (conv=>whnf);repeat' ((first| intro g| refine ah.mk _ (YC) ?_| refine ah.mk _ (H8) ?_| refine ah.mk _ (YD) ?_| refine ah.mk _ (mm) ?_| refine ah.mk _ (YG) ?_| refine st ?_| (first| refine b1 ?_ ?_| refine b2 ?_ ?_| refine Br.mk ?_ ?_) <;>intro hc| exact rfl) <;>conv=>whnf)
 rename_i Bv fi zd xJ
 obtain⟨xK,hg⟩: ∃x,x=g:=⟨_,rfl⟩
 rw[←hg];clear hg g
 clear Ie mm YG YD H8 YC YE YF Li H9 hs hp hh
 refine aI.by (fun i:Nat=> ⟨[(2,vi n),(4,.ptr 80 Bv 0 0),(7,.bool true),(10,.ptr 176 xJ 0 0),(11,.ptr 192 xK 0 0),(12,aC i)],[(80,⟨Bv,2,false,false,some [Raw.v ⟨Zh,rhs⟩]⟩),(176,⟨xJ,12,false,false,some [.agg [.lit 4 (es.map Edge.v),.lit 5 (fs.map bu.v),.lit 8 (ws.map Way.v),.lit 7 (pp.map Place.v),.lit 4 [],.lit 5 [],.lit 8 [],.lit 7 (ps.map Place.v),.lit 4 (es.map Edge.v),.lit 5 (fs.map bu.v),.lit 8 (ws.map Way.v),.lit 7 (pp.map Place.v)]]⟩),(192,⟨xK,3,false,false,some [.agg [.lit 2 (l1.map bI.v),.lit 2 (l2.map bI.v),.lit 2 (l2.map bI.v)]]⟩)]⟩) (fun i=>i≤3) (fun i=>3 - i) 0 (by(refine⟨?_,?_⟩ <;>repeat' (first| exact True.intro| refine ai ?_| refine And.intro ?_ ?_))) (by omega) ?_
 rintro i hi
 rcases(by omega:i=0∨i=1∨i=2∨i=3) with rfl| rfl| rfl| rfl
 · obtain⟨L,ids,NI,ES,same,ord,xl,NJ,sh,sY,sZ⟩:=R0
   clear R1 R2
   (conv=>whnf);repeat' ((first| intro g| refine ah.mk _ (NI) ?_| refine ah.mk _ (ES) ?_| refine ah.mk _ (same) ?_| refine ah.mk _ (ord) ?_| refine ah.mk _ (xl) ?_| refine ah.mk _ (NJ) ?_| refine st ?_| (first| refine b1 ?_ ?_| refine b2 ?_ ?_| refine Br.mk ?_ ?_) <;>intro hc| exact rfl) <;>conv=>whnf)
   obtain⟨AO,hg⟩: ∃x,x=g:=⟨_,rfl⟩
   rw[←hg];clear hg g
   refine aI.by (fun j:Nat=> ⟨[(2,vi n),(4,.ptr 80 Bv 0 0),(7,.bool true),(10,.ptr 176 xJ 0 0),(11,.ptr 192 xK 0 0),(12,aC 0),(14,.lit 6 (L.map dq.v)),(15,.ptr 256 AO 0 0),(16,aC j)],[(80,⟨Bv,2,false,false,some [Raw.v ⟨Zh,rhs⟩]⟩),(176,⟨xJ,12,false,false,some [.agg [.lit 4 (es.map Edge.v),.lit 5 (fs.map bu.v),.lit 8 (ws.map Way.v),.lit 7 (pp.map Place.v),.lit 4 [],.lit 5 [],.lit 8 [],.lit 7 (ps.map Place.v),.lit 4 (es.map Edge.v),.lit 5 (fs.map bu.v),.lit 8 (ws.map Way.v),.lit 7 (pp.map Place.v)]]⟩),(192,⟨xK,3,false,false,some [.agg [.lit 2 (l1.map bI.v),.lit 2 (l2.map bI.v),.lit 2 (l2.map bI.v)]]⟩),(256,⟨AO,3,false,false,some [.agg [vi n,vi (n.tmod 10000),vi (n.tmod 40)]]⟩)]⟩) (fun j=>j≤3) (fun j=>3 - j) 0 (by(refine⟨?_,?_⟩ <;>repeat' (first| exact True.intro| refine ai ?_| refine And.intro ?_ ?_))) (by omega) ?_
   rintro j hj
   rcases(by omega:j=0∨j=1∨j=2∨j=3) with rfl| rfl| rfl| rfl
   · have h1:=sh n n1
     have h2:=sY n
     have h3:=sZ n
     (conv=>whnf);repeat' ((first| intro g| refine ah.mk _ (h1) ?_| refine ah.mk _ (h2) ?_| refine ah.mk _ (h3) ?_| refine st ?_| (first| refine b1 ?_ ?_| refine b2 ?_ ?_| refine Br.mk ?_ ?_) <;>intro hc| exact rfl) <;>conv=>whnf)
     exact aE.mk 1 (by decide) (by decide) (by(refine⟨?_,?_⟩ <;>repeat' (first| exact True.intro| refine ai ?_| refine And.intro ?_ ?_)))
   · have h1:=sh (n.tmod 10000) Bt
     have h2:=sY (n.tmod 10000)
     have h3:=sZ (n.tmod 10000)
     (conv=>whnf);repeat' ((first| intro g| refine ah.mk _ (h1) ?_| refine ah.mk _ (h2) ?_| refine ah.mk _ (h3) ?_| refine st ?_| (first| refine b1 ?_ ?_| refine b2 ?_ ?_| refine Br.mk ?_ ?_) <;>intro hc| exact rfl) <;>conv=>whnf)
     exact aE.mk 2 (by decide) (by decide) (by(refine⟨?_,?_⟩ <;>repeat' (first| exact True.intro| refine ai ?_| refine And.intro ?_ ?_)))
   · have h1:=sh (n.tmod 40) Gw
     have h2:=sY (n.tmod 40)
     have h3:=sZ (n.tmod 40)
     (conv=>whnf);repeat' ((first| intro g| refine ah.mk _ (h1) ?_| refine ah.mk _ (h2) ?_| refine ah.mk _ (h3) ?_| refine st ?_| (first| refine b1 ?_ ?_| refine b2 ?_ ?_| refine Br.mk ?_ ?_) <;>intro hc| exact rfl) <;>conv=>whnf)
     exact aE.mk 3 (by decide) (by decide) (by(refine⟨?_,?_⟩ <;>repeat' (first| exact True.intro| refine ai ?_| refine And.intro ?_ ?_)))
   · (conv=>whnf);repeat' ((first| intro g| refine st ?_| (first| refine b1 ?_ ?_| refine b2 ?_ ?_| refine Br.mk ?_ ?_) <;>intro hc| exact rfl) <;>conv=>whnf)
     exact aE.mk 1 (by decide) (by decide) (by(refine⟨?_,?_⟩ <;>repeat' (first| exact True.intro| refine ai ?_| refine And.intro ?_ ?_)))
 · obtain⟨L,ids,NI,ES,same,ord,xl,NJ,sh,sY,sZ⟩:=R1
   clear R0 R2
   (conv=>whnf);repeat' ((first| intro g| refine ah.mk _ (NI) ?_| refine ah.mk _ (ES) ?_| refine ah.mk _ (same) ?_| refine ah.mk _ (ord) ?_| refine ah.mk _ (xl) ?_| refine ah.mk _ (NJ) ?_| refine st ?_| (first| refine b1 ?_ ?_| refine b2 ?_ ?_| refine Br.mk ?_ ?_) <;>intro hc| exact rfl) <;>conv=>whnf)
   obtain⟨AO,hg⟩: ∃x,x=g:=⟨_,rfl⟩
   rw[←hg];clear hg g
   refine aI.by (fun j:Nat=> ⟨[(2,vi n),(4,.ptr 80 Bv 0 0),(7,.bool true),(10,.ptr 176 xJ 0 0),(11,.ptr 192 xK 0 0),(12,aC 1),(14,.lit 6 (L.map dq.v)),(15,.ptr 256 AO 0 0),(16,aC j)],[(80,⟨Bv,2,false,false,some [Raw.v ⟨Zh,rhs⟩]⟩),(176,⟨xJ,12,false,false,some [.agg [.lit 4 (es.map Edge.v),.lit 5 (fs.map bu.v),.lit 8 (ws.map Way.v),.lit 7 (pp.map Place.v),.lit 4 [],.lit 5 [],.lit 8 [],.lit 7 (ps.map Place.v),.lit 4 (es.map Edge.v),.lit 5 (fs.map bu.v),.lit 8 (ws.map Way.v),.lit 7 (pp.map Place.v)]]⟩),(192,⟨xK,3,false,false,some [.agg [.lit 2 (l1.map bI.v),.lit 2 (l2.map bI.v),.lit 2 (l2.map bI.v)]]⟩),(256,⟨AO,3,false,false,some [.agg [vi n,vi (n.tmod 10000),vi (n.tmod 40)]]⟩)]⟩) (fun j=>j≤3) (fun j=>3 - j) 0 (by(refine⟨?_,?_⟩ <;>repeat' (first| exact True.intro| refine ai ?_| refine And.intro ?_ ?_))) (by omega) ?_
   rintro j hj
   rcases(by omega:j=0∨j=1∨j=2∨j=3) with rfl| rfl| rfl| rfl
   · have h1:=sh n n1
     have h2:=sY n
     have h3:=sZ n
     (conv=>whnf);repeat' ((first| intro g| refine ah.mk _ (h1) ?_| refine ah.mk _ (h2) ?_| refine ah.mk _ (h3) ?_| refine st ?_| (first| refine b1 ?_ ?_| refine b2 ?_ ?_| refine Br.mk ?_ ?_) <;>intro hc| exact rfl) <;>conv=>whnf)
     exact aE.mk 1 (by decide) (by decide) (by(refine⟨?_,?_⟩ <;>repeat' (first| exact True.intro| refine ai ?_| refine And.intro ?_ ?_)))
   · have h1:=sh (n.tmod 10000) Bt
     have h2:=sY (n.tmod 10000)
     have h3:=sZ (n.tmod 10000)
     (conv=>whnf);repeat' ((first| intro g| refine ah.mk _ (h1) ?_| refine ah.mk _ (h2) ?_| refine ah.mk _ (h3) ?_| refine st ?_| (first| refine b1 ?_ ?_| refine b2 ?_ ?_| refine Br.mk ?_ ?_) <;>intro hc| exact rfl) <;>conv=>whnf)
     exact aE.mk 2 (by decide) (by decide) (by(refine⟨?_,?_⟩ <;>repeat' (first| exact True.intro| refine ai ?_| refine And.intro ?_ ?_)))
   · have h1:=sh (n.tmod 40) Gw
     have h2:=sY (n.tmod 40)
     have h3:=sZ (n.tmod 40)
     (conv=>whnf);repeat' ((first| intro g| refine ah.mk _ (h1) ?_| refine ah.mk _ (h2) ?_| refine ah.mk _ (h3) ?_| refine st ?_| (first| refine b1 ?_ ?_| refine b2 ?_ ?_| refine Br.mk ?_ ?_) <;>intro hc| exact rfl) <;>conv=>whnf)
     exact aE.mk 3 (by decide) (by decide) (by(refine⟨?_,?_⟩ <;>repeat' (first| exact True.intro| refine ai ?_| refine And.intro ?_ ?_)))
   · (conv=>whnf);repeat' ((first| intro g| refine st ?_| (first| refine b1 ?_ ?_| refine b2 ?_ ?_| refine Br.mk ?_ ?_) <;>intro hc| exact rfl) <;>conv=>whnf)
     exact aE.mk 2 (by decide) (by decide) (by(refine⟨?_,?_⟩ <;>repeat' (first| exact True.intro| refine ai ?_| refine And.intro ?_ ?_)))
 · obtain⟨L,ids,NI,ES,same,ord,xl,NJ,sh,sY,sZ⟩:=R2
   clear R0 R1
   (conv=>whnf);repeat' ((first| intro g| refine ah.mk _ (NI) ?_| refine ah.mk _ (ES) ?_| refine ah.mk _ (same) ?_| refine ah.mk _ (ord) ?_| refine ah.mk _ (xl) ?_| refine ah.mk _ (NJ) ?_| refine st ?_| (first| refine b1 ?_ ?_| refine b2 ?_ ?_| refine Br.mk ?_ ?_) <;>intro hc| exact rfl) <;>conv=>whnf)
   obtain⟨AO,hg⟩: ∃x,x=g:=⟨_,rfl⟩
   rw[←hg];clear hg g
   refine aI.by (fun j:Nat=> ⟨[(2,vi n),(4,.ptr 80 Bv 0 0),(7,.bool true),(10,.ptr 176 xJ 0 0),(11,.ptr 192 xK 0 0),(12,aC 2),(14,.lit 6 (L.map dq.v)),(15,.ptr 256 AO 0 0),(16,aC j)],[(80,⟨Bv,2,false,false,some [Raw.v ⟨Zh,rhs⟩]⟩),(176,⟨xJ,12,false,false,some [.agg [.lit 4 (es.map Edge.v),.lit 5 (fs.map bu.v),.lit 8 (ws.map Way.v),.lit 7 (pp.map Place.v),.lit 4 [],.lit 5 [],.lit 8 [],.lit 7 (ps.map Place.v),.lit 4 (es.map Edge.v),.lit 5 (fs.map bu.v),.lit 8 (ws.map Way.v),.lit 7 (pp.map Place.v)]]⟩),(192,⟨xK,3,false,false,some [.agg [.lit 2 (l1.map bI.v),.lit 2 (l2.map bI.v),.lit 2 (l2.map bI.v)]]⟩),(256,⟨AO,3,false,false,some [.agg [vi n,vi (n.tmod 10000),vi (n.tmod 40)]]⟩)]⟩) (fun j=>j≤3) (fun j=>3 - j) 0 (by(refine⟨?_,?_⟩ <;>repeat' (first| exact True.intro| refine ai ?_| refine And.intro ?_ ?_))) (by omega) ?_
   rintro j hj
   rcases(by omega:j=0∨j=1∨j=2∨j=3) with rfl| rfl| rfl| rfl
   · have h1:=sh n n1
     have h2:=sY n
     have h3:=sZ n
     (conv=>whnf);repeat' ((first| intro g| refine ah.mk _ (h1) ?_| refine ah.mk _ (h2) ?_| refine ah.mk _ (h3) ?_| refine st ?_| (first| refine b1 ?_ ?_| refine b2 ?_ ?_| refine Br.mk ?_ ?_) <;>intro hc| exact rfl) <;>conv=>whnf)
     exact aE.mk 1 (by decide) (by decide) (by(refine⟨?_,?_⟩ <;>repeat' (first| exact True.intro| refine ai ?_| refine And.intro ?_ ?_)))
   · have h1:=sh (n.tmod 10000) Bt
     have h2:=sY (n.tmod 10000)
     have h3:=sZ (n.tmod 10000)
     (conv=>whnf);repeat' ((first| intro g| refine ah.mk _ (h1) ?_| refine ah.mk _ (h2) ?_| refine ah.mk _ (h3) ?_| refine st ?_| (first| refine b1 ?_ ?_| refine b2 ?_ ?_| refine Br.mk ?_ ?_) <;>intro hc| exact rfl) <;>conv=>whnf)
     exact aE.mk 2 (by decide) (by decide) (by(refine⟨?_,?_⟩ <;>repeat' (first| exact True.intro| refine ai ?_| refine And.intro ?_ ?_)))
   · have h1:=sh (n.tmod 40) Gw
     have h2:=sY (n.tmod 40)
     have h3:=sZ (n.tmod 40)
     (conv=>whnf);repeat' ((first| intro g| refine ah.mk _ (h1) ?_| refine ah.mk _ (h2) ?_| refine ah.mk _ (h3) ?_| refine st ?_| (first| refine b1 ?_ ?_| refine b2 ?_ ?_| refine Br.mk ?_ ?_) <;>intro hc| exact rfl) <;>conv=>whnf)
     exact aE.mk 3 (by decide) (by decide) (by(refine⟨?_,?_⟩ <;>repeat' (first| exact True.intro| refine ai ?_| refine And.intro ?_ ?_)))
   · (conv=>whnf);repeat' ((first| intro g| refine st ?_| (first| refine b1 ?_ ?_| refine b2 ?_ ?_| refine Br.mk ?_ ?_) <;>intro hc| exact rfl) <;>conv=>whnf)
     exact aE.mk 3 (by decide) (by decide) (by(refine⟨?_,?_⟩ <;>repeat' (first| exact True.intro| refine ai ?_| refine And.intro ?_ ?_)))
 · (conv=>whnf);repeat' ((first| intro g| refine ah.mk _ (Nh) ?_| refine ah.mk _ (MJ) ?_| refine ah.mk _ (ph) ?_| refine st ?_| (first| refine b1 ?_ ?_| refine b2 ?_ ?_| refine Br.mk ?_ ?_) <;>intro hc| exact rfl) <;>conv=>whnf)
   all_goals simp
end Go.AM
