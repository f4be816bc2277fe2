/-
  Texts of the proof, joined by program: DaL, DaM. Own work.
-/
import Derived.Test.YtkdfnbahehdhmaaGreatMb
import Derived.Test.YtkdfnbahehdhmaaGreatXd
import Derived.Test.YtkdfnbahehdhmaaGreatSc
import Derived.Test.YtkdfnbahehdhmaaGreatMe
set_option linter.unusedSimpArgs false
set_option linter.unusedVariables false
set_option maxRecDepth 20000
set_option maxHeartbeats 4000000
namespace Go.AM
structure UH (m:cJ):Prop where
 fit:m.Fit
 e:m.aY.length< 1000
 l: ∀e ∈ m.aY,e.line.length< 1000
 ids: ∀ (i:Nat) (e:Edge),m.aY[i]? =some e→e.id=(i:Int)+1
 ne: ∀e ∈ m.aY,e.left≠e.right
 sm: ∀e ∈ m.aY,∀p ∈ e.line,zE p
theorem Md {m:cJ} (h:UH m) {p:Pt} (hp:p ∈ oL m.aY m.aY.length): ∃q:gB m,p=⟨q.e.id,(q.n:Int)⟩∧q.e.left≠q.e.right∧zE q.a∧zE q.b∧zE q.c:=by
 obtain⟨i,j,e,he,hj,rfl⟩:=vL hp
 have hm:=List.mem_of_getElem? he
 have g0:e.line[j]? =some e.line[j]:=bu (by omega)
 have g1:e.line[j+1]? =some e.line[j+1]:=bu (by omega)
 have g2:e.line[j+2]? =some e.line[j+2]:=bu hj
 have:=h.e
 have:=h.l e hm
 exact⟨⟨i,j+1,e,_,_,_,he,D5 h.ids he,by omega,g0,g1,g2,by omega,by omega⟩,rfl,h.ne e hm,h.sm e hm _ (List.mem_of_getElem? g0),h.sm e hm _ (List.mem_of_getElem? g1),h.sm e hm _ (List.mem_of_getElem? g2)⟩
theorem xE (es:List Edge) (hl: ∀e ∈ es,e.line.length< 1000): ∀k,(oL es k).length≤1000*k
 | 0=>by simp[oL]
 | k+1=>by
   have:=xE es hl k
   simp only[oL]
   split
   · rename_i e he
     have:=hl e (List.mem_of_getElem? he)
     simp[xF];omega
   · omega
theorem BP {ls:List (List Int)} {m:cJ} (hm:UH m) (n:Nat) (hn:n< 256) (h:Ev E 522 [dI ls] ⟨m.v,[]⟩):Ev E 520 [dI ls,.int .u8 n] ⟨.bool true,[]⟩:=by
 have Gz:=zF hm.e hm.l
 have HL:=fun p hp=>Md hm (p:=p) hp
 have TP:=xE m.aY hm.l m.aY.length
 have hme:=hm.e
 generalize oL m.aY m.aY.length=L at*
 refine Ev.bY Nu (Nv _) rfl ?_
 by_cases hL:L=[]
 · subst hL
   (conv=>whnf);repeat' ((first| intro g| refine ak.mk _ (sB) ?_| refine ak.mk _ (h) ?_| refine ak.mk _ (Gz) ?_| refine st ?_| (first| refine b1 ?_ ?_| refine b2 ?_ ?_| refine Br.mk ?_ ?_) <;>intro hc| exact rfl) <;>conv=>whnf)
 have YB:0 <L.length:=List.length_pos_iff.2 hL
 have MP:IntKind.i64.wrap (n:Int)=(n:Int):=wrap64 (by omega) (by omega)
 have hr: (IntKind.i64.wrap (n:Int)).tmod ((L.map Pt.v).length:Int)=((n % L.length:Nat):Int):=by
   rw[MP,List.length_map]
   rfl
 have Gj:0≤(IntKind.i64.wrap (n:Int)).tmod ((L.map Pt.v).length:Int):=by rw[hr];omega
 have YC:=Nat.mod_lt n YB
 obtain⟨p,hp⟩: ∃p,L[n % L.length]? =some p:=⟨_,bu YC⟩
 obtain⟨q,rfl,yH,ha,hb,hc⟩:=HL p (List.mem_of_getElem? hp)
 obtain⟨r,xG⟩:=GA hm.fit q
 by_cases MB:r=0
 case neg=>
   have BE:=D6 q MB xG
   (conv=>whnf);repeat' ((first| intro g| refine ep.mk (⟨Gj,rfl⟩) ?_| refine bd.mk _ (aJ hp hr) ?_| refine ak.mk _ (sB) ?_| refine ak.mk _ (h) ?_| refine ak.mk _ (Gz) ?_| refine ak.mk _ (BE) ?_| refine st ?_| (first| refine b1 ?_ ?_| refine b2 ?_ ?_| refine Br.mk ?_ ?_) <;>intro hc| exact rfl) <;>conv=>whnf)
 subst MB
 have BE:=D7 hm.fit q xG
 (conv=>whnf);repeat' ((first| intro g| refine ep.mk (⟨Gj,rfl⟩) ?_| refine bd.mk _ (aJ hp hr) ?_| refine ak.mk _ (sB) ?_| refine ak.mk _ (h) ?_| refine ak.mk _ (Gz) ?_| refine ak.mk _ (BE) ?_| refine st ?_| (first| refine b1 ?_ ?_| refine b2 ?_ ?_| refine Br.mk ?_ ?_) <;>intro hc| exact rfl) <;>conv=>whnf)
 rename_i lD qJ
 have bp:q.es.length< 1000:=by unfold gB.es;simpa using hme
 have oV: ∀e ∈ q.es,e.line.length< 1000000:=by
   intro e he
   unfold gB.es at he
   rcases List.mem_or_eq_of_mem_set he with he| rfl
   · have:=hm.l e he;omega
   · have:=hm.l q.e (List.mem_of_getElem? q.he)
     dsimp only[gB.rest]
     simp[List.length_eraseIdx];split<;>omega
 have a1:=fun f=>xH (es:=q.es) (by omega) oV f
 have a2:=fun f=>xH (es:=m.aY) (by omega) hm.fit.el f
 have D8:=GB hm.fit q
 obtain⟨s8,s9⟩:=D9 q yH ha hb hc
 have Me:=BQ q yH
 have Mf:=hm.ids
 have Hp:=q.he
 have aaf:=Mf _ _ Hp
 have vR:=hm.fit.f
 clear BE xG HL TP Gz h hp YC hr Gj MP YB hL
 refine a9.by (fun (i:Nat)=> ⟨[(5,.bool true),(6,.ptr 112 lD 0 0),(8,.ptr 144 qJ 0 0),(9,.ptr 160 g 0 0),(11,vi (if q.k<i then q.e.left else 0)),(12,vi (if q.k<i then q.e.right else 0)),(51,.lit 4 (m.aY.map Edge.v)),(52,aM (m.aY.map Edge.v).length),(53,aM i)],
     [(112,⟨lD,4,false,false,some [m.v]⟩),(144,⟨qJ,2,false,false,some [.agg [vi q.e.id,aM q.n]]⟩),(160,⟨g,4,false,false,some [(cJ.mk q.es m.de m.ways m.eH).v]⟩)]⟩) (fun i=>i≤m.aY.length) (fun i=>m.aY.length - i) 0 (by(refine⟨?_,?_⟩ <;>repeat' (first| exact True.intro| refine ai ?_| refine And.intro ?_ ?_))) (by simp) ?_
 rintro i hi
 by_cases bJ:i<m.aY.length
 · obtain⟨e,he⟩: ∃e,m.aY[i]? =some e:=⟨_,bu bJ⟩
   have hei:=Mf i e he
   by_cases hk:i=q.k
   · have hee:e=q.e:=by rw[hk,Hp] at he;exact(Option.some.inj he).symm
     subst hee
     rw[if_neg (by omega),if_neg (by omega)]
     (conv=>whnf);repeat' ((first| intro g| refine bd.mk _ (aJ he rfl) ?_| refine st ?_| (first| refine b1 ?_ ?_| refine b2 ?_ ?_| refine Br.mk ?_ ?_) <;>intro hc| exact rfl) <;>conv=>whnf)
     refine br.mk (i+1) (by first| omega| (dsimp only;omega)) (by omega) ?_
     rw[if_pos (by omega),if_pos (by omega)]
     (refine⟨?_,?_⟩ <;>repeat' (first| exact True.intro| refine ai ?_| refine And.intro ?_ ?_))
   · have ef: ¬e.id=q.e.id:=by omega
     have e1: (if q.k<i then q.e.left else 0)=(if q.k<i+1 then q.e.left else 0):=by
      by_cases h:q.k<i
      · rw[if_pos h,if_pos (by omega)]
      · rw[if_neg h,if_neg (by omega)]
     have e2: (if q.k<i then q.e.right else 0)=(if q.k<i+1 then q.e.right else 0):=by
      by_cases h:q.k<i
      · rw[if_pos h,if_pos (by omega)]
      · rw[if_neg h,if_neg (by omega)]
     rw[e1,e2]
     generalize De: (if q.k<i+1 then q.e.left else 0)=lf
     generalize BH: (if q.k<i+1 then q.e.right else 0)=rt
     (conv=>whnf);repeat' ((first| intro g| refine bd.mk _ (aJ he rfl) ?_| refine st ?_| (first| refine b1 ?_ ?_| refine b2 ?_ ?_| refine Br.mk ?_ ?_) <;>intro hc| exact rfl) <;>conv=>whnf)
     refine br.mk (i+1) (by first| omega| (dsimp only;omega)) (by omega) ?_
     rw[De,BH]
     (refine⟨?_,?_⟩ <;>repeat' (first| exact True.intro| refine ai ?_| refine And.intro ?_ ?_))
 obtain rfl:i=m.aY.length:=by omega
 have Xh:=(List.getElem?_eq_some_iff.1 Hp).1
 rw[if_pos Xh,if_pos Xh]
 clear Mf hi bJ
 (conv=>whnf);repeat' ((first| intro g| refine ak.mk _ (a1 _) ?_| refine ak.mk _ (a2 _) ?_| refine st ?_| (first| refine b1 ?_ ?_| refine b2 ?_ ?_| refine Br.mk ?_ ?_) <;>intro hc| exact rfl) <;>conv=>whnf)
 refine a9.by (fun (i:Nat)=> ⟨[(5,.bool true),(6,.ptr 112 lD 0 0),(8,.ptr 144 qJ 0 0),(9,.ptr 160 g 0 0),(11,vi q.e.left),(12,vi q.e.right),(15,vi q.change),(77,.lit 5 (m.de.map df.v)),(78,aM (m.de.map df.v).length),(79,aM i)],
     [(112,⟨lD,4,false,false,some [m.v]⟩),(144,⟨qJ,2,false,false,some [.agg [vi q.e.id,aM q.n]]⟩),(160,⟨g,4,false,false,some [(cJ.mk q.es m.de m.ways m.eH).v]⟩)]⟩) (fun i=>i≤m.de.length) (fun i=>m.de.length - i) 0 (by(refine⟨?_,?_⟩ <;>repeat' (first| exact True.intro| refine ai ?_| refine And.intro ?_ ?_))) (by simp) ?_
 rintro i hi
 by_cases bJ:i<m.de.length
 · obtain⟨f,hf⟩: ∃e,m.de[i]? =some e:=⟨_,bu bJ⟩
   have hw:=Me f.id
   unfold gB.want at hw
   generalize q.change=ch at*
   by_cases h1:f.id=q.e.left
   · rw[if_pos h1] at hw
     (conv=>whnf);repeat' ((first| contradiction| intro g| refine bd.mk _ (aJ hf rfl) ?_| refine ak.mk _ (a1 _) ?_| refine ak.mk _ (a2 _) ?_| refine st ?_| (first| refine b1 ?_ ?_| refine b2 ?_ ?_| refine Br.mk ?_ ?_) <;>intro hc| exact rfl) <;>conv=>whnf)
     all_goals first| exact br.mk (i+1) (by first| omega| (dsimp only;omega)) (by omega) (by(refine⟨?_,?_⟩ <;>repeat' (first| exact True.intro| refine ai ?_| refine And.intro ?_ ?_))) | exact absurd hw hc
   rw[if_neg h1] at hw
   by_cases h2:f.id=q.e.right
   · rw[if_pos h2] at hw
     (conv=>whnf);repeat' ((first| contradiction| intro g| refine bd.mk _ (aJ hf rfl) ?_| refine ak.mk _ (a1 _) ?_| refine ak.mk _ (a2 _) ?_| refine st ?_| (first| refine b1 ?_ ?_| refine b2 ?_ ?_| refine Br.mk ?_ ?_) <;>intro hc| exact rfl) <;>conv=>whnf)
     all_goals first| exact br.mk (i+1) (by first| omega| (dsimp only;omega)) (by omega) (by(refine⟨?_,?_⟩ <;>repeat' (first| exact True.intro| refine ai ?_| refine And.intro ?_ ?_))) | exact absurd hw hc
   · rw[if_neg h2] at hw
     (conv=>whnf);repeat' ((first| contradiction| intro g| refine bd.mk _ (aJ hf rfl) ?_| refine ak.mk _ (a1 _) ?_| refine ak.mk _ (a2 _) ?_| refine st ?_| (first| refine b1 ?_ ?_| refine b2 ?_ ?_| refine Br.mk ?_ ?_) <;>intro hc| exact rfl) <;>conv=>whnf)
     all_goals first| exact br.mk (i+1) (by first| omega| (dsimp only;omega)) (by omega) (by(refine⟨?_,?_⟩ <;>repeat' (first| exact True.intro| refine ai ?_| refine And.intro ?_ ?_))) | exact absurd hw hc
 obtain rfl:i=m.de.length:=by omega
 unfold ma at s8 s9
 generalize q.change=ch at*
 (conv=>whnf);repeat' ((first| intro g| refine ak.mk _ (D8) ?_| refine st ?_| (first| refine b1 ?_ ?_| refine b2 ?_ ?_| refine Br.mk ?_ ?_) <;>intro hc| exact rfl) <;>conv=>whnf)
 exact congrArg (fun b=> (⟨V.bool b,[]⟩:eS)) (decide_eq_true s9)
end Go.AM
set_option maxRecDepth 20000
namespace Go.AM
theorem GC {m:cJ} (h:m.QU):UH m:=by
 obtain⟨⟨e1,e2,e3,e4⟩,h2,⟨w1,w2⟩,p⟩:=h
 have p1:=p.1
 refine⟨⟨by omega,by omega,by omega,by omega,fun e he=> ?_,fun e he=> ?_⟩,by omega,fun e he=> ?_,e3,fun e he=> (e4 e he).2,fun e he p hp=> (e4 e he).1 p hp⟩
 · have:=(e2 e he).2;omega
 · have:=(w2 e he).2;omega
 · have:=(e2 e he).2;omega
theorem BR {ls:List (List Int)} (hs:pU ls): ∃m:cJ,UH m∧Ev E 522 [dI ls] ⟨m.v,[]⟩:=by
 have hs8:pU (ls.take 8):=⟨by have:=hs.1;simp;omega,fun l h=>hs.2 l (List.mem_of_mem_take h)⟩
 have hl:=hs.1
 obtain⟨res,h,m,hm,rfl⟩:=AZ hs8
 refine⟨m,GC hm,?_⟩
 have h8: ∀n:Nat,n=ls.length→(if (8:Int) < (n:Int) then(8:Int) else(n:Int)).toNat=min 8 ls.length:=fun n hn=>by
  rw[hn];split<;>omega
 refine Ev.bY Ny (Nz _) rfl ?_
 (conv=>whnf);repeat' ((first| intro g| refine bd.mk _ (wy (k:=8) (h8 _ (by first| (simp;done) | fail))) ?_| refine ak.mk _ (h) ?_| refine st ?_| (first| refine b1 ?_ ?_| refine b2 ?_ ?_| refine Br.mk ?_ ?_) <;>intro hc| exact rfl) <;>conv=>whnf)
theorem vG {ls:List (List Int)} (hs:pU ls) (n:Nat) (hn:n< 256):Ev E 520 [dI ls,.int .u8 n] ⟨.bool true,[]⟩:=by
 obtain⟨m,hm,h⟩:=BR hs
 exact BP hm n hn h
end Go.AM
