/-
  Texts of the proof, joined by program: SOddCE, SOddCF, SOddC, SOddD. Own work.
-/
import Derived.Test.YtkdfnbahehdhmaaGreatOa
import Derived.Test.YtkdfnbahehdhmaaGreatOb
import Derived.KernelRfl
set_option linter.unusedSimpArgs false
set_option linter.unusedVariables false
set_option maxRecDepth 20000
namespace Go.AM
set_option maxHeartbeats 8000000 in
theorem C8 {  L:List Edge} {F:List aI} (hL:L.length< 1000) (hF:F.length< 1000) (hl: ∀e ∈ L,e.line.length< 10) (q0 q1 q2:Int) (cc:Nat) (ec:Ev E 93 [vi q0,vi ((13:Nat):Int)] ⟨aD cc,[]⟩) (db:cc=11):
   ∃res,Ev E 94 [.lit 4 (L.map Edge.v),.lit 5 (F.map aI.v),kW q0 q1 q2] res∧ ∃ (L':List Edge) (F':List aI),L'.length≤L.length+1∧F'.length≤F.length+1∧(∀e ∈ L',e.line.length< 10)∧res=⟨.tuple [.own 4 (L'.map Edge.v),.own 5 (F'.map aI.v)],[]⟩:=by
 refine Ev.cO Bp (Bq _) rfl ?_
 (conv=>whnf);repeat' ((first| intro g| refine st ?_| (first| refine b1 ?_ ?_| refine b2 ?_ ?_| refine Br.mk ?_ ?_) <;>intro hc| exact rfl| refine jQ ?_) <;>conv=>whnf)
 rename_i ig _
 refine aV.by (fun ((i,l,g):Nat×List (Nat×Edge) ×Nat)=> ⟨[(0,.lit 4 (L.map Edge.v)),(1,.lit 5 (F.map aI.v)),(5,.ptr 96 ig 0 0),(8,.sl 145 g 0 i),(9,aD i)],(96,⟨ig,3,false,false,some [kW q0 q1 q2]⟩):: (145,⟨g,4,true,false,some (bk 0 l)⟩)::ep 0 l⟩)
   (fun (i,l,g)=>i≤L.length∧l.length=i∧l.map (·.2)=L.take i) (fun (i,_)=>L.length - i) (0,[],g) (by(refine⟨?_,?_⟩ <;>repeat' (first| exact True.intro| refine ai ?_| refine And.intro ?_ ?_))) ⟨by simp,by simp,by simp⟩ ?_
 rintro⟨i,l,g⟩ ⟨hi,gu,bl⟩
 try dsimp only at hi gu bl
 by_cases fB:i<L.length
 · obtain⟨e,he⟩: ∃e,L[i]? =some e:=⟨_,aE fB⟩
   have hle:=hl e (List.mem_of_getElem? he)
   have C4: (bk 0 l).length=i:=by rw[dG];exact gu
   (conv=>whnf);repeat' ((first| (refine Or.inl (dI.mk ⟨rfl,C4,by simp;omega⟩ ?_)) | intro g| refine aL.mk _ (aq he rfl) ?_| refine st ?_| (first| refine b1 ?_ ?_| refine b2 ?_ ?_| refine Br.mk ?_ ?_) <;>intro hc| exact rfl| refine er (by(repeat' (first| exact aw| assumption| refine(aX (by decide)).trans ?_| refine(aM (by decide)).trans ?_| refine(aA (by decide)).trans ?_))) ?_) <;>conv=>whnf)
   rename_i gi _
   have rZ:bk 0 (l++[(gi,e)])=bk 0 l++[V.agg [vi e.id,.sl (16000464+16*(i:Int).toNat) gi 0 (0+(e.line.map Pt.v).length),vi e.left,vi e.right]]:=by
     rw[il];simp[wc,gu]
   refine a9.mk (i+1,l++[(gi,e)],g) (by first| omega| (dsimp only;omega)) ⟨by omega,by simp[gu],by rw[List.map_append,bl,eo he];rfl⟩ ⟨by(repeat' (first| exact True.intro| refine ai ?_| refine And.intro ?_ ?_)),?_⟩
   refine b9 ?_ (b9 ?_ (fq fun k p hk=> ?_))
   · show lk _ 96=some (⟨ig,3,false,false,some [kW q0 q1 q2]⟩:Obj)
     repeat' (first| exact aw| refine(aX (by decide)).trans ?_| refine(aM (by decide)).trans ?_)
   · show lk _ 145=some (⟨g,4,true,false,some (bk 0 (l++[(gi,e)]))⟩:Obj)
     rw[rZ];exact aw
   · by_cases Ri:k<i
     · rw[List.getElem?_append_left (by omega)] at hk
       repeat' (first| exact cC hk| refine(aA (by decide)).trans ?_| refine(mD (by omega)).trans ?_)
     · obtain rfl:k=i:=by
         have:=(List.getElem?_eq_some_iff.1 hk).1
         simp at this;omega
       obtain rfl:p=(gi,e):=by
         rw[List.getElem?_append_right (by omega)] at hk
         simpa [gu] using hk.symm
       rw[show 16000464+16*(0+k)=16000464+16*((k:Int)).toNat from by simp]
       repeat' (first| exact aw| refine(aA (by decide)).trans ?_)
 · obtain rfl:i=L.length:=by omega
   rw[List.take_of_length_le (by omega)] at bl
   have eu: ∀ (M:List (Nat×Obj)) (T:List (Nat×V)),(∀k p,l[k]? =some p→lk M (16000464+16*(0+k))=lk (ep 0 l) (16000464+16*(0+k)))→ ∀σ,SS.On ⟨T,M⟩ σ→br σ.O (bk 0 l) L:=
     fun M T h=>gI bl fun k p hk=> ⟨false,by rw[h k p hk];exact cC hk⟩
   by_cases hn:L.length=0
   · (conv=>whnf);repeat' ((first| intro g| refine st ?_| (first| refine b1 ?_ ?_| refine b2 ?_ ?_| refine Br.mk ?_ ?_) <;>intro hc| exact rfl) <;>conv=>whnf)
     refine bT (L:=L) (by(repeat' (first| exact aw| assumption| refine(aX (by decide)).trans ?_| refine(aM (by decide)).trans ?_| refine(aA (by decide)).trans ?_))) (by(repeat' (first| exact aw| assumption| refine(aX (by decide)).trans ?_| refine(aM (by decide)).trans ?_| refine(aA (by decide)).trans ?_))) (eu _ _ fun k p hk=>by(repeat' (first| refine(aA (by decide)).trans ?_| rfl))) ?_
     intro r w
     (conv=>whnf);repeat' ((first| intro g| refine aL.mk _ (bC (by simp)) ?_| refine st ?_| (first| refine b1 ?_ ?_| refine b2 ?_ ?_| refine Br.mk ?_ ?_) <;>intro hc| exact rfl) <;>conv=>whnf)
     exact⟨L,F,by omega,by omega,fun e he=>hl e he,rfl⟩
   · obtain⟨ nn,uI,en⟩:=bp q1 40 (by decide) (by decide)
     obtain⟨kk,uJ,ek⟩:=bp q2 L.length (by omega) (by omega)
     obtain⟨⟨gk,x⟩,hx⟩: ∃p,l[kk]? =some p:=⟨_,aE (by omega)⟩
     have FM:L[kk]? =some x:=by rw[←bl,List.getElem?_map,hx];rfl
     have vY:=hl x (List.mem_of_getElem? FM)
     have cJ: (bk 0 l)[((kk:Nat):Int).toNat]? =some (.agg [vi x.id,.sl (16000464+16*(0+kk)) gk 0 x.line.length,vi x.left,vi x.right]):=ga hx
     have cP:lk (ep 0 l) (16000464+16*(0+kk))=some ⟨gk,2,true,false,some (x.line.map Pt.v)⟩:=cC hx
     have jP: ∀y:Edge,y.line.length< 10→ ∀e ∈ L.set kk y,e.line.length< 10:=fun y hy e he=>by
       rcases List.mem_or_eq_of_mem_set he with h| rfl
       · exact hl e h
       · exact hy
     have Ko: (bk 0 l).length=L.length:=by rw[dG];exact gu
     rcases db with rfl
     · obtain⟨k3,Rj,hl3⟩:=bN nn 3 (by decide)
       have Rj: (nn:Int).tmod 3=k3:=Rj
       (conv=>whnf);repeat' ((first| intro g| refine aL.mk _ (cJ) ?_| refine ag.mk _ (en) ?_| refine ag.mk _ (ek) ?_| refine ag.mk _ (ec) ?_| refine st ?_| (first| refine b1 ?_ ?_| refine b2 ?_ ?_| refine Br.mk ?_ ?_) <;>intro hc| exact rfl| refine er (by(repeat' (first| exact aw| assumption| refine(aX (by decide)).trans ?_| refine(aM (by decide)).trans ?_| refine(aA (by decide)).trans ?_))) ?_) <;>conv=>whnf)
       rw[Rj]
       rcases(by omega:k3=0∨k3=1∨k3=2) with rfl| rfl| rfl
       all_goals
         (conv=>whnf);repeat' ((first| intro g| refine aL.mk _ (cJ) ?_| refine ag.mk _ (en) ?_| refine ag.mk _ (ek) ?_| refine ag.mk _ (ec) ?_| refine st ?_| (first| refine b1 ?_ ?_| refine b2 ?_ ?_| refine Br.mk ?_ ?_) <;>intro hc| exact rfl| refine er (by(repeat' (first| exact aw| assumption| refine(aX (by decide)).trans ?_| refine(aM (by decide)).trans ?_| refine(aA (by decide)).trans ?_))) ?_) <;>conv=>whnf)
       · refine bT (L:=L++[⟨IntKind.i64.wrap (50+(nn:Int)),[⟨IntKind.i64.wrap (10*(nn:Int)),90⟩,⟨IntKind.i64.wrap (IntKind.i64.wrap (10*(nn:Int))+5),90⟩,⟨IntKind.i64.wrap (10*(nn:Int)),95⟩,⟨IntKind.i64.wrap (10*(nn:Int)),90⟩],21,0⟩]) (by(repeat' (first| exact aw| assumption| refine(aX (by decide)).trans ?_| refine(aM (by decide)).trans ?_| refine(aA (by decide)).trans ?_))) (by(repeat' (first| exact aw| assumption| refine(aX (by decide)).trans ?_| refine(aM (by decide)).trans ?_| refine(aA (by decide)).trans ?_))) ?_ ?_
         · exact fun σ ho=> (eu _ _ (fun k p hk=>by(repeat' (first| refine(aA (by decide)).trans ?_| rfl))) σ ho).append (.cons (.inl rfl) .nil)
         · intro r w
           (conv=>whnf);repeat' ((first| intro g| refine aL.mk _ (bC (by first| (simp[Ko];done) | fail)) ?_| refine st ?_| (first| refine b1 ?_ ?_| refine b2 ?_ ?_| refine Br.mk ?_ ?_) <;>intro hc| exact rfl) <;>conv=>whnf)
           refine⟨_,F,by simp,by omega,fun e he=> ?_,rfl⟩
           rcases List.mem_append.1 he with he| he
           · exact hl e he
           · rw[List.mem_singleton] at he
             subst he;simp
       · refine bT (L:=L++[⟨IntKind.i64.wrap (50+(nn:Int)),[⟨IntKind.i64.wrap (10*(nn:Int)),90⟩,⟨IntKind.i64.wrap (IntKind.i64.wrap (10*(nn:Int))+5),90⟩,⟨IntKind.i64.wrap (10*(nn:Int)),95⟩,⟨IntKind.i64.wrap (10*(nn:Int)),90⟩],21,22⟩]) (by(repeat' (first| exact aw| assumption| refine(aX (by decide)).trans ?_| refine(aM (by decide)).trans ?_| refine(aA (by decide)).trans ?_))) (by(repeat' (first| exact aw| assumption| refine(aX (by decide)).trans ?_| refine(aM (by decide)).trans ?_| refine(aA (by decide)).trans ?_))) ?_ ?_
         · exact fun σ ho=> (eu _ _ (fun k p hk=>by(repeat' (first| refine(aA (by decide)).trans ?_| rfl))) σ ho).append (.cons (.inl rfl) .nil)
         · intro r w
           (conv=>whnf);repeat' ((first| intro g| refine aL.mk _ (bC (by first| (simp[Ko];done) | fail)) ?_| refine st ?_| (first| refine b1 ?_ ?_| refine b2 ?_ ?_| refine Br.mk ?_ ?_) <;>intro hc| exact rfl) <;>conv=>whnf)
           refine⟨_,F,by simp,by omega,fun e he=> ?_,rfl⟩
           rcases List.mem_append.1 he with he| he
           · exact hl e he
           · rw[List.mem_singleton] at he
             subst he;simp
       · refine bT (L:=L++[⟨IntKind.i64.wrap (50+(nn:Int)),[⟨IntKind.i64.wrap (10*(nn:Int)),90⟩,⟨IntKind.i64.wrap (IntKind.i64.wrap (10*(nn:Int))+5),90⟩,⟨IntKind.i64.wrap (10*(nn:Int)),95⟩,⟨IntKind.i64.wrap (10*(nn:Int)),90⟩],21,28⟩]) (by(repeat' (first| exact aw| assumption| refine(aX (by decide)).trans ?_| refine(aM (by decide)).trans ?_| refine(aA (by decide)).trans ?_))) (by(repeat' (first| exact aw| assumption| refine(aX (by decide)).trans ?_| refine(aM (by decide)).trans ?_| refine(aA (by decide)).trans ?_))) ?_ ?_
         · exact fun σ ho=> (eu _ _ (fun k p hk=>by(repeat' (first| refine(aA (by decide)).trans ?_| rfl))) σ ho).append (.cons (.inl rfl) .nil)
         · intro r w
           (conv=>whnf);repeat' ((first| intro g| refine aL.mk _ (bC (by first| (simp[Ko];done) | fail)) ?_| refine st ?_| (first| refine b1 ?_ ?_| refine b2 ?_ ?_| refine Br.mk ?_ ?_) <;>intro hc| exact rfl) <;>conv=>whnf)
           refine⟨_,F,by simp,by omega,fun e he=> ?_,rfl⟩
           rcases List.mem_append.1 he with he| he
           · exact hl e he
           · rw[List.mem_singleton] at he
             subst he;simp
end Go.AM
set_option maxRecDepth 20000
namespace Go.AM
set_option maxHeartbeats 8000000 in
theorem C9 {    L:List Edge} {F:List aI} (hL:L.length< 1000) (hF:F.length< 1000) (hl: ∀e ∈ L,e.line.length< 10) (q0 q1 q2:Int) (cc:Nat) (ec:Ev E 93 [vi q0,vi ((13:Nat):Int)] ⟨aD cc,[]⟩) (db:cc=12):
   ∃res,Ev E 94 [.lit 4 (L.map Edge.v),.lit 5 (F.map aI.v),kW q0 q1 q2] res∧ ∃ (L':List Edge) (F':List aI),L'.length≤L.length+1∧F'.length≤F.length+1∧(∀e ∈ L',e.line.length< 10)∧res=⟨.tuple [.own 4 (L'.map Edge.v),.own 5 (F'.map aI.v)],[]⟩:=by
 refine Ev.cO Bp (Bq _) rfl ?_
 (conv=>whnf);repeat' ((first| intro g| refine st ?_| (first| refine b1 ?_ ?_| refine b2 ?_ ?_| refine Br.mk ?_ ?_) <;>intro hc| exact rfl| refine jQ ?_) <;>conv=>whnf)
 rename_i ig _
 refine aV.by (fun ((i,l,g):Nat×List (Nat×Edge) ×Nat)=> ⟨[(0,.lit 4 (L.map Edge.v)),(1,.lit 5 (F.map aI.v)),(5,.ptr 96 ig 0 0),(8,.sl 145 g 0 i),(9,aD i)],(96,⟨ig,3,false,false,some [kW q0 q1 q2]⟩):: (145,⟨g,4,true,false,some (bk 0 l)⟩)::ep 0 l⟩)
   (fun (i,l,g)=>i≤L.length∧l.length=i∧l.map (·.2)=L.take i) (fun (i,_)=>L.length - i) (0,[],g) (by(refine⟨?_,?_⟩ <;>repeat' (first| exact True.intro| refine ai ?_| refine And.intro ?_ ?_))) ⟨by simp,by simp,by simp⟩ ?_
 rintro⟨i,l,g⟩ ⟨hi,gu,bl⟩
 try dsimp only at hi gu bl
 by_cases fB:i<L.length
 · obtain⟨e,he⟩: ∃e,L[i]? =some e:=⟨_,aE fB⟩
   have hle:=hl e (List.mem_of_getElem? he)
   have C4: (bk 0 l).length=i:=by rw[dG];exact gu
   (conv=>whnf);repeat' ((first| (refine Or.inl (dI.mk ⟨rfl,C4,by simp;omega⟩ ?_)) | intro g| refine aL.mk _ (aq he rfl) ?_| refine st ?_| (first| refine b1 ?_ ?_| refine b2 ?_ ?_| refine Br.mk ?_ ?_) <;>intro hc| exact rfl| refine er (by(repeat' (first| exact aw| assumption| refine(aX (by decide)).trans ?_| refine(aM (by decide)).trans ?_| refine(aA (by decide)).trans ?_))) ?_) <;>conv=>whnf)
   rename_i gi _
   have rZ:bk 0 (l++[(gi,e)])=bk 0 l++[V.agg [vi e.id,.sl (16000464+16*(i:Int).toNat) gi 0 (0+(e.line.map Pt.v).length),vi e.left,vi e.right]]:=by
     rw[il];simp[wc,gu]
   refine a9.mk (i+1,l++[(gi,e)],g) (by first| omega| (dsimp only;omega)) ⟨by omega,by simp[gu],by rw[List.map_append,bl,eo he];rfl⟩ ⟨by(repeat' (first| exact True.intro| refine ai ?_| refine And.intro ?_ ?_)),?_⟩
   refine b9 ?_ (b9 ?_ (fq fun k p hk=> ?_))
   · show lk _ 96=some (⟨ig,3,false,false,some [kW q0 q1 q2]⟩:Obj)
     repeat' (first| exact aw| refine(aX (by decide)).trans ?_| refine(aM (by decide)).trans ?_)
   · show lk _ 145=some (⟨g,4,true,false,some (bk 0 (l++[(gi,e)]))⟩:Obj)
     rw[rZ];exact aw
   · by_cases Ri:k<i
     · rw[List.getElem?_append_left (by omega)] at hk
       repeat' (first| exact cC hk| refine(aA (by decide)).trans ?_| refine(mD (by omega)).trans ?_)
     · obtain rfl:k=i:=by
         have:=(List.getElem?_eq_some_iff.1 hk).1
         simp at this;omega
       obtain rfl:p=(gi,e):=by
         rw[List.getElem?_append_right (by omega)] at hk
         simpa [gu] using hk.symm
       rw[show 16000464+16*(0+k)=16000464+16*((k:Int)).toNat from by simp]
       repeat' (first| exact aw| refine(aA (by decide)).trans ?_)
 · obtain rfl:i=L.length:=by omega
   rw[List.take_of_length_le (by omega)] at bl
   have eu: ∀ (M:List (Nat×Obj)) (T:List (Nat×V)),(∀k p,l[k]? =some p→lk M (16000464+16*(0+k))=lk (ep 0 l) (16000464+16*(0+k)))→ ∀σ,SS.On ⟨T,M⟩ σ→br σ.O (bk 0 l) L:=
     fun M T h=>gI bl fun k p hk=> ⟨false,by rw[h k p hk];exact cC hk⟩
   by_cases hn:L.length=0
   · (conv=>whnf);repeat' ((first| intro g| refine st ?_| (first| refine b1 ?_ ?_| refine b2 ?_ ?_| refine Br.mk ?_ ?_) <;>intro hc| exact rfl) <;>conv=>whnf)
     refine bT (L:=L) (by(repeat' (first| exact aw| assumption| refine(aX (by decide)).trans ?_| refine(aM (by decide)).trans ?_| refine(aA (by decide)).trans ?_))) (by(repeat' (first| exact aw| assumption| refine(aX (by decide)).trans ?_| refine(aM (by decide)).trans ?_| refine(aA (by decide)).trans ?_))) (eu _ _ fun k p hk=>by(repeat' (first| refine(aA (by decide)).trans ?_| rfl))) ?_
     intro r w
     (conv=>whnf);repeat' ((first| intro g| refine aL.mk _ (bC (by simp)) ?_| refine st ?_| (first| refine b1 ?_ ?_| refine b2 ?_ ?_| refine Br.mk ?_ ?_) <;>intro hc| exact rfl) <;>conv=>whnf)
     exact⟨L,F,by omega,by omega,fun e he=>hl e he,rfl⟩
   · obtain⟨ nn,uI,en⟩:=bp q1 40 (by decide) (by decide)
     obtain⟨kk,uJ,ek⟩:=bp q2 L.length (by omega) (by omega)
     obtain⟨⟨gk,x⟩,hx⟩: ∃p,l[kk]? =some p:=⟨_,aE (by omega)⟩
     have FM:L[kk]? =some x:=by rw[←bl,List.getElem?_map,hx];rfl
     have vY:=hl x (List.mem_of_getElem? FM)
     have cJ: (bk 0 l)[((kk:Nat):Int).toNat]? =some (.agg [vi x.id,.sl (16000464+16*(0+kk)) gk 0 x.line.length,vi x.left,vi x.right]):=ga hx
     have cP:lk (ep 0 l) (16000464+16*(0+kk))=some ⟨gk,2,true,false,some (x.line.map Pt.v)⟩:=cC hx
     have jP: ∀y:Edge,y.line.length< 10→ ∀e ∈ L.set kk y,e.line.length< 10:=fun y hy e he=>by
       rcases List.mem_or_eq_of_mem_set he with h| rfl
       · exact hl e h
       · exact hy
     have Ko: (bk 0 l).length=L.length:=by rw[dG];exact gu
     rcases db with rfl
     · (conv => whnf);repeat' ((first| intro g| refine aL.mk _ (cJ) ?_| refine ag.mk _ (en) ?_| refine ag.mk _ (ek) ?_| refine ag.mk _ (ec) ?_| refine st ?_| (first| refine b1 ?_ ?_| refine b2 ?_ ?_| refine Br.mk ?_ ?_) <;>intro hc| exact rfl| refine er (by(repeat' (first| exact aw| assumption| refine(aX (by decide)).trans ?_| refine(aM (by decide)).trans ?_| refine(aA (by decide)).trans ?_))) ?_) <;>conv=>whnf)
       rename_i zz _ _
       have hP0: ∀ (k:Nat) (p:Nat×Edge),l[k]? =some p→p.2.line.length< 10:=fun k p hp=>
         hl _ (List.mem_of_getElem? (show L[k]? =some p.2 from by rw[←bl,List.getElem?_map,hp];rfl))
       refine aV.by (fun ((i,l'):Nat×List (Nat×Edge))=> ⟨[(8,.sl 145 zz 0 L.length),(11,.sl 193 g 0 F.length),(12,aD nn),(16,aD i)],(145,⟨zz,4,true,false,some (bk 0 l)⟩):: (193,⟨g,5,true,false,some (F.map aI.v)⟩)::ep 0 l'⟩)
         (fun (i,l')=>i≤L.length∧l'.length=L.length∧bk 0 l'=bk 0 l∧ ∀ (k:Nat) (p:Nat×Edge),l'[k]? =some p→p.2.line.length< 10) (fun (i,_)=>L.length - i) (0,l) ⟨by(repeat' (first| exact True.intro| refine ai ?_| refine And.intro ?_ ?_)),?_⟩ ⟨by simp,gu,rfl,hP0⟩ ?_
       · refine b9 ?_ (b9 ?_ (fq fun k p hk=> ?_))
         · show lk _ 145=some (⟨zz,4,true,false,some (bk 0 l)⟩:Obj)
           (repeat' (first| exact aw| assumption| refine(aX (by decide)).trans ?_| refine(aM (by decide)).trans ?_| refine(aA (by decide)).trans ?_))
         · show lk _ 193=some (⟨g,5,true,false,some (F.map aI.v)⟩:Obj)
           (repeat' (first| exact aw| assumption| refine(aX (by decide)).trans ?_| refine(aM (by decide)).trans ?_| refine(aA (by decide)).trans ?_))
         · exact fH (by(repeat' (first| refine(aA (by decide)).trans ?_| rfl))) hk
       · clear hx FM cJ cP eu ek
         rintro⟨i,l'⟩ ⟨yg,wQ,mE,SL⟩
         try dsimp only at yg wQ mE SL
         by_cases Xc:i<L.length
         · obtain⟨  ⟨gi,y⟩,hy⟩: ∃p,l'[i]? =some p:=⟨_,aE (by omega)⟩
           have hyl:y.line.length< 10:=SL i _ hy
           have hci: (bk 0 l)[((i:Nat):Int).toNat]? =some (.agg [vi y.id,.sl (16000464+16*(0+i)) gi 0 y.line.length,vi y.left,vi y.right]):=by rw[←mE];exact ga hy
           (conv=>whnf);repeat' ((first| intro g| refine aL.mk _ (hci) ?_| refine st ?_| (first| refine b1 ?_ ?_| refine b2 ?_ ?_| refine Br.mk ?_ ?_) <;>intro hc| exact rfl| refine er (by(repeat' (first| exact aw| assumption| refine(aX (by decide)).trans ?_| refine(aM (by decide)).trans ?_| refine(aA (by decide)).trans ?_))) ?_) <;>conv=>whnf)
           refine aV.by (fun ((j,ps):Nat×List Pt)=> ⟨[(8,.sl 145 zz 0 L.length),(11,.sl 193 g 0 F.length),(12,aD nn),(16,aD i),(17,aD j)],(145,⟨zz,4,true,false,some (bk 0 l)⟩):: (193,⟨g,5,true,false,some (F.map aI.v)⟩)::ep 0 (l'.set i (gi,⟨y.id,ps,y.left,y.right⟩))⟩)
             (fun (j,ps)=>j≤y.line.length∧ps.length=y.line.length) (fun (j,_)=>y.line.length - j) (0,y.line) ⟨by(repeat' (first| exact True.intro| refine ai ?_| refine And.intro ?_ ?_)),?_⟩ ⟨by simp,rfl⟩ ?_
           · refine b9 ?_ (b9 ?_ (fq fun k p hk=> ?_))
             · show lk _ 145=some (⟨zz,4,true,false,some (bk 0 l)⟩:Obj)
               (repeat' (first| exact aw| assumption| refine(aX (by decide)).trans ?_| refine(aM (by decide)).trans ?_| refine(aA (by decide)).trans ?_))
             · show lk _ 193=some (⟨g,5,true,false,some (F.map aI.v)⟩:Obj)
               (repeat' (first| exact aw| assumption| refine(aX (by decide)).trans ?_| refine(aM (by decide)).trans ?_| refine(aA (by decide)).trans ?_))
             · refine fH (l:=l') (by(repeat' (first| refine(aA (by decide)).trans ?_| rfl))) ?_
               rw[List.getElem?_set] at hk
               split at hk
               · rename_i e;subst e
                 split at hk
                 · rw[hy];exact hk
                 · simp at hk
               · exact hk
           · rintro⟨j,ps⟩ ⟨hj,vW⟩
             try dsimp only at hj vW
             have cP:lk (ep 0 (l'.set i (gi,⟨y.id,ps,y.left,y.right⟩))) (16000464+16*(0+i))=some ⟨gi,2,true,false,some (ps.map Pt.v)⟩:=cC (p:=(gi,⟨y.id,ps,y.left,y.right⟩)) (by simp[wQ,Xc])
             by_cases acY:j<y.line.length
             · obtain⟨p,hp⟩: ∃p,ps[j]? =some p:=⟨_,aE (by omega)⟩
               (conv=>whnf);repeat' ((first| intro g| refine aL.mk _ (hci) ?_| refine aL.mk _ (aq hp rfl) ?_| refine st ?_| (first| refine b1 ?_ ?_| refine b2 ?_ ?_| refine Br.mk ?_ ?_) <;>intro hc| exact rfl| refine er (by(repeat' (first| exact aw| assumption| refine(aX (by decide)).trans ?_| refine(aM (by decide)).trans ?_| refine(aA (by decide)).trans ?_))) ?_) <;>conv=>whnf)
               refine a9.mk (j+1,ps.set j ⟨p.x,IntKind.i64.wrap (p.y*IntKind.i64.wrap (1+IntKind.i64.wrap ((nn:Int).tmod 2*39)))⟩) (by first| omega| (dsimp only;omega)) ⟨(by first| omega| (dsimp only;omega)),by simp[vW]⟩ ⟨by(repeat' (first| exact True.intro| refine ai ?_| refine And.intro ?_ ?_)),?_⟩
               refine b9 ?_ (b9 ?_ (fq fun k q hk=> ?_))
               · show lk _ 145=some (⟨zz,4,true,false,some (bk 0 l)⟩:Obj)
                 (repeat' (first| exact aw| assumption| refine(aX (by decide)).trans ?_| refine(aM (by decide)).trans ?_| refine(aA (by decide)).trans ?_))
               · show lk _ 193=some (⟨g,5,true,false,some (F.map aI.v)⟩:Obj)
                 (repeat' (first| exact aw| assumption| refine(aX (by decide)).trans ?_| refine(aM (by decide)).trans ?_| refine(aA (by decide)).trans ?_))
               · by_cases e:k=i
                 · subst e
                   rw[List.getElem?_set_self (by omega)] at hk
                   injection hk with hk;subst hk
                   refine aw.trans ?_
                   simp only[Et,List.map_set];rfl
                 · refine fH (l:=l'.set i (gi,⟨y.id,ps,y.left,y.right⟩)) (by refine(mD (by omega)).trans ?_; (repeat' (first| refine(aA (by decide)).trans ?_| rfl))) ?_
                   rw[List.getElem?_set_ne (Ne.symm e)] at hk ⊢
                   exact hk
             · obtain rfl:j=y.line.length:=by omega
               (conv=>whnf);repeat' ((first| intro g| refine aL.mk _ (hci) ?_| refine st ?_| (first| refine b1 ?_ ?_| refine b2 ?_ ?_| refine Br.mk ?_ ?_) <;>intro hc| exact rfl| refine er (by(repeat' (first| exact aw| assumption| refine(aX (by decide)).trans ?_| refine(aM (by decide)).trans ?_| refine(aA (by decide)).trans ?_))) ?_) <;>conv=>whnf)
               refine a9.mk (i+1,l'.set i (gi,⟨y.id,ps,y.left,y.right⟩)) (by first| omega| (dsimp only;omega)) ⟨(by first| omega| (dsimp only;omega)),by simp[wQ],(r5 (y:=⟨y.id,ps,y.left,y.right⟩) hy rfl vW rfl rfl).trans mE,fun k q hk=> ?_⟩ ⟨by(repeat' (first| exact True.intro| refine ai ?_| refine And.intro ?_ ?_)),?_⟩
               · by_cases e:k=i
                 · subst e
                   rw[List.getElem?_set_self (by omega)] at hk
                   injection hk with hk;subst hk
                   dsimp only;rw[vW];exact hyl
                 · rw[List.getElem?_set_ne (Ne.symm e)] at hk
                   exact SL k q hk
               · refine b9 ?_ (b9 ?_ (fq fun k q hk=> ?_))
                 · show lk _ 145=some (⟨zz,4,true,false,some (bk 0 l)⟩:Obj)
                   (repeat' (first| exact aw| assumption| refine(aX (by decide)).trans ?_| refine(aM (by decide)).trans ?_| refine(aA (by decide)).trans ?_))
                 · show lk _ 193=some (⟨g,5,true,false,some (F.map aI.v)⟩:Obj)
                   (repeat' (first| exact aw| assumption| refine(aX (by decide)).trans ?_| refine(aM (by decide)).trans ?_| refine(aA (by decide)).trans ?_))
                 · exact fH (by(repeat' (first| refine(aA (by decide)).trans ?_| rfl))) hk
         · obtain rfl:i=L.length:=by omega
           (conv=>whnf);repeat' ((first| intro g| refine st ?_| (first| refine b1 ?_ ?_| refine b2 ?_ ?_| refine Br.mk ?_ ?_) <;>intro hc| exact rfl) <;>conv=>whnf)
           refine bT (L:=l'.map (·.2)) (by(repeat' (first| exact aw| assumption| refine(aX (by decide)).trans ?_| refine(aM (by decide)).trans ?_| refine(aA (by decide)).trans ?_))) (by(repeat' (first| exact aw| assumption| refine(aX (by decide)).trans ?_| refine(aM (by decide)).trans ?_| refine(aA (by decide)).trans ?_))) ?_ ?_
           · intro σ ho
             rw[←mE]
             exact gI rfl (fun k q hk=> ⟨false,fH (by(repeat' (first| refine(aA (by decide)).trans ?_| rfl))) hk⟩) σ ho
           · intro r w
             (conv=>whnf);repeat' ((first| intro g| refine aL.mk _ (bC (by first| (simp[wQ];done) | fail)) ?_| refine st ?_| (first| refine b1 ?_ ?_| refine b2 ?_ ?_| refine Br.mk ?_ ?_) <;>intro hc| exact rfl) <;>conv=>whnf)
             refine⟨l'.map (·.2),F,by simp;omega,by omega,fun e he=> ?_,rfl⟩
             obtain⟨q,hq,rfl⟩:=List.mem_map.1 he
             obtain⟨k,hk⟩:=List.getElem?_of_mem hq
             exact SL k q hk
end Go.AM
set_option maxRecDepth 20000
namespace Go.AM
theorem wM {L:List Edge} {F:List aI} (hL:L.length< 1000) (hF:F.length< 1000) (hl: ∀e ∈ L,e.line.length< 10) (q0 q1 q2:Int):
   ∃res,Ev E 94 [.lit 4 (L.map Edge.v),.lit 5 (F.map aI.v),kW q0 q1 q2] res∧ ∃ (L':List Edge) (F':List aI),L'.length≤L.length+1∧F'.length≤F.length+1∧(∀e ∈ L',e.line.length< 10)∧res=⟨.tuple [.own 4 (L'.map Edge.v),.own 5 (F'.map aI.v)],[]⟩:=by
 by_cases hn:L.length=0
 · obtain⟨cc,Je,ec⟩:=bp q0 13 (by decide) (by decide)
   by_cases h:cc=0∨cc=1∨cc=2
   · exact C3 hL hF hl q0 q1 q2 cc ec h
   · rcases(by omega: (cc=3∨cc=4)∨(cc=5∨cc=6∨cc=7)∨(cc=8∨cc=9∨cc=10)∨cc=11∨cc=12) with h| h| h| h| h
     · exact C5 hL hF hl q0 q1 q2 cc ec h
     · exact C6 hL hF hl q0 q1 q2 cc ec h
     · exact C7 hL hF hl q0 q1 q2 cc ec h
     · exact C8 hL hF hl q0 q1 q2 cc ec h
     · exact C9 hL hF hl q0 q1 q2 cc ec h
 · obtain⟨cc,Je,ec⟩:=bp q0 13 (by decide) (by decide)
   rcases(by omega: (cc=0∨cc=1∨cc=2)∨(cc=3∨cc=4)∨(cc=5∨cc=6∨cc=7)∨(cc=8∨cc=9∨cc=10)∨cc=11∨cc=12) with h| h| h| h| h| h
   · exact C3 hL hF hl q0 q1 q2 cc ec h
   · exact C5 hL hF hl q0 q1 q2 cc ec h
   · exact C6 hL hF hl q0 q1 q2 cc ec h
   · exact C7 hL hF hl q0 q1 q2 cc ec h
   · exact C8 hL hF hl q0 q1 q2 cc ec h
   · exact C9 hL hF hl q0 q1 q2 cc ec h
theorem wL {F:List aI} (hF:F.length< 1000) (q0 q1 q2:Int):
  ∃res,Ev E 94 [.nils,.lit 5 (F.map aI.v),kW q0 q1 q2] res∧res=⟨.tuple [.own 4 [],.own 5 (F.map aI.v)],[]⟩:=by
 refine Ev.cO Bp (Bq _) rfl ?_
 (conv=>whnf);repeat' ((first| intro g| refine st ?_| (first| refine b1 ?_ ?_| refine b2 ?_ ?_| refine Br.mk ?_ ?_) <;>intro hc| exact rfl| refine jQ ?_) <;>conv=>whnf)
 rename_i ig _
 refine aV.by (fun (_:Nat)=> ⟨[(0,.nils),(1,.lit 5 (F.map aI.v)),(5,.ptr 96 ig 0 0),(8,.sl 145 g 0 0),(9,aD 0)],[(96,⟨ig,3,false,false,some [kW q0 q1 q2]⟩),(145,⟨g,4,true,false,some []⟩)]⟩)
  (fun _=>True) (fun _=>0) 0 (by(refine⟨?_,?_⟩ <;>repeat' (first| exact True.intro| refine ai ?_| refine And.intro ?_ ?_))) trivial ?_
 intro _ _
 (conv=>whnf);repeat' ((first| intro g| refine st ?_| (first| refine b1 ?_ ?_| refine b2 ?_ ?_| refine Br.mk ?_ ?_) <;>intro hc| exact rfl) <;>conv=>whnf)
 refine bT (L:=[]) (by(repeat' (first| exact aw| assumption| refine(aX (by decide)).trans ?_| refine(aM (by decide)).trans ?_| refine(aA (by decide)).trans ?_))) (by(repeat' (first| exact aw| assumption| refine(aX (by decide)).trans ?_| refine(aM (by decide)).trans ?_| refine(aA (by decide)).trans ?_))) (fun σ ho=> .nil) ?_
 intro r w
 (conv=>whnf);repeat' ((first| intro g| refine aL.mk _ (bC (by first| (simp;done) | fail)) ?_| refine st ?_| (first| refine b1 ?_ ?_| refine b2 ?_ ?_| refine Br.mk ?_ ?_) <;>intro hc| exact rfl) <;>conv=>whnf)
end Go.AM
set_option maxRecDepth 20000
namespace Go.AM
structure kc (m m':aQ):Prop where
 aH:m'.aH.length≤m.aH.length+1
 bn:m'.bn.length≤m.bn.length+1
 ways:m'.ways.length≤m.ways.length+1
 el: ∀e ∈ m'.aH,e.line.length< 10
 wl: ∀w ∈ m'.ways,w.line.length< 1000
 aZ:m'.aZ.length≤m.aZ.length+1∨ ∃ (k:Nat) (f:Nat→Place),k≤82∧(∀i,i< 82→(f i).id=1000+(i:Int))∧m'.aZ=m.aZ++(List.range k).map f
def aQ.vw (m:aQ) (a b:Bool):V:= .agg [if a then .lit 4 (m.aH.map Edge.v) else .own 4 (m.aH.map Edge.v),.own 5 (m.bn.map aI.v),if b then .lit 8 (m.ways.map Way.v) else .own 8 (m.ways.map Way.v),.own 7 (m.aZ.map Place.v)]
structure aQ.Small (m:aQ):Prop where
 aH:m.aH.length< 900
 bn:m.bn.length< 900
 ways:m.ways.length< 900
 aZ:m.aZ.length< 900
 el: ∀e ∈ m.aH,e.line.length< 10
 wl: ∀w ∈ m.ways,w.line.length< 1000
section
variable {es es':List Edge} {fs fs':List aI} {ws vX:List Way} {ps ps':List Place} (h:aQ.Small ⟨es,fs,ws,ps⟩)
include h
theorem xW (h1:es'.length≤es.length+1) (h2:fs'.length≤fs.length+1) (h3: ∀e ∈ es',e.line.length< 10):kc ⟨es,fs,ws,ps⟩ ⟨es',fs',ws,ps⟩:=
 ⟨h1,h2,Nat.le_succ _,h3,h.wl,.inl (Nat.le_succ _)⟩
theorem ba (h2:fs'.length≤fs.length+1):kc ⟨es,fs,ws,ps⟩ ⟨es,fs',ws,ps⟩:=
 ⟨Nat.le_succ _,h2,Nat.le_succ _,fun e he=>h.el e he,h.wl,.inl (Nat.le_succ _)⟩
theorem ja (h2:vX.length≤ws.length+1) (h3: ∀w ∈ vX,w.line.length< 1000):kc ⟨es,fs,ws,ps⟩ ⟨es,fs,vX,ps⟩:=
 ⟨Nat.le_succ _,Nat.le_succ _,h2,fun e he=>h.el e he,h3,.inl (Nat.le_succ _)⟩
theorem cZ (h2:ps'.length≤ps.length+1∨ ∃ (k:Nat) (f:Nat→Place),k≤82∧(∀i,i< 82→(f i).id=1000+(i:Int))∧ps'=ps++(List.range k).map f):kc ⟨es,fs,ws,ps⟩ ⟨es,fs,ws,ps'⟩:=
 ⟨Nat.le_succ _,Nat.le_succ _,Nat.le_succ _,fun e he=>h.el e he,h.wl,h2⟩
theorem oa {n:Nat} {w:Way} (hw:w.line.length< 1000): ∀x ∈ ws.set n w,x.line.length< 1000:=fun x hx=>by
 rcases List.mem_or_eq_of_mem_set hx with hx| rfl
 · exact h.wl x hx
 · exact hw
theorem Gj {n m:Nat}: ∀x ∈ ws.take n++ws.drop m,x.line.length< 1000:=fun x hx=>by
 rcases List.mem_append.1 hx with hx| hx
 · exact h.wl x (List.mem_of_mem_take hx)
 · exact h.wl x (List.mem_of_mem_drop hx)
theorem CP {w:Way} (hw:w.line.length< 1000): ∀x ∈ ws++[w],x.line.length< 1000:=fun x hx=>by
 rcases List.mem_append.1 hx with hx| hx
 · exact h.wl x hx
 · have:x=w:=by simpa using hx
   subst this;exact hw
end
theorem n9 {α:Type} {f:α→V} {l:List α} {j:Nat} (hj:j<l.length) {o n:Nat} (ho:o=j) (hn:n=l.length - 1):aN (overwrite (l.map f) o ((l.drop (j+1)).map f)) 0 n=(l.take j++l.drop (j+1)).map f:=by
 subst ho;subst hn
 unfold overwrite
 rw[←List.map_take,←List.map_append]
 exact xS (by simp;omega)
theorem bH {α:Type} {f:α→V} {l:List α} {n m:Nat} (x:α) (hm:m=l.length):aN ((l.map f).set n (f x)) 0 m=(l.set n x).map f:=by
 rw[←List.map_set]
 exact bC (by simp[hm])
theorem kX {α:Type} {f:α→V} {l:List α} {j o n:Nat} (ho:o=j+1) (hn:n=l.length - (j+1)):aN (l.map f) o n=(l.drop (j+1)).map f:=by
 subst ho;subst hn
 unfold aN
 rw[←List.map_drop,List.take_of_length_le (by simp)]
theorem n0 {l ys:List V} {o n:Nat} (ho:o≤l.length) (hn:n=o+ys.length):n≤(overwrite l o ys).length:=by
 subst hn
 unfold overwrite
 simp;omega
def jO (i:Nat):Place:=⟨IntKind.i64.wrap (1000+(i:Int)),IntKind.i64.wrap (90+(i:Int).tmod 3),110,[116,114,101,101],[],1,1⟩
theorem lZ (ps:List Place) (i:Nat): (ps++(List.range i).map jO).map Place.v++[Place.v (jO i)]=(ps++(List.range (i+1)).map jO).map Place.v:=by
 rw[List.range_succ];simp
end Go.AM
