/-
  Texts of the proof, joined by program: SOddCE, SOddCF, SOddC, SOddD. Own work.
-/
import Derived.Test.YtinmckmdbepjcaaGreatOa
import Derived.Test.YtinmckmdbepjcaaGreatOb
import Derived.KernelRfl
set_option linter.unusedSimpArgs false
set_option linter.unusedVariables false
set_option maxRecDepth 20000
namespace Go.AM
set_option maxHeartbeats 8000000 in
theorem BT {  L:List Edge} {F:List ar} (hL:L.length< 1000) (hF:F.length< 1000) (hl: ∀e ∈ L,e.line.length< 1000) (q0 q1 q2:Int) (cc:Nat) (ec:Ev E 93 [vi q0,vi ((13:Nat):Int)] ⟨aF cc,[]⟩) (dk:cc=11):
   ∃res,Ev E 94 [.lit 4 (L.map Edge.v),.lit 5 (F.map ar.v),ll q0 q1 q2] res∧ ∃ (L':List Edge) (F':List ar),L'.length≤L.length+1∧F'.length≤F.length+1∧(∀e ∈ L',e.line.length< 1000)∧res=⟨.tuple [.own 4 (L'.map Edge.v),.own 5 (F'.map ar.v)],[]⟩:=by
 refine Ev.cQ Ad (Ae _) rfl ?_
 (conv=>whnf);repeat' ((first| intro g| refine st ?_| (first| refine b1 ?_ ?_| refine b2 ?_ ?_| refine Br.mk ?_ ?_) <;>intro hc| exact rfl| refine jH ?_) <;>conv=>whnf)
 rename_i mi _
 refine ba.by (fun ((i,l,g):Nat×List (Nat×Edge) ×Nat)=> ⟨[(0,.lit 4 (L.map Edge.v)),(1,.lit 5 (F.map ar.v)),(5,.ptr 96 mi 0 0),(8,.sl 145 g 0 i),(9,aF i)],(96,⟨mi,3,false,false,some [ll q0 q1 q2]⟩):: (145,⟨g,4,true,false,some (bj 0 l)⟩)::eo 0 l⟩)
   (fun (i,l,g)=>i≤L.length∧l.length=i∧l.map (·.2)=L.take i) (fun (i,_)=>L.length - i) (0,[],g) (by(refine⟨?_,?_⟩ <;>repeat' (first| exact True.intro| refine ai ?_| refine And.intro ?_ ?_))) ⟨by simp,by simp,by simp⟩ ?_
 rintro⟨i,l,g⟩ ⟨hi,gS,bk⟩
 try dsimp only at hi gS bk
 by_cases fS:i<L.length
 · obtain⟨e,he⟩: ∃e,L[i]? =some e:=⟨_,aL fS⟩
   have hle:=hl e (List.mem_of_getElem? he)
   have BP: (bj 0 l).length=i:=by rw[dF];exact gS
   (conv=>whnf);repeat' ((first| (refine Or.inl (eY.mk ⟨rfl,BP,by simp;omega⟩ ?_)) | intro g| refine aH.mk _ (aC he rfl) ?_| refine st ?_| (first| refine b1 ?_ ?_| refine b2 ?_ ?_| refine Br.mk ?_ ?_) <;>intro hc| exact rfl| refine ep (by(repeat' (first| exact aA| assumption| refine(aV (by decide)).trans ?_| refine(aK (by decide)).trans ?_| refine(aB (by decide)).trans ?_))) ?_) <;>conv=>whnf)
   rename_i gi _
   have rO:bj 0 (l++[(gi,e)])=bj 0 l++[V.agg [vi e.id,.sl (16000464+16*(i:Int).toNat) gi 0 (0+(e.line.map Pt.v).length),vi e.left,vi e.right]]:=by
     rw[ia];simp[vx,gS]
   refine bc.mk (i+1,l++[(gi,e)],g) (by first| omega| (dsimp only;omega)) ⟨by omega,by simp[gS],by rw[List.map_append,bk,fv he];rfl⟩ ⟨by(repeat' (first| exact True.intro| refine ai ?_| refine And.intro ?_ ?_)),?_⟩
   refine ck ?_ (ck ?_ (fi fun k p hk=> ?_))
   · show lk _ 96=some (⟨mi,3,false,false,some [ll q0 q1 q2]⟩:Obj)
     repeat' (first| exact aA| refine(aV (by decide)).trans ?_| refine(aK (by decide)).trans ?_)
   · show lk _ 145=some (⟨g,4,true,false,some (bj 0 (l++[(gi,e)]))⟩:Obj)
     rw[rO];exact aA
   · by_cases ke:k<i
     · rw[List.getElem?_append_left (by omega)] at hk
       repeat' (first| exact cJ hk| refine(aB (by decide)).trans ?_| refine(ml (by omega)).trans ?_)
     · obtain rfl:k=i:=by
         have:=(List.getElem?_eq_some_iff.1 hk).1
         simp at this;omega
       obtain rfl:p=(gi,e):=by
         rw[List.getElem?_append_right (by omega)] at hk
         simpa [gS] using hk.symm
       rw[show 16000464+16*(0+k)=16000464+16*((k:Int)).toNat from by simp]
       repeat' (first| exact aA| refine(aB (by decide)).trans ?_)
 · obtain rfl:i=L.length:=by omega
   rw[List.take_of_length_le (by omega)] at bk
   have eu: ∀ (M:List (Nat×Obj)) (T:List (Nat×V)),(∀k p,l[k]? =some p→lk M (16000464+16*(0+k))=lk (eo 0 l) (16000464+16*(0+k)))→ ∀σ,SS.On ⟨T,M⟩ σ→bu σ.O (bj 0 l) L:=
     fun M T h=>gD bk fun k p hk=> ⟨false,by rw[h k p hk];exact cJ hk⟩
   by_cases hn:L.length=0
   · (conv=>whnf);repeat' ((first| intro g| refine st ?_| (first| refine b1 ?_ ?_| refine b2 ?_ ?_| refine Br.mk ?_ ?_) <;>intro hc| exact rfl) <;>conv=>whnf)
     refine bW (L:=L) (by(repeat' (first| exact aA| assumption| refine(aV (by decide)).trans ?_| refine(aK (by decide)).trans ?_| refine(aB (by decide)).trans ?_))) (by(repeat' (first| exact aA| assumption| refine(aV (by decide)).trans ?_| refine(aK (by decide)).trans ?_| refine(aB (by decide)).trans ?_))) (eu _ _ fun k p hk=>by(repeat' (first| refine(aB (by decide)).trans ?_| rfl))) ?_
     intro r w
     (conv=>whnf);repeat' ((first| intro g| refine aH.mk _ (bz (by simp)) ?_| refine st ?_| (first| refine b1 ?_ ?_| refine b2 ?_ ?_| refine Br.mk ?_ ?_) <;>intro hc| exact rfl) <;>conv=>whnf)
     exact⟨L,F,by omega,by omega,fun e he=>hl e he,rfl⟩
   · obtain⟨ nn,uc,en⟩:=bo q1 40 (by decide) (by decide)
     obtain⟨kk,ud,ek⟩:=bo q2 L.length (by omega) (by omega)
     obtain⟨⟨gk,x⟩,hx⟩: ∃p,l[kk]? =some p:=⟨_,aL (by omega)⟩
     have D9:L[kk]? =some x:=by rw[←bk,List.getElem?_map,hx];rfl
     have vg:=hl x (List.mem_of_getElem? D9)
     have dc: (bj 0 l)[((kk:Nat):Int).toNat]? =some (.agg [vi x.id,.sl (16000464+16*(0+kk)) gk 0 x.line.length,vi x.left,vi x.right]):=gg hx
     have dL:lk (eo 0 l) (16000464+16*(0+kk))=some ⟨gk,2,true,false,some (x.line.map Pt.v)⟩:=cJ hx
     have jG: ∀y:Edge,y.line.length< 1000→ ∀e ∈ L.set kk y,e.line.length< 1000:=fun y hy e he=>by
       rcases List.mem_or_eq_of_mem_set he with h| rfl
       · exact hl e h
       · exact hy
     have HQ: (bj 0 l).length=L.length:=by rw[dF];exact gS
     rcases dk with rfl
     · obtain⟨k3,PM,MI⟩:=bN nn 3 (by decide)
       have PM: (nn:Int).tmod 3=k3:=PM
       (conv=>whnf);repeat' ((first| intro g| refine aH.mk _ (dc) ?_| refine ag.mk _ (en) ?_| refine ag.mk _ (ek) ?_| refine ag.mk _ (ec) ?_| refine st ?_| (first| refine b1 ?_ ?_| refine b2 ?_ ?_| refine Br.mk ?_ ?_) <;>intro hc| exact rfl| refine ep (by(repeat' (first| exact aA| assumption| refine(aV (by decide)).trans ?_| refine(aK (by decide)).trans ?_| refine(aB (by decide)).trans ?_))) ?_) <;>conv=>whnf)
       rw[PM]
       rcases(by omega:k3=0∨k3=1∨k3=2) with rfl| rfl| rfl
       all_goals
         (conv=>whnf);repeat' ((first| intro g| refine aH.mk _ (dc) ?_| refine ag.mk _ (en) ?_| refine ag.mk _ (ek) ?_| refine ag.mk _ (ec) ?_| refine st ?_| (first| refine b1 ?_ ?_| refine b2 ?_ ?_| refine Br.mk ?_ ?_) <;>intro hc| exact rfl| refine ep (by(repeat' (first| exact aA| assumption| refine(aV (by decide)).trans ?_| refine(aK (by decide)).trans ?_| refine(aB (by decide)).trans ?_))) ?_) <;>conv=>whnf)
       · refine bW (L:=L++[⟨IntKind.i64.wrap (50+(nn:Int)),[⟨IntKind.i64.wrap (10*(nn:Int)),90⟩,⟨IntKind.i64.wrap (IntKind.i64.wrap (10*(nn:Int))+5),90⟩,⟨IntKind.i64.wrap (10*(nn:Int)),95⟩,⟨IntKind.i64.wrap (10*(nn:Int)),90⟩],21,0⟩]) (by(repeat' (first| exact aA| assumption| refine(aV (by decide)).trans ?_| refine(aK (by decide)).trans ?_| refine(aB (by decide)).trans ?_))) (by(repeat' (first| exact aA| assumption| refine(aV (by decide)).trans ?_| refine(aK (by decide)).trans ?_| refine(aB (by decide)).trans ?_))) ?_ ?_
         · exact fun σ ho=> (eu _ _ (fun k p hk=>by(repeat' (first| refine(aB (by decide)).trans ?_| rfl))) σ ho).append (.cons (.inl rfl) .nil)
         · intro r w
           (conv=>whnf);repeat' ((first| intro g| refine aH.mk _ (bz (by first| (simp[HQ];done) | fail)) ?_| refine st ?_| (first| refine b1 ?_ ?_| refine b2 ?_ ?_| refine Br.mk ?_ ?_) <;>intro hc| exact rfl) <;>conv=>whnf)
           refine⟨_,F,by simp,by omega,fun e he=> ?_,rfl⟩
           rcases List.mem_append.1 he with he| he
           · exact hl e he
           · rw[List.mem_singleton] at he
             subst he;simp
       · refine bW (L:=L++[⟨IntKind.i64.wrap (50+(nn:Int)),[⟨IntKind.i64.wrap (10*(nn:Int)),90⟩,⟨IntKind.i64.wrap (IntKind.i64.wrap (10*(nn:Int))+5),90⟩,⟨IntKind.i64.wrap (10*(nn:Int)),95⟩,⟨IntKind.i64.wrap (10*(nn:Int)),90⟩],21,22⟩]) (by(repeat' (first| exact aA| assumption| refine(aV (by decide)).trans ?_| refine(aK (by decide)).trans ?_| refine(aB (by decide)).trans ?_))) (by(repeat' (first| exact aA| assumption| refine(aV (by decide)).trans ?_| refine(aK (by decide)).trans ?_| refine(aB (by decide)).trans ?_))) ?_ ?_
         · exact fun σ ho=> (eu _ _ (fun k p hk=>by(repeat' (first| refine(aB (by decide)).trans ?_| rfl))) σ ho).append (.cons (.inl rfl) .nil)
         · intro r w
           (conv=>whnf);repeat' ((first| intro g| refine aH.mk _ (bz (by first| (simp[HQ];done) | fail)) ?_| refine st ?_| (first| refine b1 ?_ ?_| refine b2 ?_ ?_| refine Br.mk ?_ ?_) <;>intro hc| exact rfl) <;>conv=>whnf)
           refine⟨_,F,by simp,by omega,fun e he=> ?_,rfl⟩
           rcases List.mem_append.1 he with he| he
           · exact hl e he
           · rw[List.mem_singleton] at he
             subst he;simp
       · refine bW (L:=L++[⟨IntKind.i64.wrap (50+(nn:Int)),[⟨IntKind.i64.wrap (10*(nn:Int)),90⟩,⟨IntKind.i64.wrap (IntKind.i64.wrap (10*(nn:Int))+5),90⟩,⟨IntKind.i64.wrap (10*(nn:Int)),95⟩,⟨IntKind.i64.wrap (10*(nn:Int)),90⟩],21,28⟩]) (by(repeat' (first| exact aA| assumption| refine(aV (by decide)).trans ?_| refine(aK (by decide)).trans ?_| refine(aB (by decide)).trans ?_))) (by(repeat' (first| exact aA| assumption| refine(aV (by decide)).trans ?_| refine(aK (by decide)).trans ?_| refine(aB (by decide)).trans ?_))) ?_ ?_
         · exact fun σ ho=> (eu _ _ (fun k p hk=>by(repeat' (first| refine(aB (by decide)).trans ?_| rfl))) σ ho).append (.cons (.inl rfl) .nil)
         · intro r w
           (conv=>whnf);repeat' ((first| intro g| refine aH.mk _ (bz (by first| (simp[HQ];done) | fail)) ?_| refine st ?_| (first| refine b1 ?_ ?_| refine b2 ?_ ?_| refine Br.mk ?_ ?_) <;>intro hc| exact rfl) <;>conv=>whnf)
           refine⟨_,F,by simp,by omega,fun e he=> ?_,rfl⟩
           rcases List.mem_append.1 he with he| he
           · exact hl e he
           · rw[List.mem_singleton] at he
             subst he;simp
end Go.AM
set_option maxRecDepth 20000
namespace Go.AM
set_option maxHeartbeats 8000000 in
theorem BU {    L:List Edge} {F:List ar} (hL:L.length< 1000) (hF:F.length< 1000) (hl: ∀e ∈ L,e.line.length< 1000) (q0 q1 q2:Int) (cc:Nat) (ec:Ev E 93 [vi q0,vi ((13:Nat):Int)] ⟨aF cc,[]⟩) (dk:cc=12):
   ∃res,Ev E 94 [.lit 4 (L.map Edge.v),.lit 5 (F.map ar.v),ll q0 q1 q2] res∧ ∃ (L':List Edge) (F':List ar),L'.length≤L.length+1∧F'.length≤F.length+1∧(∀e ∈ L',e.line.length< 1000)∧res=⟨.tuple [.own 4 (L'.map Edge.v),.own 5 (F'.map ar.v)],[]⟩:=by
 refine Ev.cQ Ad (Ae _) rfl ?_
 (conv=>whnf);repeat' ((first| intro g| refine st ?_| (first| refine b1 ?_ ?_| refine b2 ?_ ?_| refine Br.mk ?_ ?_) <;>intro hc| exact rfl| refine jH ?_) <;>conv=>whnf)
 rename_i mi _
 refine ba.by (fun ((i,l,g):Nat×List (Nat×Edge) ×Nat)=> ⟨[(0,.lit 4 (L.map Edge.v)),(1,.lit 5 (F.map ar.v)),(5,.ptr 96 mi 0 0),(8,.sl 145 g 0 i),(9,aF i)],(96,⟨mi,3,false,false,some [ll q0 q1 q2]⟩):: (145,⟨g,4,true,false,some (bj 0 l)⟩)::eo 0 l⟩)
   (fun (i,l,g)=>i≤L.length∧l.length=i∧l.map (·.2)=L.take i) (fun (i,_)=>L.length - i) (0,[],g) (by(refine⟨?_,?_⟩ <;>repeat' (first| exact True.intro| refine ai ?_| refine And.intro ?_ ?_))) ⟨by simp,by simp,by simp⟩ ?_
 rintro⟨i,l,g⟩ ⟨hi,gS,bk⟩
 try dsimp only at hi gS bk
 by_cases fS:i<L.length
 · obtain⟨e,he⟩: ∃e,L[i]? =some e:=⟨_,aL fS⟩
   have hle:=hl e (List.mem_of_getElem? he)
   have BP: (bj 0 l).length=i:=by rw[dF];exact gS
   (conv=>whnf);repeat' ((first| (refine Or.inl (eY.mk ⟨rfl,BP,by simp;omega⟩ ?_)) | intro g| refine aH.mk _ (aC he rfl) ?_| refine st ?_| (first| refine b1 ?_ ?_| refine b2 ?_ ?_| refine Br.mk ?_ ?_) <;>intro hc| exact rfl| refine ep (by(repeat' (first| exact aA| assumption| refine(aV (by decide)).trans ?_| refine(aK (by decide)).trans ?_| refine(aB (by decide)).trans ?_))) ?_) <;>conv=>whnf)
   rename_i gi _
   have rO:bj 0 (l++[(gi,e)])=bj 0 l++[V.agg [vi e.id,.sl (16000464+16*(i:Int).toNat) gi 0 (0+(e.line.map Pt.v).length),vi e.left,vi e.right]]:=by
     rw[ia];simp[vx,gS]
   refine bc.mk (i+1,l++[(gi,e)],g) (by first| omega| (dsimp only;omega)) ⟨by omega,by simp[gS],by rw[List.map_append,bk,fv he];rfl⟩ ⟨by(repeat' (first| exact True.intro| refine ai ?_| refine And.intro ?_ ?_)),?_⟩
   refine ck ?_ (ck ?_ (fi fun k p hk=> ?_))
   · show lk _ 96=some (⟨mi,3,false,false,some [ll q0 q1 q2]⟩:Obj)
     repeat' (first| exact aA| refine(aV (by decide)).trans ?_| refine(aK (by decide)).trans ?_)
   · show lk _ 145=some (⟨g,4,true,false,some (bj 0 (l++[(gi,e)]))⟩:Obj)
     rw[rO];exact aA
   · by_cases ke:k<i
     · rw[List.getElem?_append_left (by omega)] at hk
       repeat' (first| exact cJ hk| refine(aB (by decide)).trans ?_| refine(ml (by omega)).trans ?_)
     · obtain rfl:k=i:=by
         have:=(List.getElem?_eq_some_iff.1 hk).1
         simp at this;omega
       obtain rfl:p=(gi,e):=by
         rw[List.getElem?_append_right (by omega)] at hk
         simpa [gS] using hk.symm
       rw[show 16000464+16*(0+k)=16000464+16*((k:Int)).toNat from by simp]
       repeat' (first| exact aA| refine(aB (by decide)).trans ?_)
 · obtain rfl:i=L.length:=by omega
   rw[List.take_of_length_le (by omega)] at bk
   have eu: ∀ (M:List (Nat×Obj)) (T:List (Nat×V)),(∀k p,l[k]? =some p→lk M (16000464+16*(0+k))=lk (eo 0 l) (16000464+16*(0+k)))→ ∀σ,SS.On ⟨T,M⟩ σ→bu σ.O (bj 0 l) L:=
     fun M T h=>gD bk fun k p hk=> ⟨false,by rw[h k p hk];exact cJ hk⟩
   by_cases hn:L.length=0
   · (conv=>whnf);repeat' ((first| intro g| refine st ?_| (first| refine b1 ?_ ?_| refine b2 ?_ ?_| refine Br.mk ?_ ?_) <;>intro hc| exact rfl) <;>conv=>whnf)
     refine bW (L:=L) (by(repeat' (first| exact aA| assumption| refine(aV (by decide)).trans ?_| refine(aK (by decide)).trans ?_| refine(aB (by decide)).trans ?_))) (by(repeat' (first| exact aA| assumption| refine(aV (by decide)).trans ?_| refine(aK (by decide)).trans ?_| refine(aB (by decide)).trans ?_))) (eu _ _ fun k p hk=>by(repeat' (first| refine(aB (by decide)).trans ?_| rfl))) ?_
     intro r w
     (conv=>whnf);repeat' ((first| intro g| refine aH.mk _ (bz (by simp)) ?_| refine st ?_| (first| refine b1 ?_ ?_| refine b2 ?_ ?_| refine Br.mk ?_ ?_) <;>intro hc| exact rfl) <;>conv=>whnf)
     exact⟨L,F,by omega,by omega,fun e he=>hl e he,rfl⟩
   · obtain⟨ nn,uc,en⟩:=bo q1 40 (by decide) (by decide)
     obtain⟨kk,ud,ek⟩:=bo q2 L.length (by omega) (by omega)
     obtain⟨⟨gk,x⟩,hx⟩: ∃p,l[kk]? =some p:=⟨_,aL (by omega)⟩
     have D9:L[kk]? =some x:=by rw[←bk,List.getElem?_map,hx];rfl
     have vg:=hl x (List.mem_of_getElem? D9)
     have dc: (bj 0 l)[((kk:Nat):Int).toNat]? =some (.agg [vi x.id,.sl (16000464+16*(0+kk)) gk 0 x.line.length,vi x.left,vi x.right]):=gg hx
     have dL:lk (eo 0 l) (16000464+16*(0+kk))=some ⟨gk,2,true,false,some (x.line.map Pt.v)⟩:=cJ hx
     have jG: ∀y:Edge,y.line.length< 1000→ ∀e ∈ L.set kk y,e.line.length< 1000:=fun y hy e he=>by
       rcases List.mem_or_eq_of_mem_set he with h| rfl
       · exact hl e h
       · exact hy
     have HQ: (bj 0 l).length=L.length:=by rw[dF];exact gS
     rcases dk with rfl
     · (conv => whnf);repeat' ((first| intro g| refine aH.mk _ (dc) ?_| refine ag.mk _ (en) ?_| refine ag.mk _ (ek) ?_| refine ag.mk _ (ec) ?_| refine st ?_| (first| refine b1 ?_ ?_| refine b2 ?_ ?_| refine Br.mk ?_ ?_) <;>intro hc| exact rfl| refine ep (by(repeat' (first| exact aA| assumption| refine(aV (by decide)).trans ?_| refine(aK (by decide)).trans ?_| refine(aB (by decide)).trans ?_))) ?_) <;>conv=>whnf)
       rename_i yK _ _
       have Wp: ∀ (k:Nat) (p:Nat×Edge),l[k]? =some p→p.2.line.length< 1000:=fun k p hp=>
         hl _ (List.mem_of_getElem? (show L[k]? =some p.2 from by rw[←bk,List.getElem?_map,hp];rfl))
       refine ba.by (fun ((i,l'):Nat×List (Nat×Edge))=> ⟨[(8,.sl 145 yK 0 L.length),(11,.sl 193 g 0 F.length),(12,aF nn),(16,aF i)],(145,⟨yK,4,true,false,some (bj 0 l)⟩):: (193,⟨g,5,true,false,some (F.map ar.v)⟩)::eo 0 l'⟩)
         (fun (i,l')=>i≤L.length∧l'.length=L.length∧bj 0 l'=bj 0 l∧ ∀ (k:Nat) (p:Nat×Edge),l'[k]? =some p→p.2.line.length< 1000) (fun (i,_)=>L.length - i) (0,l) ⟨by(repeat' (first| exact True.intro| refine ai ?_| refine And.intro ?_ ?_)),?_⟩ ⟨by simp,gS,rfl,Wp⟩ ?_
       · refine ck ?_ (ck ?_ (fi fun k p hk=> ?_))
         · show lk _ 145=some (⟨yK,4,true,false,some (bj 0 l)⟩:Obj)
           (repeat' (first| exact aA| assumption| refine(aV (by decide)).trans ?_| refine(aK (by decide)).trans ?_| refine(aB (by decide)).trans ?_))
         · show lk _ 193=some (⟨g,5,true,false,some (F.map ar.v)⟩:Obj)
           (repeat' (first| exact aA| assumption| refine(aV (by decide)).trans ?_| refine(aK (by decide)).trans ?_| refine(aB (by decide)).trans ?_))
         · exact fH (by(repeat' (first| refine(aB (by decide)).trans ?_| rfl))) hk
       · clear hx D9 dc dL eu ek
         rintro⟨i,l'⟩ ⟨xP,xd,kE,R1⟩
         try dsimp only at xP xd kE R1
         by_cases PF:i<L.length
         · obtain⟨  ⟨gi,y⟩,hy⟩: ∃p,l'[i]? =some p:=⟨_,aL (by omega)⟩
           have Tk:y.line.length< 1000:=R1 i _ hy
           have Tl: (bj 0 l)[((i:Nat):Int).toNat]? =some (.agg [vi y.id,.sl (16000464+16*(0+i)) gi 0 y.line.length,vi y.left,vi y.right]):=by rw[←kE];exact gg hy
           (conv=>whnf);repeat' ((first| intro g| refine aH.mk _ (Tl) ?_| refine st ?_| (first| refine b1 ?_ ?_| refine b2 ?_ ?_| refine Br.mk ?_ ?_) <;>intro hc| exact rfl| refine ep (by(repeat' (first| exact aA| assumption| refine(aV (by decide)).trans ?_| refine(aK (by decide)).trans ?_| refine(aB (by decide)).trans ?_))) ?_) <;>conv=>whnf)
           refine ba.by (fun ((j,ps):Nat×List Pt)=> ⟨[(8,.sl 145 yK 0 L.length),(11,.sl 193 g 0 F.length),(12,aF nn),(16,aF i),(17,aF j)],(145,⟨yK,4,true,false,some (bj 0 l)⟩):: (193,⟨g,5,true,false,some (F.map ar.v)⟩)::eo 0 (l'.set i (gi,⟨y.id,ps,y.left,y.right⟩))⟩)
             (fun (j,ps)=>j≤y.line.length∧ps.length=y.line.length) (fun (j,_)=>y.line.length - j) (0,y.line) ⟨by(repeat' (first| exact True.intro| refine ai ?_| refine And.intro ?_ ?_)),?_⟩ ⟨by simp,rfl⟩ ?_
           · refine ck ?_ (ck ?_ (fi fun k p hk=> ?_))
             · show lk _ 145=some (⟨yK,4,true,false,some (bj 0 l)⟩:Obj)
               (repeat' (first| exact aA| assumption| refine(aV (by decide)).trans ?_| refine(aK (by decide)).trans ?_| refine(aB (by decide)).trans ?_))
             · show lk _ 193=some (⟨g,5,true,false,some (F.map ar.v)⟩:Obj)
               (repeat' (first| exact aA| assumption| refine(aV (by decide)).trans ?_| refine(aK (by decide)).trans ?_| refine(aB (by decide)).trans ?_))
             · refine fH (l:=l') (by(repeat' (first| refine(aB (by decide)).trans ?_| rfl))) ?_
               rw[List.getElem?_set] at hk
               split at hk
               · rename_i e;subst e
                 split at hk
                 · rw[hy];exact hk
                 · simp at hk
               · exact hk
           · rintro⟨j,ps⟩ ⟨hj,ve⟩
             try dsimp only at hj ve
             have dL:lk (eo 0 (l'.set i (gi,⟨y.id,ps,y.left,y.right⟩))) (16000464+16*(0+i))=some ⟨gi,2,true,false,some (ps.map Pt.v)⟩:=cJ (p:=(gi,⟨y.id,ps,y.left,y.right⟩)) (by simp[xd,PF])
             by_cases Wq:j<y.line.length
             · obtain⟨p,hp⟩: ∃p,ps[j]? =some p:=⟨_,aL (by omega)⟩
               (conv=>whnf);repeat' ((first| intro g| refine aH.mk _ (Tl) ?_| refine aH.mk _ (aC hp rfl) ?_| refine st ?_| (first| refine b1 ?_ ?_| refine b2 ?_ ?_| refine Br.mk ?_ ?_) <;>intro hc| exact rfl| refine ep (by(repeat' (first| exact aA| assumption| refine(aV (by decide)).trans ?_| refine(aK (by decide)).trans ?_| refine(aB (by decide)).trans ?_))) ?_) <;>conv=>whnf)
               refine bc.mk (j+1,ps.set j ⟨p.x,IntKind.i64.wrap (p.y*IntKind.i64.wrap (1+IntKind.i64.wrap ((nn:Int).tmod 2*39)))⟩) (by first| omega| (dsimp only;omega)) ⟨(by first| omega| (dsimp only;omega)),by simp[ve]⟩ ⟨by(repeat' (first| exact True.intro| refine ai ?_| refine And.intro ?_ ?_)),?_⟩
               refine ck ?_ (ck ?_ (fi fun k q hk=> ?_))
               · show lk _ 145=some (⟨yK,4,true,false,some (bj 0 l)⟩:Obj)
                 (repeat' (first| exact aA| assumption| refine(aV (by decide)).trans ?_| refine(aK (by decide)).trans ?_| refine(aB (by decide)).trans ?_))
               · show lk _ 193=some (⟨g,5,true,false,some (F.map ar.v)⟩:Obj)
                 (repeat' (first| exact aA| assumption| refine(aV (by decide)).trans ?_| refine(aK (by decide)).trans ?_| refine(aB (by decide)).trans ?_))
               · by_cases e:k=i
                 · subst e
                   rw[List.getElem?_set_self (by omega)] at hk
                   injection hk with hk;subst hk
                   refine aA.trans ?_
                   simp only[Dg,List.map_set];rfl
                 · refine fH (l:=l'.set i (gi,⟨y.id,ps,y.left,y.right⟩)) (by refine(ml (by omega)).trans ?_; (repeat' (first| refine(aB (by decide)).trans ?_| rfl))) ?_
                   rw[List.getElem?_set_ne (Ne.symm e)] at hk ⊢
                   exact hk
             · obtain rfl:j=y.line.length:=by omega
               (conv=>whnf);repeat' ((first| intro g| refine aH.mk _ (Tl) ?_| refine st ?_| (first| refine b1 ?_ ?_| refine b2 ?_ ?_| refine Br.mk ?_ ?_) <;>intro hc| exact rfl| refine ep (by(repeat' (first| exact aA| assumption| refine(aV (by decide)).trans ?_| refine(aK (by decide)).trans ?_| refine(aB (by decide)).trans ?_))) ?_) <;>conv=>whnf)
               refine bc.mk (i+1,l'.set i (gi,⟨y.id,ps,y.left,y.right⟩)) (by first| omega| (dsimp only;omega)) ⟨(by first| omega| (dsimp only;omega)),by simp[xd],(rP (y:=⟨y.id,ps,y.left,y.right⟩) hy rfl ve rfl rfl).trans kE,fun k q hk=> ?_⟩ ⟨by(repeat' (first| exact True.intro| refine ai ?_| refine And.intro ?_ ?_)),?_⟩
               · by_cases e:k=i
                 · subst e
                   rw[List.getElem?_set_self (by omega)] at hk
                   injection hk with hk;subst hk
                   dsimp only;rw[ve];exact Tk
                 · rw[List.getElem?_set_ne (Ne.symm e)] at hk
                   exact R1 k q hk
               · refine ck ?_ (ck ?_ (fi fun k q hk=> ?_))
                 · show lk _ 145=some (⟨yK,4,true,false,some (bj 0 l)⟩:Obj)
                   (repeat' (first| exact aA| assumption| refine(aV (by decide)).trans ?_| refine(aK (by decide)).trans ?_| refine(aB (by decide)).trans ?_))
                 · show lk _ 193=some (⟨g,5,true,false,some (F.map ar.v)⟩:Obj)
                   (repeat' (first| exact aA| assumption| refine(aV (by decide)).trans ?_| refine(aK (by decide)).trans ?_| refine(aB (by decide)).trans ?_))
                 · exact fH (by(repeat' (first| refine(aB (by decide)).trans ?_| rfl))) hk
         · obtain rfl:i=L.length:=by omega
           (conv=>whnf);repeat' ((first| intro g| refine st ?_| (first| refine b1 ?_ ?_| refine b2 ?_ ?_| refine Br.mk ?_ ?_) <;>intro hc| exact rfl) <;>conv=>whnf)
           refine bW (L:=l'.map (·.2)) (by(repeat' (first| exact aA| assumption| refine(aV (by decide)).trans ?_| refine(aK (by decide)).trans ?_| refine(aB (by decide)).trans ?_))) (by(repeat' (first| exact aA| assumption| refine(aV (by decide)).trans ?_| refine(aK (by decide)).trans ?_| refine(aB (by decide)).trans ?_))) ?_ ?_
           · intro σ ho
             rw[←kE]
             exact gD rfl (fun k q hk=> ⟨false,fH (by(repeat' (first| refine(aB (by decide)).trans ?_| rfl))) hk⟩) σ ho
           · intro r w
             (conv=>whnf);repeat' ((first| intro g| refine aH.mk _ (bz (by first| (simp[xd];done) | fail)) ?_| refine st ?_| (first| refine b1 ?_ ?_| refine b2 ?_ ?_| refine Br.mk ?_ ?_) <;>intro hc| exact rfl) <;>conv=>whnf)
             refine⟨l'.map (·.2),F,by simp;omega,by omega,fun e he=> ?_,rfl⟩
             obtain⟨q,hq,rfl⟩:=List.mem_map.1 he
             obtain⟨k,hk⟩:=List.getElem?_of_mem hq
             exact R1 k q hk
end Go.AM
set_option maxRecDepth 20000
namespace Go.AM
theorem vV {L:List Edge} {F:List ar} (hL:L.length< 1000) (hF:F.length< 1000) (hl: ∀e ∈ L,e.line.length< 1000) (q0 q1 q2:Int):
   ∃res,Ev E 94 [.lit 4 (L.map Edge.v),.lit 5 (F.map ar.v),ll q0 q1 q2] res∧ ∃ (L':List Edge) (F':List ar),L'.length≤L.length+1∧F'.length≤F.length+1∧(∀e ∈ L',e.line.length< 1000)∧res=⟨.tuple [.own 4 (L'.map Edge.v),.own 5 (F'.map ar.v)],[]⟩:=by
 by_cases hn:L.length=0
 · obtain⟨cc,GR,ec⟩:=bo q0 13 (by decide) (by decide)
   by_cases h:cc=0∨cc=1∨cc=2
   · exact BO hL hF hl q0 q1 q2 cc ec h
   · rcases(by omega: (cc=3∨cc=4)∨(cc=5∨cc=6∨cc=7)∨(cc=8∨cc=9∨cc=10)∨cc=11∨cc=12) with h| h| h| h| h
     · exact BQ hL hF hl q0 q1 q2 cc ec h
     · exact BR hL hF hl q0 q1 q2 cc ec h
     · exact BS hL hF hl q0 q1 q2 cc ec h
     · exact BT hL hF hl q0 q1 q2 cc ec h
     · exact BU hL hF hl q0 q1 q2 cc ec h
 · obtain⟨cc,GR,ec⟩:=bo q0 13 (by decide) (by decide)
   rcases(by omega: (cc=0∨cc=1∨cc=2)∨(cc=3∨cc=4)∨(cc=5∨cc=6∨cc=7)∨(cc=8∨cc=9∨cc=10)∨cc=11∨cc=12) with h| h| h| h| h| h
   · exact BO hL hF hl q0 q1 q2 cc ec h
   · exact BQ hL hF hl q0 q1 q2 cc ec h
   · exact BR hL hF hl q0 q1 q2 cc ec h
   · exact BS hL hF hl q0 q1 q2 cc ec h
   · exact BT hL hF hl q0 q1 q2 cc ec h
   · exact BU hL hF hl q0 q1 q2 cc ec h
theorem vU {F:List ar} (hF:F.length< 1000) (q0 q1 q2:Int):
  ∃res,Ev E 94 [.nils,.lit 5 (F.map ar.v),ll q0 q1 q2] res∧res=⟨.tuple [.own 4 [],.own 5 (F.map ar.v)],[]⟩:=by
 refine Ev.cQ Ad (Ae _) rfl ?_
 (conv=>whnf);repeat' ((first| intro g| refine st ?_| (first| refine b1 ?_ ?_| refine b2 ?_ ?_| refine Br.mk ?_ ?_) <;>intro hc| exact rfl| refine jH ?_) <;>conv=>whnf)
 rename_i mi _
 refine ba.by (fun (_:Nat)=> ⟨[(0,.nils),(1,.lit 5 (F.map ar.v)),(5,.ptr 96 mi 0 0),(8,.sl 145 g 0 0),(9,aF 0)],[(96,⟨mi,3,false,false,some [ll q0 q1 q2]⟩),(145,⟨g,4,true,false,some []⟩)]⟩)
  (fun _=>True) (fun _=>0) 0 (by(refine⟨?_,?_⟩ <;>repeat' (first| exact True.intro| refine ai ?_| refine And.intro ?_ ?_))) trivial ?_
 intro _ _
 (conv=>whnf);repeat' ((first| intro g| refine st ?_| (first| refine b1 ?_ ?_| refine b2 ?_ ?_| refine Br.mk ?_ ?_) <;>intro hc| exact rfl) <;>conv=>whnf)
 refine bW (L:=[]) (by(repeat' (first| exact aA| assumption| refine(aV (by decide)).trans ?_| refine(aK (by decide)).trans ?_| refine(aB (by decide)).trans ?_))) (by(repeat' (first| exact aA| assumption| refine(aV (by decide)).trans ?_| refine(aK (by decide)).trans ?_| refine(aB (by decide)).trans ?_))) (fun σ ho=> .nil) ?_
 intro r w
 (conv=>whnf);repeat' ((first| intro g| refine aH.mk _ (bz (by first| (simp;done) | fail)) ?_| refine st ?_| (first| refine b1 ?_ ?_| refine b2 ?_ ?_| refine Br.mk ?_ ?_) <;>intro hc| exact rfl) <;>conv=>whnf)
end Go.AM
set_option maxRecDepth 20000
namespace Go.AM
structure jW (m m':aG):Prop where
 an:m'.an.length≤m.an.length+1
 ah:m'.ah.length≤m.ah.length+1
 ways:m'.ways.length≤m.ways.length+1
 el: ∀e ∈ m'.an,e.line.length< 1000
 wl: ∀w ∈ m'.ways,w.line.length< 1000
 aw:m'.aw.length≤m.aw.length+1∨ ∃ (k:Nat) (f:Nat→Place),k≤82∧(∀i,i< 82→(f i).id=1000+(i:Int))∧m'.aw=m.aw++(List.range k).map f
def aG.vw (m:aG) (a b:Bool):V:= .agg [if a then .lit 4 (m.an.map Edge.v) else .own 4 (m.an.map Edge.v),.own 5 (m.ah.map ar.v),if b then .lit 8 (m.ways.map Way.v) else .own 8 (m.ways.map Way.v),.own 7 (m.aw.map Place.v)]
structure aG.Small (m:aG):Prop where
 an:m.an.length< 900
 ah:m.ah.length< 900
 ways:m.ways.length< 900
 aw:m.aw.length< 900
 el: ∀e ∈ m.an,e.line.length< 1000
 wl: ∀w ∈ m.ways,w.line.length< 1000
section
variable {es es':List Edge} {fs R2:List ar} {ws vf:List Way} {ps Tm:List Place} (h:aG.Small ⟨es,fs,ws,ps⟩)
include h
theorem w5 (h1:es'.length≤es.length+1) (h2:R2.length≤fs.length+1) (h3: ∀e ∈ es',e.line.length< 1000):jW ⟨es,fs,ws,ps⟩ ⟨es',R2,ws,ps⟩:=
 ⟨h1,h2,Nat.le_succ _,h3,h.wl,.inl (Nat.le_succ _)⟩
theorem a8 (h2:R2.length≤fs.length+1):jW ⟨es,fs,ws,ps⟩ ⟨es,R2,ws,ps⟩:=
 ⟨Nat.le_succ _,h2,Nat.le_succ _,fun e he=>h.el e he,h.wl,.inl (Nat.le_succ _)⟩
theorem iQ (h2:vf.length≤ws.length+1) (h3: ∀w ∈ vf,w.line.length< 1000):jW ⟨es,fs,ws,ps⟩ ⟨es,fs,vf,ps⟩:=
 ⟨Nat.le_succ _,Nat.le_succ _,h2,fun e he=>h.el e he,h3,.inl (Nat.le_succ _)⟩
theorem dd (h2:Tm.length≤ps.length+1∨ ∃ (k:Nat) (f:Nat→Place),k≤82∧(∀i,i< 82→(f i).id=1000+(i:Int))∧Tm=ps++(List.range k).map f):jW ⟨es,fs,ws,ps⟩ ⟨es,fs,ws,Tm⟩:=
 ⟨Nat.le_succ _,Nat.le_succ _,Nat.le_succ _,fun e he=>h.el e he,h.wl,h2⟩
theorem nS {n:Nat} {w:Way} (hw:w.line.length< 1000): ∀x ∈ ws.set n w,x.line.length< 1000:=fun x hx=>by
 rcases List.mem_or_eq_of_mem_set hx with hx| rfl
 · exact h.wl x hx
 · exact hw
theorem EI {n m:Nat}: ∀x ∈ ws.take n++ws.drop m,x.line.length< 1000:=fun x hx=>by
 rcases List.mem_append.1 hx with hx| hx
 · exact h.wl x (List.mem_of_mem_take hx)
 · exact h.wl x (List.mem_of_mem_drop hx)
theorem Bx {w:Way} (hw:w.line.length< 1000): ∀x ∈ ws++[w],x.line.length< 1000:=fun x hx=>by
 rcases List.mem_append.1 hx with hx| hx
 · exact h.wl x hx
 · have:x=w:=by simpa using hx
   subst this;exact hw
end
theorem nR {α:Type} {f:α→V} {l:List α} {j:Nat} (hj:j<l.length) {o n:Nat} (ho:o=j) (hn:n=l.length - 1):aO (overwrite (l.map f) o ((l.drop (j+1)).map f)) 0 n=(l.take j++l.drop (j+1)).map f:=by
 subst ho;subst hn
 unfold overwrite
 rw[←List.map_take,←List.map_append]
 exact wY (by simp;omega)
theorem bH {α:Type} {f:α→V} {l:List α} {n m:Nat} (x:α) (hm:m=l.length):aO ((l.map f).set n (f x)) 0 m=(l.set n x).map f:=by
 rw[←List.map_set]
 exact bz (by simp[hm])
theorem kK {α:Type} {f:α→V} {l:List α} {j o n:Nat} (ho:o=j+1) (hn:n=l.length - (j+1)):aO (l.map f) o n=(l.drop (j+1)).map f:=by
 subst ho;subst hn
 unfold aO
 rw[←List.map_drop,List.take_of_length_le (by simp)]
theorem nQ {l ys:List V} {o n:Nat} (ho:o≤l.length) (hn:n=o+ys.length):n≤(overwrite l o ys).length:=by
 subst hn
 unfold overwrite
 simp;omega
def jF (i:Nat):Place:=⟨IntKind.i64.wrap (1000+(i:Int)),IntKind.i64.wrap (90+(i:Int).tmod 3),110,[116,114,101,101],[],1,1⟩
theorem lK (ps:List Place) (i:Nat): (ps++(List.range i).map jF).map Place.v++[Place.v (jF i)]=(ps++(List.range (i+1)).map jF).map Place.v:=by
 rw[List.range_succ];simp
end Go.AM
