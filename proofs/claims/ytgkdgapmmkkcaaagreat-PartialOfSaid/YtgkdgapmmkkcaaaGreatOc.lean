/-
  Texts of the proof, joined by program: SOddCE, SOddCF, SOddC, SOddD. Own work.
-/
import Derived.Test.YtgkdgapmmkkcaaaGreatOa
import Derived.Test.YtgkdgapmmkkcaaaGreatOb
import Derived.KernelRfl
set_option linter.unusedSimpArgs false
set_option linter.unusedVariables false
set_option maxRecDepth 20000
namespace Go.AM
set_option maxHeartbeats 8000000 in
theorem zR {  L:List Edge} {F:List aK} (hL:L.length< 1000) (hF:F.length< 1000) (hl: ∀e ∈ L,e.line.length< 1000) (q0 q1 q2:Int) (cc:Nat) (ec:Ev E 93 [vi q0,vi ((13:Nat):Int)] ⟨aT cc,[]⟩) (c7:cc=11):
   ∃res,Ev E 94 [.lit 4 (L.map Edge.v),.lit 5 (F.map aK.v),kp q0 q1 q2] res∧ ∃ (L':List Edge) (F':List aK),L'.length≤L.length+1∧F'.length≤F.length+1∧(∀e ∈ L',e.line.length< 1000)∧res=⟨.tuple [.own 4 (L'.map Edge.v),.own 5 (F'.map aK.v)],[]⟩:=by
 refine Ev.cQ yy (yz _) rfl ?_
 (conv=>whnf);repeat' ((first| intro g| refine st ?_| (first| refine b1 ?_ ?_| refine b2 ?_ ?_| refine Br.mk ?_ ?_) <;>intro hc| exact rfl| refine jf ?_) <;>conv=>whnf)
 rename_i jw _
 refine ba.by (fun ((i,l,g):Nat×List (Nat×Edge) ×Nat)=> ⟨[(0,.lit 4 (L.map Edge.v)),(1,.lit 5 (F.map aK.v)),(5,.ptr 96 jw 0 0),(8,.sl 145 g 0 i),(9,aT i)],(96,⟨jw,3,false,false,some [kp q0 q1 q2]⟩):: (145,⟨g,4,true,false,some (aZ 0 l)⟩)::dP 0 l⟩)
   (fun (i,l,g)=>i≤L.length∧l.length=i∧l.map (·.2)=L.take i) (fun (i,_)=>L.length - i) (0,[],g) (by(refine⟨?_,?_⟩ <;>repeat' (first| exact True.intro| refine ai ?_| refine And.intro ?_ ?_))) ⟨by simp,by simp,by simp⟩ ?_
 rintro⟨i,l,g⟩ ⟨hi,gS,bA⟩
 try dsimp only at hi gS bA
 by_cases fJ:i<L.length
 · obtain⟨e,he⟩: ∃e,L[i]? =some e:=⟨_,aJ fJ⟩
   have hle:=hl e (List.mem_of_getElem? he)
   have CM: (aZ 0 l).length=i:=by rw[dn];exact gS
   (conv=>whnf);repeat' ((first| (refine Or.inl (dC.mk ⟨rfl,CM,by simp;omega⟩ ?_)) | intro g| refine aL.mk _ (au he rfl) ?_| refine st ?_| (first| refine b1 ?_ ?_| refine b2 ?_ ?_| refine Br.mk ?_ ?_) <;>intro hc| exact rfl| refine dQ (by(repeat' (first| exact av| assumption| refine(aQ (by decide)).trans ?_| refine(aF (by decide)).trans ?_| refine(az (by decide)).trans ?_))) ?_) <;>conv=>whnf)
   rename_i gi _
   have qm:aZ 0 (l++[(gi,e)])=aZ 0 l++[V.agg [vi e.id,.sl (16000464+16*(i:Int).toNat) gi 0 (0+(e.line.map Pt.v).length),vi e.left,vi e.right]]:=by
     rw[gB];simp[tW,gS]
   refine bI.mk (i+1,l++[(gi,e)],g) (by first| omega| (dsimp only;omega)) ⟨by omega,by simp[gS],by rw[List.map_append,bA,eU he];rfl⟩ ⟨by(repeat' (first| exact True.intro| refine ai ?_| refine And.intro ?_ ?_)),?_⟩
   refine b4 ?_ (b4 ?_ (eJ fun k p hk=> ?_))
   · show lk _ 96=some (⟨jw,3,false,false,some [kp q0 q1 q2]⟩:Obj)
     repeat' (first| exact av| refine(aQ (by decide)).trans ?_| refine(aF (by decide)).trans ?_)
   · show lk _ 145=some (⟨g,4,true,false,some (aZ 0 (l++[(gi,e)]))⟩:Obj)
     rw[qm];exact av
   · by_cases Qp:k<i
     · rw[List.getElem?_append_left (by omega)] at hk
       repeat' (first| exact cz hk| refine(az (by decide)).trans ?_| refine(lq (by omega)).trans ?_)
     · obtain rfl:k=i:=by
         have:=(List.getElem?_eq_some_iff.1 hk).1
         simp at this;omega
       obtain rfl:p=(gi,e):=by
         rw[List.getElem?_append_right (by omega)] at hk
         simpa [gS] using hk.symm
       rw[show 16000464+16*(0+k)=16000464+16*((k:Int)).toNat from by simp]
       repeat' (first| exact av| refine(az (by decide)).trans ?_)
 · obtain rfl:i=L.length:=by omega
   rw[List.take_of_length_le (by omega)] at bA
   have dU: ∀ (M:List (Nat×Obj)) (T:List (Nat×V)),(∀k p,l[k]? =some p→lk M (16000464+16*(0+k))=lk (dP 0 l) (16000464+16*(0+k)))→ ∀σ,SS.On ⟨T,M⟩ σ→bk σ.O (aZ 0 l) L:=
     fun M T h=>fS bA fun k p hk=> ⟨false,by rw[h k p hk];exact cz hk⟩
   by_cases hn:L.length=0
   · (conv=>whnf);repeat' ((first| intro g| refine st ?_| (first| refine b1 ?_ ?_| refine b2 ?_ ?_| refine Br.mk ?_ ?_) <;>intro hc| exact rfl) <;>conv=>whnf)
     refine bO (L:=L) (by(repeat' (first| exact av| assumption| refine(aQ (by decide)).trans ?_| refine(aF (by decide)).trans ?_| refine(az (by decide)).trans ?_))) (by(repeat' (first| exact av| assumption| refine(aQ (by decide)).trans ?_| refine(aF (by decide)).trans ?_| refine(az (by decide)).trans ?_))) (dU _ _ fun k p hk=>by(repeat' (first| refine(az (by decide)).trans ?_| rfl))) ?_
     intro r w
     (conv=>whnf);repeat' ((first| intro g| refine aL.mk _ (bl (by simp)) ?_| refine st ?_| (first| refine b1 ?_ ?_| refine b2 ?_ ?_| refine Br.mk ?_ ?_) <;>intro hc| exact rfl) <;>conv=>whnf)
     exact⟨L,F,by omega,by omega,fun e he=>hl e he,rfl⟩
   · obtain⟨ nn,sy,en⟩:=bd q1 40 (by decide) (by decide)
     obtain⟨kk,sA,ek⟩:=bd q2 L.length (by omega) (by omega)
     obtain⟨⟨gk,x⟩,hx⟩: ∃p,l[kk]? =some p:=⟨_,aJ (by omega)⟩
     have BU:L[kk]? =some x:=by rw[←bA,List.getElem?_map,hx];rfl
     have tM:=hl x (List.mem_of_getElem? BU)
     have cR: (aZ 0 l)[((kk:Nat):Int).toNat]? =some (.agg [vi x.id,.sl (16000464+16*(0+kk)) gk 0 x.line.length,vi x.left,vi x.right]):=fE hx
     have dI:lk (dP 0 l) (16000464+16*(0+kk))=some ⟨gk,2,true,false,some (x.line.map Pt.v)⟩:=cz hx
     have je: ∀y:Edge,y.line.length< 1000→ ∀e ∈ L.set kk y,e.line.length< 1000:=fun y hy e he=>by
       rcases List.mem_or_eq_of_mem_set he with h| rfl
       · exact hl e h
       · exact hy
     have FD: (aZ 0 l).length=L.length:=by rw[dn];exact gS
     rcases c7 with rfl
     · obtain⟨k3,VL,Uz⟩:=bG nn 3 (by decide)
       have VL: (nn:Int).tmod 3=k3:=VL
       (conv=>whnf);repeat' ((first| intro g| refine aL.mk _ (cR) ?_| refine ag.mk _ (en) ?_| refine ag.mk _ (ek) ?_| refine ag.mk _ (ec) ?_| refine st ?_| (first| refine b1 ?_ ?_| refine b2 ?_ ?_| refine Br.mk ?_ ?_) <;>intro hc| exact rfl| refine dQ (by(repeat' (first| exact av| assumption| refine(aQ (by decide)).trans ?_| refine(aF (by decide)).trans ?_| refine(az (by decide)).trans ?_))) ?_) <;>conv=>whnf)
       rw[VL]
       rcases(by omega:k3=0∨k3=1∨k3=2) with rfl| rfl| rfl
       all_goals
         (conv=>whnf);repeat' ((first| intro g| refine aL.mk _ (cR) ?_| refine ag.mk _ (en) ?_| refine ag.mk _ (ek) ?_| refine ag.mk _ (ec) ?_| refine st ?_| (first| refine b1 ?_ ?_| refine b2 ?_ ?_| refine Br.mk ?_ ?_) <;>intro hc| exact rfl| refine dQ (by(repeat' (first| exact av| assumption| refine(aQ (by decide)).trans ?_| refine(aF (by decide)).trans ?_| refine(az (by decide)).trans ?_))) ?_) <;>conv=>whnf)
       · refine bO (L:=L++[⟨IntKind.i64.wrap (50+(nn:Int)),[⟨IntKind.i64.wrap (10*(nn:Int)),90⟩,⟨IntKind.i64.wrap (IntKind.i64.wrap (10*(nn:Int))+5),90⟩,⟨IntKind.i64.wrap (10*(nn:Int)),95⟩,⟨IntKind.i64.wrap (10*(nn:Int)),90⟩],21,0⟩]) (by(repeat' (first| exact av| assumption| refine(aQ (by decide)).trans ?_| refine(aF (by decide)).trans ?_| refine(az (by decide)).trans ?_))) (by(repeat' (first| exact av| assumption| refine(aQ (by decide)).trans ?_| refine(aF (by decide)).trans ?_| refine(az (by decide)).trans ?_))) ?_ ?_
         · exact fun σ ho=> (dU _ _ (fun k p hk=>by(repeat' (first| refine(az (by decide)).trans ?_| rfl))) σ ho).append (.cons (.inl rfl) .nil)
         · intro r w
           (conv=>whnf);repeat' ((first| intro g| refine aL.mk _ (bl (by first| (simp[FD];done) | fail)) ?_| refine st ?_| (first| refine b1 ?_ ?_| refine b2 ?_ ?_| refine Br.mk ?_ ?_) <;>intro hc| exact rfl) <;>conv=>whnf)
           refine⟨_,F,by simp,by omega,fun e he=> ?_,rfl⟩
           rcases List.mem_append.1 he with he| he
           · exact hl e he
           · rw[List.mem_singleton] at he
             subst he;simp
       · refine bO (L:=L++[⟨IntKind.i64.wrap (50+(nn:Int)),[⟨IntKind.i64.wrap (10*(nn:Int)),90⟩,⟨IntKind.i64.wrap (IntKind.i64.wrap (10*(nn:Int))+5),90⟩,⟨IntKind.i64.wrap (10*(nn:Int)),95⟩,⟨IntKind.i64.wrap (10*(nn:Int)),90⟩],21,22⟩]) (by(repeat' (first| exact av| assumption| refine(aQ (by decide)).trans ?_| refine(aF (by decide)).trans ?_| refine(az (by decide)).trans ?_))) (by(repeat' (first| exact av| assumption| refine(aQ (by decide)).trans ?_| refine(aF (by decide)).trans ?_| refine(az (by decide)).trans ?_))) ?_ ?_
         · exact fun σ ho=> (dU _ _ (fun k p hk=>by(repeat' (first| refine(az (by decide)).trans ?_| rfl))) σ ho).append (.cons (.inl rfl) .nil)
         · intro r w
           (conv=>whnf);repeat' ((first| intro g| refine aL.mk _ (bl (by first| (simp[FD];done) | fail)) ?_| refine st ?_| (first| refine b1 ?_ ?_| refine b2 ?_ ?_| refine Br.mk ?_ ?_) <;>intro hc| exact rfl) <;>conv=>whnf)
           refine⟨_,F,by simp,by omega,fun e he=> ?_,rfl⟩
           rcases List.mem_append.1 he with he| he
           · exact hl e he
           · rw[List.mem_singleton] at he
             subst he;simp
       · refine bO (L:=L++[⟨IntKind.i64.wrap (50+(nn:Int)),[⟨IntKind.i64.wrap (10*(nn:Int)),90⟩,⟨IntKind.i64.wrap (IntKind.i64.wrap (10*(nn:Int))+5),90⟩,⟨IntKind.i64.wrap (10*(nn:Int)),95⟩,⟨IntKind.i64.wrap (10*(nn:Int)),90⟩],21,28⟩]) (by(repeat' (first| exact av| assumption| refine(aQ (by decide)).trans ?_| refine(aF (by decide)).trans ?_| refine(az (by decide)).trans ?_))) (by(repeat' (first| exact av| assumption| refine(aQ (by decide)).trans ?_| refine(aF (by decide)).trans ?_| refine(az (by decide)).trans ?_))) ?_ ?_
         · exact fun σ ho=> (dU _ _ (fun k p hk=>by(repeat' (first| refine(az (by decide)).trans ?_| rfl))) σ ho).append (.cons (.inl rfl) .nil)
         · intro r w
           (conv=>whnf);repeat' ((first| intro g| refine aL.mk _ (bl (by first| (simp[FD];done) | fail)) ?_| refine st ?_| (first| refine b1 ?_ ?_| refine b2 ?_ ?_| refine Br.mk ?_ ?_) <;>intro hc| exact rfl) <;>conv=>whnf)
           refine⟨_,F,by simp,by omega,fun e he=> ?_,rfl⟩
           rcases List.mem_append.1 he with he| he
           · exact hl e he
           · rw[List.mem_singleton] at he
             subst he;simp
end Go.AM
set_option maxRecDepth 20000
namespace Go.AM
set_option maxHeartbeats 8000000 in
theorem zS {    L:List Edge} {F:List aK} (hL:L.length< 1000) (hF:F.length< 1000) (hl: ∀e ∈ L,e.line.length< 1000) (q0 q1 q2:Int) (cc:Nat) (ec:Ev E 93 [vi q0,vi ((13:Nat):Int)] ⟨aT cc,[]⟩) (c7:cc=12):
   ∃res,Ev E 94 [.lit 4 (L.map Edge.v),.lit 5 (F.map aK.v),kp q0 q1 q2] res∧ ∃ (L':List Edge) (F':List aK),L'.length≤L.length+1∧F'.length≤F.length+1∧(∀e ∈ L',e.line.length< 1000)∧res=⟨.tuple [.own 4 (L'.map Edge.v),.own 5 (F'.map aK.v)],[]⟩:=by
 refine Ev.cQ yy (yz _) rfl ?_
 (conv=>whnf);repeat' ((first| intro g| refine st ?_| (first| refine b1 ?_ ?_| refine b2 ?_ ?_| refine Br.mk ?_ ?_) <;>intro hc| exact rfl| refine jf ?_) <;>conv=>whnf)
 rename_i jw _
 refine ba.by (fun ((i,l,g):Nat×List (Nat×Edge) ×Nat)=> ⟨[(0,.lit 4 (L.map Edge.v)),(1,.lit 5 (F.map aK.v)),(5,.ptr 96 jw 0 0),(8,.sl 145 g 0 i),(9,aT i)],(96,⟨jw,3,false,false,some [kp q0 q1 q2]⟩):: (145,⟨g,4,true,false,some (aZ 0 l)⟩)::dP 0 l⟩)
   (fun (i,l,g)=>i≤L.length∧l.length=i∧l.map (·.2)=L.take i) (fun (i,_)=>L.length - i) (0,[],g) (by(refine⟨?_,?_⟩ <;>repeat' (first| exact True.intro| refine ai ?_| refine And.intro ?_ ?_))) ⟨by simp,by simp,by simp⟩ ?_
 rintro⟨i,l,g⟩ ⟨hi,gS,bA⟩
 try dsimp only at hi gS bA
 by_cases fJ:i<L.length
 · obtain⟨e,he⟩: ∃e,L[i]? =some e:=⟨_,aJ fJ⟩
   have hle:=hl e (List.mem_of_getElem? he)
   have CM: (aZ 0 l).length=i:=by rw[dn];exact gS
   (conv=>whnf);repeat' ((first| (refine Or.inl (dC.mk ⟨rfl,CM,by simp;omega⟩ ?_)) | intro g| refine aL.mk _ (au he rfl) ?_| refine st ?_| (first| refine b1 ?_ ?_| refine b2 ?_ ?_| refine Br.mk ?_ ?_) <;>intro hc| exact rfl| refine dQ (by(repeat' (first| exact av| assumption| refine(aQ (by decide)).trans ?_| refine(aF (by decide)).trans ?_| refine(az (by decide)).trans ?_))) ?_) <;>conv=>whnf)
   rename_i gi _
   have qm:aZ 0 (l++[(gi,e)])=aZ 0 l++[V.agg [vi e.id,.sl (16000464+16*(i:Int).toNat) gi 0 (0+(e.line.map Pt.v).length),vi e.left,vi e.right]]:=by
     rw[gB];simp[tW,gS]
   refine bI.mk (i+1,l++[(gi,e)],g) (by first| omega| (dsimp only;omega)) ⟨by omega,by simp[gS],by rw[List.map_append,bA,eU he];rfl⟩ ⟨by(repeat' (first| exact True.intro| refine ai ?_| refine And.intro ?_ ?_)),?_⟩
   refine b4 ?_ (b4 ?_ (eJ fun k p hk=> ?_))
   · show lk _ 96=some (⟨jw,3,false,false,some [kp q0 q1 q2]⟩:Obj)
     repeat' (first| exact av| refine(aQ (by decide)).trans ?_| refine(aF (by decide)).trans ?_)
   · show lk _ 145=some (⟨g,4,true,false,some (aZ 0 (l++[(gi,e)]))⟩:Obj)
     rw[qm];exact av
   · by_cases Qp:k<i
     · rw[List.getElem?_append_left (by omega)] at hk
       repeat' (first| exact cz hk| refine(az (by decide)).trans ?_| refine(lq (by omega)).trans ?_)
     · obtain rfl:k=i:=by
         have:=(List.getElem?_eq_some_iff.1 hk).1
         simp at this;omega
       obtain rfl:p=(gi,e):=by
         rw[List.getElem?_append_right (by omega)] at hk
         simpa [gS] using hk.symm
       rw[show 16000464+16*(0+k)=16000464+16*((k:Int)).toNat from by simp]
       repeat' (first| exact av| refine(az (by decide)).trans ?_)
 · obtain rfl:i=L.length:=by omega
   rw[List.take_of_length_le (by omega)] at bA
   have dU: ∀ (M:List (Nat×Obj)) (T:List (Nat×V)),(∀k p,l[k]? =some p→lk M (16000464+16*(0+k))=lk (dP 0 l) (16000464+16*(0+k)))→ ∀σ,SS.On ⟨T,M⟩ σ→bk σ.O (aZ 0 l) L:=
     fun M T h=>fS bA fun k p hk=> ⟨false,by rw[h k p hk];exact cz hk⟩
   by_cases hn:L.length=0
   · (conv=>whnf);repeat' ((first| intro g| refine st ?_| (first| refine b1 ?_ ?_| refine b2 ?_ ?_| refine Br.mk ?_ ?_) <;>intro hc| exact rfl) <;>conv=>whnf)
     refine bO (L:=L) (by(repeat' (first| exact av| assumption| refine(aQ (by decide)).trans ?_| refine(aF (by decide)).trans ?_| refine(az (by decide)).trans ?_))) (by(repeat' (first| exact av| assumption| refine(aQ (by decide)).trans ?_| refine(aF (by decide)).trans ?_| refine(az (by decide)).trans ?_))) (dU _ _ fun k p hk=>by(repeat' (first| refine(az (by decide)).trans ?_| rfl))) ?_
     intro r w
     (conv=>whnf);repeat' ((first| intro g| refine aL.mk _ (bl (by simp)) ?_| refine st ?_| (first| refine b1 ?_ ?_| refine b2 ?_ ?_| refine Br.mk ?_ ?_) <;>intro hc| exact rfl) <;>conv=>whnf)
     exact⟨L,F,by omega,by omega,fun e he=>hl e he,rfl⟩
   · obtain⟨ nn,sy,en⟩:=bd q1 40 (by decide) (by decide)
     obtain⟨kk,sA,ek⟩:=bd q2 L.length (by omega) (by omega)
     obtain⟨⟨gk,x⟩,hx⟩: ∃p,l[kk]? =some p:=⟨_,aJ (by omega)⟩
     have BU:L[kk]? =some x:=by rw[←bA,List.getElem?_map,hx];rfl
     have tM:=hl x (List.mem_of_getElem? BU)
     have cR: (aZ 0 l)[((kk:Nat):Int).toNat]? =some (.agg [vi x.id,.sl (16000464+16*(0+kk)) gk 0 x.line.length,vi x.left,vi x.right]):=fE hx
     have dI:lk (dP 0 l) (16000464+16*(0+kk))=some ⟨gk,2,true,false,some (x.line.map Pt.v)⟩:=cz hx
     have je: ∀y:Edge,y.line.length< 1000→ ∀e ∈ L.set kk y,e.line.length< 1000:=fun y hy e he=>by
       rcases List.mem_or_eq_of_mem_set he with h| rfl
       · exact hl e h
       · exact hy
     have FD: (aZ 0 l).length=L.length:=by rw[dn];exact gS
     rcases c7 with rfl
     · (conv => whnf);repeat' ((first| intro g| refine aL.mk _ (cR) ?_| refine ag.mk _ (en) ?_| refine ag.mk _ (ek) ?_| refine ag.mk _ (ec) ?_| refine st ?_| (first| refine b1 ?_ ?_| refine b2 ?_ ?_| refine Br.mk ?_ ?_) <;>intro hc| exact rfl| refine dQ (by(repeat' (first| exact av| assumption| refine(aQ (by decide)).trans ?_| refine(aF (by decide)).trans ?_| refine(az (by decide)).trans ?_))) ?_) <;>conv=>whnf)
       rename_i wP _ _
       have Yx: ∀ (k:Nat) (p:Nat×Edge),l[k]? =some p→p.2.line.length< 1000:=fun k p hp=>
         hl _ (List.mem_of_getElem? (show L[k]? =some p.2 from by rw[←bA,List.getElem?_map,hp];rfl))
       refine ba.by (fun ((i,l'):Nat×List (Nat×Edge))=> ⟨[(8,.sl 145 wP 0 L.length),(11,.sl 193 g 0 F.length),(12,aT nn),(16,aT i)],(145,⟨wP,4,true,false,some (aZ 0 l)⟩):: (193,⟨g,5,true,false,some (F.map aK.v)⟩)::dP 0 l'⟩)
         (fun (i,l')=>i≤L.length∧l'.length=L.length∧aZ 0 l'=aZ 0 l∧ ∀ (k:Nat) (p:Nat×Edge),l'[k]? =some p→p.2.line.length< 1000) (fun (i,_)=>L.length - i) (0,l) ⟨by(repeat' (first| exact True.intro| refine ai ?_| refine And.intro ?_ ?_)),?_⟩ ⟨by simp,gS,rfl,Yx⟩ ?_
       · refine b4 ?_ (b4 ?_ (eJ fun k p hk=> ?_))
         · show lk _ 145=some (⟨wP,4,true,false,some (aZ 0 l)⟩:Obj)
           (repeat' (first| exact av| assumption| refine(aQ (by decide)).trans ?_| refine(aF (by decide)).trans ?_| refine(az (by decide)).trans ?_))
         · show lk _ 193=some (⟨g,5,true,false,some (F.map aK.v)⟩:Obj)
           (repeat' (first| exact av| assumption| refine(aQ (by decide)).trans ?_| refine(aF (by decide)).trans ?_| refine(az (by decide)).trans ?_))
         · exact fi (by(repeat' (first| refine(az (by decide)).trans ?_| rfl))) hk
       · clear hx BU cR dI dU ek
         rintro⟨i,l'⟩ ⟨yc,vB,lr,UC⟩
         try dsimp only at yc vB lr UC
         by_cases Qi:i<L.length
         · obtain⟨  ⟨gi,y⟩,hy⟩: ∃p,l'[i]? =some p:=⟨_,aJ (by omega)⟩
           have VM:y.line.length< 1000:=UC i _ hy
           have VN: (aZ 0 l)[((i:Nat):Int).toNat]? =some (.agg [vi y.id,.sl (16000464+16*(0+i)) gi 0 y.line.length,vi y.left,vi y.right]):=by rw[←lr];exact fE hy
           (conv=>whnf);repeat' ((first| intro g| refine aL.mk _ (VN) ?_| refine st ?_| (first| refine b1 ?_ ?_| refine b2 ?_ ?_| refine Br.mk ?_ ?_) <;>intro hc| exact rfl| refine dQ (by(repeat' (first| exact av| assumption| refine(aQ (by decide)).trans ?_| refine(aF (by decide)).trans ?_| refine(az (by decide)).trans ?_))) ?_) <;>conv=>whnf)
           refine ba.by (fun ((j,ps):Nat×List Pt)=> ⟨[(8,.sl 145 wP 0 L.length),(11,.sl 193 g 0 F.length),(12,aT nn),(16,aT i),(17,aT j)],(145,⟨wP,4,true,false,some (aZ 0 l)⟩):: (193,⟨g,5,true,false,some (F.map aK.v)⟩)::dP 0 (l'.set i (gi,⟨y.id,ps,y.left,y.right⟩))⟩)
             (fun (j,ps)=>j≤y.line.length∧ps.length=y.line.length) (fun (j,_)=>y.line.length - j) (0,y.line) ⟨by(repeat' (first| exact True.intro| refine ai ?_| refine And.intro ?_ ?_)),?_⟩ ⟨by simp,rfl⟩ ?_
           · refine b4 ?_ (b4 ?_ (eJ fun k p hk=> ?_))
             · show lk _ 145=some (⟨wP,4,true,false,some (aZ 0 l)⟩:Obj)
               (repeat' (first| exact av| assumption| refine(aQ (by decide)).trans ?_| refine(aF (by decide)).trans ?_| refine(az (by decide)).trans ?_))
             · show lk _ 193=some (⟨g,5,true,false,some (F.map aK.v)⟩:Obj)
               (repeat' (first| exact av| assumption| refine(aQ (by decide)).trans ?_| refine(aF (by decide)).trans ?_| refine(az (by decide)).trans ?_))
             · refine fi (l:=l') (by(repeat' (first| refine(az (by decide)).trans ?_| rfl))) ?_
               rw[List.getElem?_set] at hk
               split at hk
               · rename_i e;subst e
                 split at hk
                 · rw[hy];exact hk
                 · simp at hk
               · exact hk
           · rintro⟨j,ps⟩ ⟨hj,tK⟩
             try dsimp only at hj tK
             have dI:lk (dP 0 (l'.set i (gi,⟨y.id,ps,y.left,y.right⟩))) (16000464+16*(0+i))=some ⟨gi,2,true,false,some (ps.map Pt.v)⟩:=cz (p:=(gi,⟨y.id,ps,y.left,y.right⟩)) (by simp[vB,Qi])
             by_cases Yy:j<y.line.length
             · obtain⟨p,hp⟩: ∃p,ps[j]? =some p:=⟨_,aJ (by omega)⟩
               (conv=>whnf);repeat' ((first| intro g| refine aL.mk _ (VN) ?_| refine aL.mk _ (au hp rfl) ?_| refine st ?_| (first| refine b1 ?_ ?_| refine b2 ?_ ?_| refine Br.mk ?_ ?_) <;>intro hc| exact rfl| refine dQ (by(repeat' (first| exact av| assumption| refine(aQ (by decide)).trans ?_| refine(aF (by decide)).trans ?_| refine(az (by decide)).trans ?_))) ?_) <;>conv=>whnf)
               refine bI.mk (j+1,ps.set j ⟨p.x,IntKind.i64.wrap (p.y*IntKind.i64.wrap (1+IntKind.i64.wrap ((nn:Int).tmod 2*39)))⟩) (by first| omega| (dsimp only;omega)) ⟨(by first| omega| (dsimp only;omega)),by simp[tK]⟩ ⟨by(repeat' (first| exact True.intro| refine ai ?_| refine And.intro ?_ ?_)),?_⟩
               refine b4 ?_ (b4 ?_ (eJ fun k q hk=> ?_))
               · show lk _ 145=some (⟨wP,4,true,false,some (aZ 0 l)⟩:Obj)
                 (repeat' (first| exact av| assumption| refine(aQ (by decide)).trans ?_| refine(aF (by decide)).trans ?_| refine(az (by decide)).trans ?_))
               · show lk _ 193=some (⟨g,5,true,false,some (F.map aK.v)⟩:Obj)
                 (repeat' (first| exact av| assumption| refine(aQ (by decide)).trans ?_| refine(aF (by decide)).trans ?_| refine(az (by decide)).trans ?_))
               · by_cases e:k=i
                 · subst e
                   rw[List.getElem?_set_self (by omega)] at hk
                   injection hk with hk;subst hk
                   refine av.trans ?_
                   simp only[A6,List.map_set];rfl
                 · refine fi (l:=l'.set i (gi,⟨y.id,ps,y.left,y.right⟩)) (by refine(lq (by omega)).trans ?_; (repeat' (first| refine(az (by decide)).trans ?_| rfl))) ?_
                   rw[List.getElem?_set_ne (Ne.symm e)] at hk ⊢
                   exact hk
             · obtain rfl:j=y.line.length:=by omega
               (conv=>whnf);repeat' ((first| intro g| refine aL.mk _ (VN) ?_| refine st ?_| (first| refine b1 ?_ ?_| refine b2 ?_ ?_| refine Br.mk ?_ ?_) <;>intro hc| exact rfl| refine dQ (by(repeat' (first| exact av| assumption| refine(aQ (by decide)).trans ?_| refine(aF (by decide)).trans ?_| refine(az (by decide)).trans ?_))) ?_) <;>conv=>whnf)
               refine bI.mk (i+1,l'.set i (gi,⟨y.id,ps,y.left,y.right⟩)) (by first| omega| (dsimp only;omega)) ⟨(by first| omega| (dsimp only;omega)),by simp[vB],(qn (y:=⟨y.id,ps,y.left,y.right⟩) hy rfl tK rfl rfl).trans lr,fun k q hk=> ?_⟩ ⟨by(repeat' (first| exact True.intro| refine ai ?_| refine And.intro ?_ ?_)),?_⟩
               · by_cases e:k=i
                 · subst e
                   rw[List.getElem?_set_self (by omega)] at hk
                   injection hk with hk;subst hk
                   dsimp only;rw[tK];exact VM
                 · rw[List.getElem?_set_ne (Ne.symm e)] at hk
                   exact UC k q hk
               · refine b4 ?_ (b4 ?_ (eJ fun k q hk=> ?_))
                 · show lk _ 145=some (⟨wP,4,true,false,some (aZ 0 l)⟩:Obj)
                   (repeat' (first| exact av| assumption| refine(aQ (by decide)).trans ?_| refine(aF (by decide)).trans ?_| refine(az (by decide)).trans ?_))
                 · show lk _ 193=some (⟨g,5,true,false,some (F.map aK.v)⟩:Obj)
                   (repeat' (first| exact av| assumption| refine(aQ (by decide)).trans ?_| refine(aF (by decide)).trans ?_| refine(az (by decide)).trans ?_))
                 · exact fi (by(repeat' (first| refine(az (by decide)).trans ?_| rfl))) hk
         · obtain rfl:i=L.length:=by omega
           (conv=>whnf);repeat' ((first| intro g| refine st ?_| (first| refine b1 ?_ ?_| refine b2 ?_ ?_| refine Br.mk ?_ ?_) <;>intro hc| exact rfl) <;>conv=>whnf)
           refine bO (L:=l'.map (·.2)) (by(repeat' (first| exact av| assumption| refine(aQ (by decide)).trans ?_| refine(aF (by decide)).trans ?_| refine(az (by decide)).trans ?_))) (by(repeat' (first| exact av| assumption| refine(aQ (by decide)).trans ?_| refine(aF (by decide)).trans ?_| refine(az (by decide)).trans ?_))) ?_ ?_
           · intro σ ho
             rw[←lr]
             exact fS rfl (fun k q hk=> ⟨false,fi (by(repeat' (first| refine(az (by decide)).trans ?_| rfl))) hk⟩) σ ho
           · intro r w
             (conv=>whnf);repeat' ((first| intro g| refine aL.mk _ (bl (by first| (simp[vB];done) | fail)) ?_| refine st ?_| (first| refine b1 ?_ ?_| refine b2 ?_ ?_| refine Br.mk ?_ ?_) <;>intro hc| exact rfl) <;>conv=>whnf)
             refine⟨l'.map (·.2),F,by simp;omega,by omega,fun e he=> ?_,rfl⟩
             obtain⟨q,hq,rfl⟩:=List.mem_map.1 he
             obtain⟨k,hk⟩:=List.getElem?_of_mem hq
             exact UC k q hk
end Go.AM
set_option maxRecDepth 20000
namespace Go.AM
theorem uB {L:List Edge} {F:List aK} (hL:L.length< 1000) (hF:F.length< 1000) (hl: ∀e ∈ L,e.line.length< 1000) (q0 q1 q2:Int):
   ∃res,Ev E 94 [.lit 4 (L.map Edge.v),.lit 5 (F.map aK.v),kp q0 q1 q2] res∧ ∃ (L':List Edge) (F':List aK),L'.length≤L.length+1∧F'.length≤F.length+1∧(∀e ∈ L',e.line.length< 1000)∧res=⟨.tuple [.own 4 (L'.map Edge.v),.own 5 (F'.map aK.v)],[]⟩:=by
 by_cases hn:L.length=0
 · obtain⟨cc,Em,ec⟩:=bd q0 13 (by decide) (by decide)
   by_cases h:cc=0∨cc=1∨cc=2
   · exact zN hL hF hl q0 q1 q2 cc ec h
   · rcases(by omega: (cc=3∨cc=4)∨(cc=5∨cc=6∨cc=7)∨(cc=8∨cc=9∨cc=10)∨cc=11∨cc=12) with h| h| h| h| h
     · exact zO hL hF hl q0 q1 q2 cc ec h
     · exact zP hL hF hl q0 q1 q2 cc ec h
     · exact zQ hL hF hl q0 q1 q2 cc ec h
     · exact zR hL hF hl q0 q1 q2 cc ec h
     · exact zS hL hF hl q0 q1 q2 cc ec h
 · obtain⟨cc,Em,ec⟩:=bd q0 13 (by decide) (by decide)
   rcases(by omega: (cc=0∨cc=1∨cc=2)∨(cc=3∨cc=4)∨(cc=5∨cc=6∨cc=7)∨(cc=8∨cc=9∨cc=10)∨cc=11∨cc=12) with h| h| h| h| h| h
   · exact zN hL hF hl q0 q1 q2 cc ec h
   · exact zO hL hF hl q0 q1 q2 cc ec h
   · exact zP hL hF hl q0 q1 q2 cc ec h
   · exact zQ hL hF hl q0 q1 q2 cc ec h
   · exact zR hL hF hl q0 q1 q2 cc ec h
   · exact zS hL hF hl q0 q1 q2 cc ec h
theorem uA {F:List aK} (hF:F.length< 1000) (q0 q1 q2:Int):
  ∃res,Ev E 94 [.nils,.lit 5 (F.map aK.v),kp q0 q1 q2] res∧res=⟨.tuple [.own 4 [],.own 5 (F.map aK.v)],[]⟩:=by
 refine Ev.cQ yy (yz _) rfl ?_
 (conv=>whnf);repeat' ((first| intro g| refine st ?_| (first| refine b1 ?_ ?_| refine b2 ?_ ?_| refine Br.mk ?_ ?_) <;>intro hc| exact rfl| refine jf ?_) <;>conv=>whnf)
 rename_i jw _
 refine ba.by (fun (_:Nat)=> ⟨[(0,.nils),(1,.lit 5 (F.map aK.v)),(5,.ptr 96 jw 0 0),(8,.sl 145 g 0 0),(9,aT 0)],[(96,⟨jw,3,false,false,some [kp q0 q1 q2]⟩),(145,⟨g,4,true,false,some []⟩)]⟩)
  (fun _=>True) (fun _=>0) 0 (by(refine⟨?_,?_⟩ <;>repeat' (first| exact True.intro| refine ai ?_| refine And.intro ?_ ?_))) trivial ?_
 intro _ _
 (conv=>whnf);repeat' ((first| intro g| refine st ?_| (first| refine b1 ?_ ?_| refine b2 ?_ ?_| refine Br.mk ?_ ?_) <;>intro hc| exact rfl) <;>conv=>whnf)
 refine bO (L:=[]) (by(repeat' (first| exact av| assumption| refine(aQ (by decide)).trans ?_| refine(aF (by decide)).trans ?_| refine(az (by decide)).trans ?_))) (by(repeat' (first| exact av| assumption| refine(aQ (by decide)).trans ?_| refine(aF (by decide)).trans ?_| refine(az (by decide)).trans ?_))) (fun σ ho=> .nil) ?_
 intro r w
 (conv=>whnf);repeat' ((first| intro g| refine aL.mk _ (bl (by first| (simp;done) | fail)) ?_| refine st ?_| (first| refine b1 ?_ ?_| refine b2 ?_ ?_| refine Br.mk ?_ ?_) <;>intro hc| exact rfl) <;>conv=>whnf)
end Go.AM
set_option maxRecDepth 20000
namespace Go.AM
structure jx (m m':br):Prop where
 bZ:m'.bZ.length≤m.bZ.length+1
 bp:m'.bp.length≤m.bp.length+1
 ways:m'.ways.length≤m.ways.length+1
 el: ∀e ∈ m'.bZ,e.line.length< 1000
 wl: ∀w ∈ m'.ways,w.line.length< 1000
 aW:m'.aW.length≤m.aW.length+1∨ ∃ (k:Nat) (f:Nat→Place),k≤82∧(∀i,i< 82→(f i).id=1000+(i:Int))∧m'.aW=m.aW++(List.range k).map f
def br.vw (m:br) (a b:Bool):V:= .agg [if a then .lit 4 (m.bZ.map Edge.v) else .own 4 (m.bZ.map Edge.v),.own 5 (m.bp.map aK.v),if b then .lit 8 (m.ways.map Way.v) else .own 8 (m.ways.map Way.v),.own 7 (m.aW.map Place.v)]
structure br.Small (m:br):Prop where
 bZ:m.bZ.length< 900
 bp:m.bp.length< 900
 ways:m.ways.length< 900
 aW:m.aW.length< 900
 el: ∀e ∈ m.bZ,e.line.length< 1000
 wl: ∀w ∈ m.ways,w.line.length< 1000
section
variable {es es':List Edge} {fs UD:List aK} {ws tL:List Way} {ps VO:List Place} (h:br.Small ⟨es,fs,ws,ps⟩)
include h
theorem vy (h1:es'.length≤es.length+1) (h2:UD.length≤fs.length+1) (h3: ∀e ∈ es',e.line.length< 1000):jx ⟨es,fs,ws,ps⟩ ⟨es',UD,ws,ps⟩:=
 ⟨h1,h2,Nat.le_succ _,h3,h.wl,.inl (Nat.le_succ _)⟩
theorem aV (h2:UD.length≤fs.length+1):jx ⟨es,fs,ws,ps⟩ ⟨es,UD,ws,ps⟩:=
 ⟨Nat.le_succ _,h2,Nat.le_succ _,fun e he=>h.el e he,h.wl,.inl (Nat.le_succ _)⟩
theorem iu (h2:tL.length≤ws.length+1) (h3: ∀w ∈ tL,w.line.length< 1000):jx ⟨es,fs,ws,ps⟩ ⟨es,fs,tL,ps⟩:=
 ⟨Nat.le_succ _,Nat.le_succ _,h2,fun e he=>h.el e he,h3,.inl (Nat.le_succ _)⟩
theorem cS (h2:VO.length≤ps.length+1∨ ∃ (k:Nat) (f:Nat→Place),k≤82∧(∀i,i< 82→(f i).id=1000+(i:Int))∧VO=ps++(List.range k).map f):jx ⟨es,fs,ws,ps⟩ ⟨es,fs,ws,VO⟩:=
 ⟨Nat.le_succ _,Nat.le_succ _,Nat.le_succ _,fun e he=>h.el e he,h.wl,h2⟩
theorem mV {n:Nat} {w:Way} (hw:w.line.length< 1000): ∀x ∈ ws.set n w,x.line.length< 1000:=fun x hx=>by
 rcases List.mem_or_eq_of_mem_set hx with hx| rfl
 · exact h.wl x hx
 · exact hw
theorem Cr {n m:Nat}: ∀x ∈ ws.take n++ws.drop m,x.line.length< 1000:=fun x hx=>by
 rcases List.mem_append.1 hx with hx| hx
 · exact h.wl x (List.mem_of_mem_take hx)
 · exact h.wl x (List.mem_of_mem_drop hx)
theorem zC {w:Way} (hw:w.line.length< 1000): ∀x ∈ ws++[w],x.line.length< 1000:=fun x hx=>by
 rcases List.mem_append.1 hx with hx| hx
 · exact h.wl x hx
 · have:x=w:=by simpa using hx
   subst this;exact hw
end
theorem mU {α:Type} {f:α→V} {l:List α} {j:Nat} (hj:j<l.length) {o n:Nat} (ho:o=j) (hn:n=l.length - 1):aH (overwrite (l.map f) o ((l.drop (j+1)).map f)) 0 n=(l.take j++l.drop (j+1)).map f:=by
 subst ho;subst hn
 unfold overwrite
 rw[←List.map_take,←List.map_append]
 exact vu (by simp;omega)
theorem bB {α:Type} {f:α→V} {l:List α} {n m:Nat} (x:α) (hm:m=l.length):aH ((l.map f).set n (f x)) 0 m=(l.set n x).map f:=by
 rw[←List.map_set]
 exact bl (by simp[hm])
theorem j5 {α:Type} {f:α→V} {l:List α} {j o n:Nat} (ho:o=j+1) (hn:n=l.length - (j+1)):aH (l.map f) o n=(l.drop (j+1)).map f:=by
 subst ho;subst hn
 unfold aH
 rw[←List.map_drop,List.take_of_length_le (by simp)]
theorem mT {l ys:List V} {o n:Nat} (ho:o≤l.length) (hn:n=o+ys.length):n≤(overwrite l o ys).length:=by
 subst hn
 unfold overwrite
 simp;omega
def jd (i:Nat):Place:=⟨IntKind.i64.wrap (1000+(i:Int)),IntKind.i64.wrap (90+(i:Int).tmod 3),110,[116,114,101,101],[],1,1⟩
theorem kK (ps:List Place) (i:Nat): (ps++(List.range i).map jd).map Place.v++[Place.v (jd i)]=(ps++(List.range (i+1)).map jd).map Place.v:=by
 rw[List.range_succ];simp
end Go.AM
