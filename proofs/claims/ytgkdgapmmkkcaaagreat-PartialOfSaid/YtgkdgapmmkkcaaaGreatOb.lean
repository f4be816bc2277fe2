/-
  Texts of the proof, joined by program: SOddCC, SOddCD. Own work.
-/
import Derived.Test.YtgkdgapmmkkcaaaGreatOa
import Derived.KernelRfl
set_option linter.unusedSimpArgs false
set_option linter.unusedVariables false
set_option maxRecDepth 20000
namespace Go.AM
set_option maxHeartbeats 8000000 in
theorem zP {L:List Edge} {F:List aK} (hL:L.length< 1000) (hF:F.length< 1000) (hl: ∀e ∈ L,e.line.length< 1000) (q0 q1 q2:Int) (cc:Nat) (ec:Ev E 93 [vi q0,vi ((13:Nat):Int)] ⟨aT cc,[]⟩) (c7:cc=5∨cc=6∨cc=7):
   ∃res,Ev E 94 [.lit 4 (L.map Edge.v),.lit 5 (F.map aK.v),kp q0 q1 q2] res∧ ∃ (L':List Edge) (F':List aK),L'.length≤L.length+1∧F'.length≤F.length+1∧(∀e ∈ L',e.line.length< 1000)∧res=⟨.tuple [.own 4 (L'.map Edge.v),.own 5 (F'.map aK.v)],[]⟩:=by
 refine Ev.cQ yy (yz _) rfl ?_
 (conv=>whnf);repeat' ((first| intro g| refine st ?_| (first| refine b1 ?_ ?_| refine b2 ?_ ?_| refine Br.mk ?_ ?_) <;>intro hc| exact rfl| refine jf ?_) <;>conv=>whnf)
 rename_i jw _
 refine ba.by (fun ((i,l,g):Nat×List (Nat×Edge) ×Nat)=> ⟨[(0,.lit 4 (L.map Edge.v)),(1,.lit 5 (F.map aK.v)),(5,.ptr 96 jw 0 0),(8,.sl 145 g 0 i),(9,aT i)],(96,⟨jw,3,false,false,some [kp q0 q1 q2]⟩):: (145,⟨g,4,true,false,some (aZ 0 l)⟩)::dP 0 l⟩)
   (fun (i,l,g)=>i≤L.length∧l.length=i∧l.map (·.2)=L.take i) (fun (i,_)=>L.length - i) (0,[],g) (by(refine⟨?_,?_⟩ <;>repeat' (first| exact True.intro| refine ai ?_| refine And.intro ?_ ?_))) ⟨by simp,by simp,by simp⟩ ?_
 rintro⟨i,l,g⟩ ⟨hi,gS,bA⟩
 try dsimp only at hi gS bA
 by_cases fJ:i<L.length
 · obtain⟨e,he⟩: ∃e,L[i]? =some e:=⟨_,aJ fJ⟩
   have hle:=hl e (List.mem_of_getElem? he)
   have CM: (aZ 0 l).length=i:=by rw[dn];exact gS
   (conv=>whnf);repeat' ((first| (refine Or.inl (dC.mk ⟨rfl,CM,by simp;omega⟩ ?_)) | intro g| refine aL.mk _ (au he rfl) ?_| refine st ?_| (first| refine b1 ?_ ?_| refine b2 ?_ ?_| refine Br.mk ?_ ?_) <;>intro hc| exact rfl| refine dQ (by(repeat' (first| exact av| assumption| refine(aQ (by decide)).trans ?_| refine(aF (by decide)).trans ?_| refine(az (by decide)).trans ?_))) ?_) <;>conv=>whnf)
   rename_i gi _
   have qm:aZ 0 (l++[(gi,e)])=aZ 0 l++[V.agg [vi e.id,.sl (16000464+16*(i:Int).toNat) gi 0 (0+(e.line.map Pt.v).length),vi e.left,vi e.right]]:=by
     rw[gB];simp[tW,gS]
   refine bI.mk (i+1,l++[(gi,e)],g) (by first| omega| (dsimp only;omega)) ⟨by omega,by simp[gS],by rw[List.map_append,bA,eU he];rfl⟩ ⟨by(repeat' (first| exact True.intro| refine ai ?_| refine And.intro ?_ ?_)),?_⟩
   refine b4 ?_ (b4 ?_ (eJ fun k p hk=> ?_))
   · show lk _ 96=some (⟨jw,3,false,false,some [kp q0 q1 q2]⟩:Obj)
     repeat' (first| exact av| refine(aQ (by decide)).trans ?_| refine(aF (by decide)).trans ?_)
   · show lk _ 145=some (⟨g,4,true,false,some (aZ 0 (l++[(gi,e)]))⟩:Obj)
     rw[qm];exact av
   · by_cases Qp:k<i
     · rw[List.getElem?_append_left (by omega)] at hk
       repeat' (first| exact cz hk| refine(az (by decide)).trans ?_| refine(lq (by omega)).trans ?_)
     · obtain rfl:k=i:=by
         have:=(List.getElem?_eq_some_iff.1 hk).1
         simp at this;omega
       obtain rfl:p=(gi,e):=by
         rw[List.getElem?_append_right (by omega)] at hk
         simpa [gS] using hk.symm
       rw[show 16000464+16*(0+k)=16000464+16*((k:Int)).toNat from by simp]
       repeat' (first| exact av| refine(az (by decide)).trans ?_)
 · obtain rfl:i=L.length:=by omega
   rw[List.take_of_length_le (by omega)] at bA
   have dU: ∀ (M:List (Nat×Obj)) (T:List (Nat×V)),(∀k p,l[k]? =some p→lk M (16000464+16*(0+k))=lk (dP 0 l) (16000464+16*(0+k)))→ ∀σ,SS.On ⟨T,M⟩ σ→bk σ.O (aZ 0 l) L:=
     fun M T h=>fS bA fun k p hk=> ⟨false,by rw[h k p hk];exact cz hk⟩
   by_cases hn:L.length=0
   · (conv=>whnf);repeat' ((first| intro g| refine st ?_| (first| refine b1 ?_ ?_| refine b2 ?_ ?_| refine Br.mk ?_ ?_) <;>intro hc| exact rfl) <;>conv=>whnf)
     refine bO (L:=L) (by(repeat' (first| exact av| assumption| refine(aQ (by decide)).trans ?_| refine(aF (by decide)).trans ?_| refine(az (by decide)).trans ?_))) (by(repeat' (first| exact av| assumption| refine(aQ (by decide)).trans ?_| refine(aF (by decide)).trans ?_| refine(az (by decide)).trans ?_))) (dU _ _ fun k p hk=>by(repeat' (first| refine(az (by decide)).trans ?_| rfl))) ?_
     intro r w
     (conv=>whnf);repeat' ((first| intro g| refine aL.mk _ (bl (by simp)) ?_| refine st ?_| (first| refine b1 ?_ ?_| refine b2 ?_ ?_| refine Br.mk ?_ ?_) <;>intro hc| exact rfl) <;>conv=>whnf)
     exact⟨L,F,by omega,by omega,fun e he=>hl e he,rfl⟩
   · obtain⟨nn,sy,en⟩:=bd q1 40 (by decide) (by decide)
     obtain⟨kk,sA,ek⟩:=bd q2 L.length (by omega) (by omega)
     obtain⟨⟨gk,x⟩,hx⟩: ∃p,l[kk]? =some p:=⟨_,aJ (by omega)⟩
     have BU:L[kk]? =some x:=by rw[←bA,List.getElem?_map,hx];rfl
     have tM:=hl x (List.mem_of_getElem? BU)
     have cR: (aZ 0 l)[((kk:Nat):Int).toNat]? =some (.agg [vi x.id,.sl (16000464+16*(0+kk)) gk 0 x.line.length,vi x.left,vi x.right]):=fE hx
     have dI:lk (dP 0 l) (16000464+16*(0+kk))=some ⟨gk,2,true,false,some (x.line.map Pt.v)⟩:=cz hx
     have je: ∀y:Edge,y.line.length< 1000→ ∀e ∈ L.set kk y,e.line.length< 1000:=fun y hy e he=>by
       rcases List.mem_or_eq_of_mem_set he with h| rfl
       · exact hl e h
       · exact hy
     have FD: (aZ 0 l).length=L.length:=by rw[dn];exact gS
     rcases c7 with rfl| rfl| rfl
     · rcases Nat.eq_zero_or_pos x.line.length with h0| VI
       · (conv=>whnf);repeat' ((first| intro g| refine aL.mk _ (cR) ?_| refine ag.mk _ (en) ?_| refine ag.mk _ (ek) ?_| refine ag.mk _ (ec) ?_| refine st ?_| (first| refine b1 ?_ ?_| refine b2 ?_ ?_| refine Br.mk ?_ ?_) <;>intro hc| exact rfl| refine dQ (by(repeat' (first| exact av| assumption| refine(aQ (by decide)).trans ?_| refine(aF (by decide)).trans ?_| refine(az (by decide)).trans ?_))) ?_) <;>conv=>whnf)
         refine bO (L:=L) (by(repeat' (first| exact av| assumption| refine(aQ (by decide)).trans ?_| refine(aF (by decide)).trans ?_| refine(az (by decide)).trans ?_))) (by(repeat' (first| exact av| assumption| refine(aQ (by decide)).trans ?_| refine(aF (by decide)).trans ?_| refine(az (by decide)).trans ?_))) (dU _ _ fun k p hk=>by(repeat' (first| refine(az (by decide)).trans ?_| rfl))) ?_
         intro r w
         (conv=>whnf);repeat' ((first| intro g| refine aL.mk _ (bl (by simp)) ?_| refine st ?_| (first| refine b1 ?_ ?_| refine b2 ?_ ?_| refine Br.mk ?_ ?_) <;>intro hc| exact rfl) <;>conv=>whnf)
         exact⟨L,F,by omega,by omega,fun e he=>hl e he,rfl⟩
       obtain⟨jj,dg,bM⟩:=bG nn x.line.length VI
       obtain⟨p,hp⟩: ∃p,x.line[jj]? =some p:=⟨_,aJ bM⟩
       have VJ: (x.line.map Pt.v)[((nn:Int).tmod (x.line.length:Int)).toNat]? =some (Pt.v p):=au hp dg
       have Ej: ((nn:Int).tmod (x.line.length:Int)).toNat=jj:=by rw[dg];rfl
       (conv=>whnf);repeat' ((first| intro g| refine aL.mk _ (cR) ?_| refine aL.mk _ (VJ) ?_| refine ag.mk _ (en) ?_| refine ag.mk _ (ek) ?_| refine ag.mk _ (ec) ?_| refine st ?_| (first| refine b1 ?_ ?_| refine b2 ?_ ?_| refine Br.mk ?_ ?_) <;>intro hc| exact rfl| refine dQ (by(repeat' (first| exact av| assumption| refine(aQ (by decide)).trans ?_| refine(aF (by decide)).trans ?_| refine(az (by decide)).trans ?_))) ?_) <;>conv=>whnf)
       refine bO (L:=L.set kk ⟨x.id,x.line.set jj ⟨IntKind.i64.wrap (16384+(nn:Int).tmod 2),nn⟩,x.left,x.right⟩) (by(repeat' (first| exact av| assumption| refine(aQ (by decide)).trans ?_| refine(aF (by decide)).trans ?_| refine(az (by decide)).trans ?_))) (by(repeat' (first| exact av| assumption| refine(aQ (by decide)).trans ?_| refine(aF (by decide)).trans ?_| refine(az (by decide)).trans ?_))) ?_ ?_
       · refine wN (gk:=gk) (x:=x) (z:=false) bA hx rfl (by simp) rfl rfl ?_ fun k q c9 hk=>fi (by refine(lq (by omega)).trans ?_; (repeat' (first| refine(az (by decide)).trans ?_| rfl))) hk
         rw[Ej]
         simp only[List.map_set]
         exact av
       · intro r w
         (conv=>whnf);repeat' ((first| intro g| refine aL.mk _ (bl (by simp)) ?_| refine st ?_| (first| refine b1 ?_ ?_| refine b2 ?_ ?_| refine Br.mk ?_ ?_) <;>intro hc| exact rfl) <;>conv=>whnf)
         exact⟨_,F,by simp,by omega,(by exact je _ (by simp;exact tM)),rfl⟩
     · (conv=>whnf);repeat' ((first| intro g| refine aL.mk _ (cR) ?_| refine aL.mk _ (sH (k:=nn) (by first| (split<;>omega) | fail)) ?_| refine ag.mk _ (en) ?_| refine ag.mk _ (ek) ?_| refine ag.mk _ (ec) ?_| refine st ?_| (first| refine b1 ?_ ?_| refine b2 ?_ ?_| refine Br.mk ?_ ?_) <;>intro hc| exact rfl| refine dQ (by(repeat' (first| exact av| assumption| refine(aQ (by decide)).trans ?_| refine(aF (by decide)).trans ?_| refine(az (by decide)).trans ?_))) ?_) <;>conv=>whnf)
       refine bO (L:=L.set kk ⟨x.id,x.line.take nn,x.left,x.right⟩) (by(repeat' (first| exact av| assumption| refine(aQ (by decide)).trans ?_| refine(aF (by decide)).trans ?_| refine(az (by decide)).trans ?_))) (by(repeat' (first| exact av| assumption| refine(aQ (by decide)).trans ?_| refine(aF (by decide)).trans ?_| refine(az (by decide)).trans ?_))) ?_ ?_
       · refine fun σ ho=>bk.set kk (fS bA (fun k q hk=> ?_) σ ho) (.inl rfl)
         by_cases e:k=kk
         · subst e
           rw[hx] at hk;injection hk with hk;subst hk
           exact⟨true,by(repeat' (first| exact av| assumption| refine(aQ (by decide)).trans ?_| refine(aF (by decide)).trans ?_| refine(az (by decide)).trans ?_))⟩
         · exact⟨false,fi (by refine(az (by decide)).trans ?_;refine(lq (by omega)).trans ?_; (repeat' (first| refine(az (by decide)).trans ?_| rfl))) hk⟩
       · intro r w
         (conv=>whnf);repeat' ((first| intro g| refine aL.mk _ (bl (by simp)) ?_| refine st ?_| (first| refine b1 ?_ ?_| refine b2 ?_ ?_| refine Br.mk ?_ ?_) <;>intro hc| exact rfl) <;>conv=>whnf)
         exact⟨_,F,by simp,by omega,(by exact je _ (by simp;omega)),rfl⟩
     · have hw:IntKind.i64.wrap ((kk:Int)+1)=((kk+1:Nat):Int):=(wrap64 (by omega) (by omega)).trans (by omega)
       have KP:aH (aZ 0 l) (0+(IntKind.i64.wrap ((kk:Int)+1)).toNat) (L.length - (IntKind.i64.wrap ((kk:Int)+1)).toNat)=(aZ 0 l).drop (kk+1):=by
         rw[hw]
         unfold aH
         rw[Int.toNat_natCast,Nat.zero_add,List.take_of_length_le (by simp;omega)]
       have Yw: ((aZ 0 l).drop (kk+1)).length=L.length - (kk+1):=by simp[FD]
       have hWb: ((aZ 0 l).drop (kk+1)).all (aN · 4)=true:=wO _ _
       (conv=>whnf);repeat' ((first| intro g| refine aL.mk _ (cR) ?_| refine aL.mk _ (KP) ?_| refine ag.mk _ (en) ?_| refine ag.mk _ (ek) ?_| refine ag.mk _ (ec) ?_| refine st ?_| (first| refine b1 ?_ ?_| refine b2 ?_ ?_| refine Br.mk ?_ ?_) <;>intro hc| exact rfl| refine dQ (by(repeat' (first| exact av| assumption| refine(aQ (by decide)).trans ?_| refine(aF (by decide)).trans ?_| refine(az (by decide)).trans ?_))) ?_) <;>conv=>whnf)
       have VK:aH ((L.take kk++L.drop (kk+1)++L.drop (kk+((aZ 0 l).drop (kk+1)).length)).map Edge.v) (0+0) ((kk:Int).toNat - 0+((aZ 0 l).drop (kk+1)).length)=(L.take kk++L.drop (kk+1)).map Edge.v:=by
         rw[List.map_append]
         exact vu (by rw[Yw,List.length_append,List.length_take,List.length_drop,Int.toNat_natCast];omega)
       refine bO (L:=L.take kk++L.drop (kk+1)++L.drop (kk+((aZ 0 l).drop (kk+1)).length)) (by(repeat' (first| exact av| assumption| refine(aQ (by decide)).trans ?_| refine(aF (by decide)).trans ?_| refine(az (by decide)).trans ?_))) (by(repeat' (first| exact av| assumption| refine(aQ (by decide)).trans ?_| refine(aF (by decide)).trans ?_| refine(az (by decide)).trans ?_))) ?_ ?_
       · intro σ ho
         have h:=dU _ _ (fun k p hk=>by(repeat' (first| refine(az (by decide)).trans ?_| rfl))) σ ho
         rw[show 0+0+((kk:Int).toNat - 0)=kk from by simp]
         exact((h.take kk).append (h.drop (kk+1))).append (h.drop _)
       · intro r w
         (conv=>whnf);repeat' ((first| intro g| refine aL.mk _ (VK) ?_| refine aL.mk _ (bl (by first| (simp;done) | fail)) ?_| refine st ?_| (first| refine b1 ?_ ?_| refine b2 ?_ ?_| refine Br.mk ?_ ?_) <;>intro hc| exact rfl) <;>conv=>whnf)
         refine⟨L.take kk++L.drop (kk+1),F,by simp;omega,by omega,fun e he=> ?_,rfl⟩
         rcases List.mem_append.1 he with he| he
         · exact hl e (List.mem_of_mem_take he)
         · exact hl e (List.mem_of_mem_drop he)
end Go.AM
set_option maxRecDepth 20000
namespace Go.AM
set_option maxHeartbeats 1000000 in
theorem yG (e:Edge) (h0:e.line=[]): ∃e':Edge,e'.line=[]∧Ev E 131 [e.v] ⟨.agg [vi e'.id,.lit 2 [],vi e'.left,vi e'.right],[]⟩:=by
 obtain⟨id,ln,lf,rt⟩:=e
 dsimp only at h0
 subst h0
 refine⟨⟨id,[],rt,lf⟩,rfl,?_⟩
 have e1:IntKind.i64.wrap (((0:Nat):Int) - 1)= -1:=by decide
 have e2:IntKind.i64.wrap ((0:Int) - 1)= -1:=by decide
 refine Ev.cY Gw (Gx _) rfl ?_
 (conv=>whnf);repeat' ((first| intro g| refine st ?_| (first| refine b1 ?_ ?_| refine b2 ?_ ?_| refine Br.mk ?_ ?_) <;>intro hc| exact rfl) <;>conv=>whnf)
 rename_i g1 g2
 refine ba.by (fun (_:Unit)=> ⟨[(1,.ptr 32 g1 0 0),(2,.ptr 48 g2 0 0),(3,.ptr 64 g 0 0),(4,vi (-1))],
   [(32,⟨g1,4,false,false,some [(Edge.mk id [] lf rt).v]⟩),(48,⟨g2,4,false,false,some [.agg [vi 0,.lit 2 [],vi 0,vi 0]]⟩),(64,⟨g,4,false,false,some [.agg [vi id,.nils,vi rt,vi lf]]⟩)]⟩)
  (fun _=>True) (fun _=>0) () ?_ trivial ?_
 · (refine⟨?_,?_⟩ <;>repeat' (first| exact True.intro| refine ai ?_| refine And.intro ?_ ?_))
 rintro⟨⟩ _
 (conv=>whnf);repeat' ((first| intro g| refine st ?_| (first| refine b1 ?_ ?_| refine b2 ?_ ?_| refine Br.mk ?_ ?_) <;>intro hc| exact rfl) <;>conv=>whnf)
set_option maxHeartbeats 8000000 in
theorem zQ {  L:List Edge} {F:List aK} (hL:L.length< 1000) (hF:F.length< 1000) (hl: ∀e ∈ L,e.line.length< 1000) (q0 q1 q2:Int) (cc:Nat) (ec:Ev E 93 [vi q0,vi ((13:Nat):Int)] ⟨aT cc,[]⟩) (c7:cc=8∨cc=9∨cc=10):
   ∃res,Ev E 94 [.lit 4 (L.map Edge.v),.lit 5 (F.map aK.v),kp q0 q1 q2] res∧ ∃ (L':List Edge) (F':List aK),L'.length≤L.length+1∧F'.length≤F.length+1∧(∀e ∈ L',e.line.length< 1000)∧res=⟨.tuple [.own 4 (L'.map Edge.v),.own 5 (F'.map aK.v)],[]⟩:=by
 refine Ev.cQ yy (yz _) rfl ?_
 (conv=>whnf);repeat' ((first| intro g| refine st ?_| (first| refine b1 ?_ ?_| refine b2 ?_ ?_| refine Br.mk ?_ ?_) <;>intro hc| exact rfl| refine jf ?_) <;>conv=>whnf)
 rename_i jw _
 refine ba.by (fun ((i,l,g):Nat×List (Nat×Edge) ×Nat)=> ⟨[(0,.lit 4 (L.map Edge.v)),(1,.lit 5 (F.map aK.v)),(5,.ptr 96 jw 0 0),(8,.sl 145 g 0 i),(9,aT i)],(96,⟨jw,3,false,false,some [kp q0 q1 q2]⟩):: (145,⟨g,4,true,false,some (aZ 0 l)⟩)::dP 0 l⟩)
   (fun (i,l,g)=>i≤L.length∧l.length=i∧l.map (·.2)=L.take i) (fun (i,_)=>L.length - i) (0,[],g) (by(refine⟨?_,?_⟩ <;>repeat' (first| exact True.intro| refine ai ?_| refine And.intro ?_ ?_))) ⟨by simp,by simp,by simp⟩ ?_
 rintro⟨i,l,g⟩ ⟨hi,gS,bA⟩
 try dsimp only at hi gS bA
 by_cases fJ:i<L.length
 · obtain⟨e,he⟩: ∃e,L[i]? =some e:=⟨_,aJ fJ⟩
   have hle:=hl e (List.mem_of_getElem? he)
   have CM: (aZ 0 l).length=i:=by rw[dn];exact gS
   (conv=>whnf);repeat' ((first| (refine Or.inl (dC.mk ⟨rfl,CM,by simp;omega⟩ ?_)) | intro g| refine aL.mk _ (au he rfl) ?_| refine st ?_| (first| refine b1 ?_ ?_| refine b2 ?_ ?_| refine Br.mk ?_ ?_) <;>intro hc| exact rfl| refine dQ (by(repeat' (first| exact av| assumption| refine(aQ (by decide)).trans ?_| refine(aF (by decide)).trans ?_| refine(az (by decide)).trans ?_))) ?_) <;>conv=>whnf)
   rename_i gi _
   have qm:aZ 0 (l++[(gi,e)])=aZ 0 l++[V.agg [vi e.id,.sl (16000464+16*(i:Int).toNat) gi 0 (0+(e.line.map Pt.v).length),vi e.left,vi e.right]]:=by
     rw[gB];simp[tW,gS]
   refine bI.mk (i+1,l++[(gi,e)],g) (by first| omega| (dsimp only;omega)) ⟨by omega,by simp[gS],by rw[List.map_append,bA,eU he];rfl⟩ ⟨by(repeat' (first| exact True.intro| refine ai ?_| refine And.intro ?_ ?_)),?_⟩
   refine b4 ?_ (b4 ?_ (eJ fun k p hk=> ?_))
   · show lk _ 96=some (⟨jw,3,false,false,some [kp q0 q1 q2]⟩:Obj)
     repeat' (first| exact av| refine(aQ (by decide)).trans ?_| refine(aF (by decide)).trans ?_)
   · show lk _ 145=some (⟨g,4,true,false,some (aZ 0 (l++[(gi,e)]))⟩:Obj)
     rw[qm];exact av
   · by_cases Qp:k<i
     · rw[List.getElem?_append_left (by omega)] at hk
       repeat' (first| exact cz hk| refine(az (by decide)).trans ?_| refine(lq (by omega)).trans ?_)
     · obtain rfl:k=i:=by
         have:=(List.getElem?_eq_some_iff.1 hk).1
         simp at this;omega
       obtain rfl:p=(gi,e):=by
         rw[List.getElem?_append_right (by omega)] at hk
         simpa [gS] using hk.symm
       rw[show 16000464+16*(0+k)=16000464+16*((k:Int)).toNat from by simp]
       repeat' (first| exact av| refine(az (by decide)).trans ?_)
 · obtain rfl:i=L.length:=by omega
   rw[List.take_of_length_le (by omega)] at bA
   have dU: ∀ (M:List (Nat×Obj)) (T:List (Nat×V)),(∀k p,l[k]? =some p→lk M (16000464+16*(0+k))=lk (dP 0 l) (16000464+16*(0+k)))→ ∀σ,SS.On ⟨T,M⟩ σ→bk σ.O (aZ 0 l) L:=
     fun M T h=>fS bA fun k p hk=> ⟨false,by rw[h k p hk];exact cz hk⟩
   by_cases hn:L.length=0
   · (conv=>whnf);repeat' ((first| intro g| refine st ?_| (first| refine b1 ?_ ?_| refine b2 ?_ ?_| refine Br.mk ?_ ?_) <;>intro hc| exact rfl) <;>conv=>whnf)
     refine bO (L:=L) (by(repeat' (first| exact av| assumption| refine(aQ (by decide)).trans ?_| refine(aF (by decide)).trans ?_| refine(az (by decide)).trans ?_))) (by(repeat' (first| exact av| assumption| refine(aQ (by decide)).trans ?_| refine(aF (by decide)).trans ?_| refine(az (by decide)).trans ?_))) (dU _ _ fun k p hk=>by(repeat' (first| refine(az (by decide)).trans ?_| rfl))) ?_
     intro r w
     (conv=>whnf);repeat' ((first| intro g| refine aL.mk _ (bl (by simp)) ?_| refine st ?_| (first| refine b1 ?_ ?_| refine b2 ?_ ?_| refine Br.mk ?_ ?_) <;>intro hc| exact rfl) <;>conv=>whnf)
     exact⟨L,F,by omega,by omega,fun e he=>hl e he,rfl⟩
   · obtain⟨ nn,sy,en⟩:=bd q1 40 (by decide) (by decide)
     obtain⟨kk,sA,ek⟩:=bd q2 L.length (by omega) (by omega)
     obtain⟨⟨gk,x⟩,hx⟩: ∃p,l[kk]? =some p:=⟨_,aJ (by omega)⟩
     have BU:L[kk]? =some x:=by rw[←bA,List.getElem?_map,hx];rfl
     have tM:=hl x (List.mem_of_getElem? BU)
     have cR: (aZ 0 l)[((kk:Nat):Int).toNat]? =some (.agg [vi x.id,.sl (16000464+16*(0+kk)) gk 0 x.line.length,vi x.left,vi x.right]):=fE hx
     have dI:lk (dP 0 l) (16000464+16*(0+kk))=some ⟨gk,2,true,false,some (x.line.map Pt.v)⟩:=cz hx
     have je: ∀y:Edge,y.line.length< 1000→ ∀e ∈ L.set kk y,e.line.length< 1000:=fun y hy e he=>by
       rcases List.mem_or_eq_of_mem_set he with h| rfl
       · exact hl e h
       · exact hy
     have FD: (aZ 0 l).length=L.length:=by rw[dn];exact gS
     rcases c7 with rfl| rfl| rfl
     · by_cases h0:x.line=[]
       · obtain⟨e',qO,et⟩:=yG x h0
         (conv=>whnf);repeat' ((first| intro g| refine aL.mk _ (cR) ?_| refine ag.mk _ (en) ?_| refine ag.mk _ (ek) ?_| refine ag.mk _ (ec) ?_| refine ag.mk _ (et) ?_| refine st ?_| (first| refine b1 ?_ ?_| refine b2 ?_ ?_| refine Br.mk ?_ ?_) <;>intro hc| exact rfl| refine dQ (by(repeat' (first| exact av| assumption| refine(aQ (by decide)).trans ?_| refine(aF (by decide)).trans ?_| refine(az (by decide)).trans ?_))) ?_) <;>conv=>whnf)
         refine bO (L:=L.set kk e') (by(repeat' (first| exact av| assumption| refine(aQ (by decide)).trans ?_| refine(aF (by decide)).trans ?_| refine(az (by decide)).trans ?_))) (by(repeat' (first| exact av| assumption| refine(aQ (by decide)).trans ?_| refine(aF (by decide)).trans ?_| refine(az (by decide)).trans ?_))) ?_ ?_
         · refine fun σ ho=>bk.set kk (fS bA (fun k q hk=> ?_) σ ho) (.inl (by simp[Edge.v,wB,qO]))
           by_cases e:k=kk
           · subst e
             rw[hx] at hk;injection hk with hk;subst hk
             exact⟨true,by(repeat' (first| exact av| assumption| refine(aQ (by decide)).trans ?_| refine(aF (by decide)).trans ?_| refine(az (by decide)).trans ?_))⟩
           · exact⟨false,fi (by refine(az (by decide)).trans ?_;refine(lq (by omega)).trans ?_; (repeat' (first| refine(az (by decide)).trans ?_| rfl))) hk⟩
         · intro r w
           (conv=>whnf);repeat' ((first| intro g| refine aL.mk _ (bl (by first| (simp;done) | fail)) ?_| refine st ?_| (first| refine b1 ?_ ?_| refine b2 ?_ ?_| refine Br.mk ?_ ?_) <;>intro hc| exact rfl) <;>conv=>whnf)
           exact⟨_,F,by simp,by omega,(by exact je _ (by rw[qO];simp)),rfl⟩
       obtain⟨e',qO,et⟩:=uD x h0 (by omega)
       (conv=>whnf);repeat' ((first| intro g| refine aL.mk _ (cR) ?_| refine ag.mk _ (en) ?_| refine ag.mk _ (ek) ?_| refine ag.mk _ (ec) ?_| refine ag.mk _ (et) ?_| refine st ?_| (first| refine b1 ?_ ?_| refine b2 ?_ ?_| refine Br.mk ?_ ?_) <;>intro hc| exact rfl| refine dQ (by(repeat' (first| exact av| assumption| refine(aQ (by decide)).trans ?_| refine(aF (by decide)).trans ?_| refine(az (by decide)).trans ?_))) ?_) <;>conv=>whnf)
       refine bO (L:=L.set kk e') (by(repeat' (first| exact av| assumption| refine(aQ (by decide)).trans ?_| refine(aF (by decide)).trans ?_| refine(az (by decide)).trans ?_))) (by(repeat' (first| exact av| assumption| refine(aQ (by decide)).trans ?_| refine(aF (by decide)).trans ?_| refine(az (by decide)).trans ?_))) ?_ ?_
       · refine fun σ ho=>bk.set kk (fS bA (fun k q hk=> ?_) σ ho) (.inl rfl)
         by_cases e:k=kk
         · subst e
           rw[hx] at hk;injection hk with hk;subst hk
           exact⟨true,by(repeat' (first| exact av| assumption| refine(aQ (by decide)).trans ?_| refine(aF (by decide)).trans ?_| refine(az (by decide)).trans ?_))⟩
         · exact⟨false,fi (by refine(az (by decide)).trans ?_;refine(lq (by omega)).trans ?_; (repeat' (first| refine(az (by decide)).trans ?_| rfl))) hk⟩
       · intro r w
         (conv=>whnf);repeat' ((first| intro g| refine aL.mk _ (bl (by first| (simp;done) | fail)) ?_| refine st ?_| (first| refine b1 ?_ ?_| refine b2 ?_ ?_| refine Br.mk ?_ ?_) <;>intro hc| exact rfl) <;>conv=>whnf)
         exact⟨_,F,by simp,by omega,(by exact je _ (by omega)),rfl⟩
     · obtain⟨k4,kJ,Ek⟩:=bG nn 4 (by decide)
       have kJ: (nn:Int).tmod 4=k4:=kJ
       have h9: ∀m:Nat,m=F.length→(if (m:Int) < (nn:Int).tmod 4 then(m:Int) else(nn:Int).tmod 4).toNat=min k4 F.length:=fun m hm=>by
         rw[kJ,hm];split<;>omega
       (conv=>whnf);repeat' ((first| intro g| refine aL.mk _ (cR) ?_| refine ag.mk _ (en) ?_| refine ag.mk _ (ek) ?_| refine ag.mk _ (ec) ?_| refine st ?_| (first| refine b1 ?_ ?_| refine b2 ?_ ?_| refine Br.mk ?_ ?_) <;>intro hc| exact rfl| refine dQ (by(repeat' (first| exact av| assumption| refine(aQ (by decide)).trans ?_| refine(aF (by decide)).trans ?_| refine(az (by decide)).trans ?_))) ?_) <;>conv=>whnf)
       refine bO (L:=L) (by(repeat' (first| exact av| assumption| refine(aQ (by decide)).trans ?_| refine(aF (by decide)).trans ?_| refine(az (by decide)).trans ?_))) (by(repeat' (first| exact av| assumption| refine(aQ (by decide)).trans ?_| refine(aF (by decide)).trans ?_| refine(az (by decide)).trans ?_))) (dU _ _ fun k p hk=>by(repeat' (first| refine(az (by decide)).trans ?_| rfl))) ?_
       intro r w
       (conv=>whnf);repeat' ((first| intro g| refine aL.mk _ (sH (k:=k4) (h9 _ (by first| (simp;done) | fail))) ?_| refine aL.mk _ (bl (by first| (simp;done) | fail)) ?_| refine st ?_| (first| refine b1 ?_ ?_| refine b2 ?_ ?_| refine Br.mk ?_ ?_) <;>intro hc| exact rfl) <;>conv=>whnf)
       exact⟨L,F.take k4,by omega,by simp;omega,fun e he=>hl e he,rfl⟩
     · (conv=>whnf);repeat' ((first| intro g| refine aL.mk _ (cR) ?_| refine ag.mk _ (en) ?_| refine ag.mk _ (ek) ?_| refine ag.mk _ (ec) ?_| refine st ?_| (first| refine b1 ?_ ?_| refine b2 ?_ ?_| refine Br.mk ?_ ?_) <;>intro hc| exact rfl| refine dQ (by(repeat' (first| exact av| assumption| refine(aQ (by decide)).trans ?_| refine(aF (by decide)).trans ?_| refine(az (by decide)).trans ?_))) ?_) <;>conv=>whnf)
       refine bO (L:=L) (by(repeat' (first| exact av| assumption| refine(aQ (by decide)).trans ?_| refine(aF (by decide)).trans ?_| refine(az (by decide)).trans ?_))) (by(repeat' (first| exact av| assumption| refine(aQ (by decide)).trans ?_| refine(aF (by decide)).trans ?_| refine(az (by decide)).trans ?_))) (dU _ _ fun k p hk=>by(repeat' (first| refine(az (by decide)).trans ?_| rfl))) ?_
       intro r w
       (conv=>whnf);repeat' ((first| intro g| refine aL.mk _ (bl (by first| (simp;done) | fail)) ?_| refine st ?_| (first| refine b1 ?_ ?_| refine b2 ?_ ?_| refine Br.mk ?_ ?_) <;>intro hc| exact rfl) <;>conv=>whnf)
       exact⟨L,F++[⟨IntKind.i64.wrap ((nn:Int) - 1),[],[],0,0⟩],by omega,by simp,fun e he=>hl e he,by simp[aK.v]⟩
end Go.AM
