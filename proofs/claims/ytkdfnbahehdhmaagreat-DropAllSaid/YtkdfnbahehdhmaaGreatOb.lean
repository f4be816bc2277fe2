/-
  Texts of the proof, joined by program: SOddCC, SOddCD. Own work.
-/
import Derived.Test.YtkdfnbahehdhmaaGreatOa
import Derived.KernelRfl
set_option linter.unusedSimpArgs false
set_option linter.unusedVariables false
set_option maxRecDepth 20000
namespace Go.AM
set_option maxHeartbeats 8000000 in
theorem C6 {L:List Edge} {F:List aI} (hL:L.length< 1000) (hF:F.length< 1000) (hl: ∀e ∈ L,e.line.length< 10) (q0 q1 q2:Int) (cc:Nat) (ec:Ev E 93 [vi q0,vi ((13:Nat):Int)] ⟨aD cc,[]⟩) (db:cc=5∨cc=6∨cc=7):
   ∃res,Ev E 94 [.lit 4 (L.map Edge.v),.lit 5 (F.map aI.v),kW q0 q1 q2] res∧ ∃ (L':List Edge) (F':List aI),L'.length≤L.length+1∧F'.length≤F.length+1∧(∀e ∈ L',e.line.length< 10)∧res=⟨.tuple [.own 4 (L'.map Edge.v),.own 5 (F'.map aI.v)],[]⟩:=by
 refine Ev.cO Bp (Bq _) rfl ?_
 (conv=>whnf);repeat' ((first| intro g| refine st ?_| (first| refine b1 ?_ ?_| refine b2 ?_ ?_| refine Br.mk ?_ ?_) <;>intro hc| exact rfl| refine jQ ?_) <;>conv=>whnf)
 rename_i ig _
 refine aV.by (fun ((i,l,g):Nat×List (Nat×Edge) ×Nat)=> ⟨[(0,.lit 4 (L.map Edge.v)),(1,.lit 5 (F.map aI.v)),(5,.ptr 96 ig 0 0),(8,.sl 145 g 0 i),(9,aD i)],(96,⟨ig,3,false,false,some [kW q0 q1 q2]⟩):: (145,⟨g,4,true,false,some (bk 0 l)⟩)::ep 0 l⟩)
   (fun (i,l,g)=>i≤L.length∧l.length=i∧l.map (·.2)=L.take i) (fun (i,_)=>L.length - i) (0,[],g) (by(refine⟨?_,?_⟩ <;>repeat' (first| exact True.intro| refine ai ?_| refine And.intro ?_ ?_))) ⟨by simp,by simp,by simp⟩ ?_
 rintro⟨i,l,g⟩ ⟨hi,gu,bl⟩
 try dsimp only at hi gu bl
 by_cases fB:i<L.length
 · obtain⟨e,he⟩: ∃e,L[i]? =some e:=⟨_,aE fB⟩
   have hle:=hl e (List.mem_of_getElem? he)
   have C4: (bk 0 l).length=i:=by rw[dG];exact gu
   (conv=>whnf);repeat' ((first| (refine Or.inl (dI.mk ⟨rfl,C4,by simp;omega⟩ ?_)) | intro g| refine aL.mk _ (aq he rfl) ?_| refine st ?_| (first| refine b1 ?_ ?_| refine b2 ?_ ?_| refine Br.mk ?_ ?_) <;>intro hc| exact rfl| refine er (by(repeat' (first| exact aw| assumption| refine(aX (by decide)).trans ?_| refine(aM (by decide)).trans ?_| refine(aA (by decide)).trans ?_))) ?_) <;>conv=>whnf)
   rename_i gi _
   have rZ:bk 0 (l++[(gi,e)])=bk 0 l++[V.agg [vi e.id,.sl (16000464+16*(i:Int).toNat) gi 0 (0+(e.line.map Pt.v).length),vi e.left,vi e.right]]:=by
     rw[il];simp[wc,gu]
   refine a9.mk (i+1,l++[(gi,e)],g) (by first| omega| (dsimp only;omega)) ⟨by omega,by simp[gu],by rw[List.map_append,bl,eo he];rfl⟩ ⟨by(repeat' (first| exact True.intro| refine ai ?_| refine And.intro ?_ ?_)),?_⟩
   refine b9 ?_ (b9 ?_ (fq fun k p hk=> ?_))
   · show lk _ 96=some (⟨ig,3,false,false,some [kW q0 q1 q2]⟩:Obj)
     repeat' (first| exact aw| refine(aX (by decide)).trans ?_| refine(aM (by decide)).trans ?_)
   · show lk _ 145=some (⟨g,4,true,false,some (bk 0 (l++[(gi,e)]))⟩:Obj)
     rw[rZ];exact aw
   · by_cases Ri:k<i
     · rw[List.getElem?_append_left (by omega)] at hk
       repeat' (first| exact cC hk| refine(aA (by decide)).trans ?_| refine(mD (by omega)).trans ?_)
     · obtain rfl:k=i:=by
         have:=(List.getElem?_eq_some_iff.1 hk).1
         simp at this;omega
       obtain rfl:p=(gi,e):=by
         rw[List.getElem?_append_right (by omega)] at hk
         simpa [gu] using hk.symm
       rw[show 16000464+16*(0+k)=16000464+16*((k:Int)).toNat from by simp]
       repeat' (first| exact aw| refine(aA (by decide)).trans ?_)
 · obtain rfl:i=L.length:=by omega
   rw[List.take_of_length_le (by omega)] at bl
   have eu: ∀ (M:List (Nat×Obj)) (T:List (Nat×V)),(∀k p,l[k]? =some p→lk M (16000464+16*(0+k))=lk (ep 0 l) (16000464+16*(0+k)))→ ∀σ,SS.On ⟨T,M⟩ σ→br σ.O (bk 0 l) L:=
     fun M T h=>gI bl fun k p hk=> ⟨false,by rw[h k p hk];exact cC hk⟩
   by_cases hn:L.length=0
   · (conv=>whnf);repeat' ((first| intro g| refine st ?_| (first| refine b1 ?_ ?_| refine b2 ?_ ?_| refine Br.mk ?_ ?_) <;>intro hc| exact rfl) <;>conv=>whnf)
     refine bT (L:=L) (by(repeat' (first| exact aw| assumption| refine(aX (by decide)).trans ?_| refine(aM (by decide)).trans ?_| refine(aA (by decide)).trans ?_))) (by(repeat' (first| exact aw| assumption| refine(aX (by decide)).trans ?_| refine(aM (by decide)).trans ?_| refine(aA (by decide)).trans ?_))) (eu _ _ fun k p hk=>by(repeat' (first| refine(aA (by decide)).trans ?_| rfl))) ?_
     intro r w
     (conv=>whnf);repeat' ((first| intro g| refine aL.mk _ (bC (by simp)) ?_| refine st ?_| (first| refine b1 ?_ ?_| refine b2 ?_ ?_| refine Br.mk ?_ ?_) <;>intro hc| exact rfl) <;>conv=>whnf)
     exact⟨L,F,by omega,by omega,fun e he=>hl e he,rfl⟩
   · obtain⟨nn,uI,en⟩:=bp q1 40 (by decide) (by decide)
     obtain⟨kk,uJ,ek⟩:=bp q2 L.length (by omega) (by omega)
     obtain⟨⟨gk,x⟩,hx⟩: ∃p,l[kk]? =some p:=⟨_,aE (by omega)⟩
     have FM:L[kk]? =some x:=by rw[←bl,List.getElem?_map,hx];rfl
     have vY:=hl x (List.mem_of_getElem? FM)
     have cJ: (bk 0 l)[((kk:Nat):Int).toNat]? =some (.agg [vi x.id,.sl (16000464+16*(0+kk)) gk 0 x.line.length,vi x.left,vi x.right]):=ga hx
     have cP:lk (ep 0 l) (16000464+16*(0+kk))=some ⟨gk,2,true,false,some (x.line.map Pt.v)⟩:=cC hx
     have jP: ∀y:Edge,y.line.length< 10→ ∀e ∈ L.set kk y,e.line.length< 10:=fun y hy e he=>by
       rcases List.mem_or_eq_of_mem_set he with h| rfl
       · exact hl e h
       · exact hy
     have Ko: (bk 0 l).length=L.length:=by rw[dG];exact gu
     rcases db with rfl| rfl| rfl
     · rcases Nat.eq_zero_or_pos x.line.length with h0| hxp
       · (conv=>whnf);repeat' ((first| intro g| refine aL.mk _ (cJ) ?_| refine ag.mk _ (en) ?_| refine ag.mk _ (ek) ?_| refine ag.mk _ (ec) ?_| refine st ?_| (first| refine b1 ?_ ?_| refine b2 ?_ ?_| refine Br.mk ?_ ?_) <;>intro hc| exact rfl| refine er (by(repeat' (first| exact aw| assumption| refine(aX (by decide)).trans ?_| refine(aM (by decide)).trans ?_| refine(aA (by decide)).trans ?_))) ?_) <;>conv=>whnf)
         refine bT (L:=L) (by(repeat' (first| exact aw| assumption| refine(aX (by decide)).trans ?_| refine(aM (by decide)).trans ?_| refine(aA (by decide)).trans ?_))) (by(repeat' (first| exact aw| assumption| refine(aX (by decide)).trans ?_| refine(aM (by decide)).trans ?_| refine(aA (by decide)).trans ?_))) (eu _ _ fun k p hk=>by(repeat' (first| refine(aA (by decide)).trans ?_| rfl))) ?_
         intro r w
         (conv=>whnf);repeat' ((first| intro g| refine aL.mk _ (bC (by simp)) ?_| refine st ?_| (first| refine b1 ?_ ?_| refine b2 ?_ ?_| refine Br.mk ?_ ?_) <;>intro hc| exact rfl) <;>conv=>whnf)
         exact⟨L,F,by omega,by omega,fun e he=>hl e he,rfl⟩
       obtain⟨jj,dy,bM⟩:=bN nn x.line.length hxp
       obtain⟨p,hp⟩: ∃p,x.line[jj]? =some p:=⟨_,aE bM⟩
       have Xi: (x.line.map Pt.v)[((nn:Int).tmod (x.line.length:Int)).toNat]? =some (Pt.v p):=aq hp dy
       have Ja: ((nn:Int).tmod (x.line.length:Int)).toNat=jj:=by rw[dy];rfl
       (conv=>whnf);repeat' ((first| intro g| refine aL.mk _ (cJ) ?_| refine aL.mk _ (Xi) ?_| refine ag.mk _ (en) ?_| refine ag.mk _ (ek) ?_| refine ag.mk _ (ec) ?_| refine st ?_| (first| refine b1 ?_ ?_| refine b2 ?_ ?_| refine Br.mk ?_ ?_) <;>intro hc| exact rfl| refine er (by(repeat' (first| exact aw| assumption| refine(aX (by decide)).trans ?_| refine(aM (by decide)).trans ?_| refine(aA (by decide)).trans ?_))) ?_) <;>conv=>whnf)
       refine bT (L:=L.set kk ⟨x.id,x.line.set jj ⟨IntKind.i64.wrap (16384+(nn:Int).tmod 2),nn⟩,x.left,x.right⟩) (by(repeat' (first| exact aw| assumption| refine(aX (by decide)).trans ?_| refine(aM (by decide)).trans ?_| refine(aA (by decide)).trans ?_))) (by(repeat' (first| exact aw| assumption| refine(aX (by decide)).trans ?_| refine(aM (by decide)).trans ?_| refine(aA (by decide)).trans ?_))) ?_ ?_
       · refine zx (gk:=gk) (x:=x) (z:=false) bl hx rfl (by simp) rfl rfl ?_ fun k q c7 hk=>fH (by refine(mD (by omega)).trans ?_; (repeat' (first| refine(aA (by decide)).trans ?_| rfl))) hk
         rw[Ja]
         simp only[List.map_set]
         exact aw
       · intro r w
         (conv=>whnf);repeat' ((first| intro g| refine aL.mk _ (bC (by simp)) ?_| refine st ?_| (first| refine b1 ?_ ?_| refine b2 ?_ ?_| refine Br.mk ?_ ?_) <;>intro hc| exact rfl) <;>conv=>whnf)
         exact⟨_,F,by simp,by omega,(by exact jP _ (by simp;exact vY)),rfl⟩
     · (conv=>whnf);repeat' ((first| intro g| refine aL.mk _ (cJ) ?_| refine aL.mk _ (qG (k:=nn) (by first| (split<;>omega) | fail)) ?_| refine ag.mk _ (en) ?_| refine ag.mk _ (ek) ?_| refine ag.mk _ (ec) ?_| refine st ?_| (first| refine b1 ?_ ?_| refine b2 ?_ ?_| refine Br.mk ?_ ?_) <;>intro hc| exact rfl| refine er (by(repeat' (first| exact aw| assumption| refine(aX (by decide)).trans ?_| refine(aM (by decide)).trans ?_| refine(aA (by decide)).trans ?_))) ?_) <;>conv=>whnf)
       refine bT (L:=L.set kk ⟨x.id,x.line.take nn,x.left,x.right⟩) (by(repeat' (first| exact aw| assumption| refine(aX (by decide)).trans ?_| refine(aM (by decide)).trans ?_| refine(aA (by decide)).trans ?_))) (by(repeat' (first| exact aw| assumption| refine(aX (by decide)).trans ?_| refine(aM (by decide)).trans ?_| refine(aA (by decide)).trans ?_))) ?_ ?_
       · refine fun σ ho=>br.set kk (gI bl (fun k q hk=> ?_) σ ho) (.inl rfl)
         by_cases e:k=kk
         · subst e
           rw[hx] at hk;injection hk with hk;subst hk
           exact⟨true,by(repeat' (first| exact aw| assumption| refine(aX (by decide)).trans ?_| refine(aM (by decide)).trans ?_| refine(aA (by decide)).trans ?_))⟩
         · exact⟨false,fH (by refine(aA (by decide)).trans ?_;refine(mD (by omega)).trans ?_; (repeat' (first| refine(aA (by decide)).trans ?_| rfl))) hk⟩
       · intro r w
         (conv=>whnf);repeat' ((first| intro g| refine aL.mk _ (bC (by simp)) ?_| refine st ?_| (first| refine b1 ?_ ?_| refine b2 ?_ ?_| refine Br.mk ?_ ?_) <;>intro hc| exact rfl) <;>conv=>whnf)
         exact⟨_,F,by simp,by omega,(by exact jP _ (by simp;omega)),rfl⟩
     · have hw:IntKind.i64.wrap ((kk:Int)+1)=((kk+1:Nat):Int):=(wrap64 (by omega) (by omega)).trans (by omega)
       have GZ:aN (bk 0 l) (0+(IntKind.i64.wrap ((kk:Int)+1)).toNat) (L.length - (IntKind.i64.wrap ((kk:Int)+1)).toNat)=(bk 0 l).drop (kk+1):=by
         rw[hw]
         unfold aN
         rw[Int.toNat_natCast,Nat.zero_add,List.take_of_length_le (by simp;omega)]
       have hWl: ((bk 0 l).drop (kk+1)).length=L.length - (kk+1):=by simp[Ko]
       have hWb: ((bk 0 l).drop (kk+1)).all (aS · 4)=true:=zy _ _
       (conv=>whnf);repeat' ((first| intro g| refine aL.mk _ (cJ) ?_| refine aL.mk _ (GZ) ?_| refine ag.mk _ (en) ?_| refine ag.mk _ (ek) ?_| refine ag.mk _ (ec) ?_| refine st ?_| (first| refine b1 ?_ ?_| refine b2 ?_ ?_| refine Br.mk ?_ ?_) <;>intro hc| exact rfl| refine er (by(repeat' (first| exact aw| assumption| refine(aX (by decide)).trans ?_| refine(aM (by decide)).trans ?_| refine(aA (by decide)).trans ?_))) ?_) <;>conv=>whnf)
       have abv:aN ((L.take kk++L.drop (kk+1)++L.drop (kk+((bk 0 l).drop (kk+1)).length)).map Edge.v) (0+0) ((kk:Int).toNat - 0+((bk 0 l).drop (kk+1)).length)=(L.take kk++L.drop (kk+1)).map Edge.v:=by
         rw[List.map_append]
         exact xS (by rw[hWl,List.length_append,List.length_take,List.length_drop,Int.toNat_natCast];omega)
       refine bT (L:=L.take kk++L.drop (kk+1)++L.drop (kk+((bk 0 l).drop (kk+1)).length)) (by(repeat' (first| exact aw| assumption| refine(aX (by decide)).trans ?_| refine(aM (by decide)).trans ?_| refine(aA (by decide)).trans ?_))) (by(repeat' (first| exact aw| assumption| refine(aX (by decide)).trans ?_| refine(aM (by decide)).trans ?_| refine(aA (by decide)).trans ?_))) ?_ ?_
       · intro σ ho
         have h:=eu _ _ (fun k p hk=>by(repeat' (first| refine(aA (by decide)).trans ?_| rfl))) σ ho
         rw[show 0+0+((kk:Int).toNat - 0)=kk from by simp]
         exact((h.take kk).append (h.drop (kk+1))).append (h.drop _)
       · intro r w
         (conv=>whnf);repeat' ((first| intro g| refine aL.mk _ (abv) ?_| refine aL.mk _ (bC (by first| (simp;done) | fail)) ?_| refine st ?_| (first| refine b1 ?_ ?_| refine b2 ?_ ?_| refine Br.mk ?_ ?_) <;>intro hc| exact rfl) <;>conv=>whnf)
         refine⟨L.take kk++L.drop (kk+1),F,by simp;omega,by omega,fun e he=> ?_,rfl⟩
         rcases List.mem_append.1 he with he| he
         · exact hl e (List.mem_of_mem_take he)
         · exact hl e (List.mem_of_mem_drop he)
end Go.AM
set_option maxRecDepth 20000
namespace Go.AM
set_option maxHeartbeats 1000000 in
theorem BC (e:Edge) (h0:e.line=[]): ∃e':Edge,e'.line=[]∧Ev E 131 [e.v] ⟨.agg [vi e'.id,.lit 2 [],vi e'.left,vi e'.right],[]⟩:=by
 obtain⟨id,ln,lf,rt⟩:=e
 dsimp only at h0
 subst h0
 refine⟨⟨id,[],rt,lf⟩,rfl,?_⟩
 have e1:IntKind.i64.wrap (((0:Nat):Int) - 1)= -1:=by decide
 have e2:IntKind.i64.wrap ((0:Int) - 1)= -1:=by decide
 refine Ev.aG LK (LL _) rfl ?_
 (conv=>whnf);repeat' ((first| intro g| refine st ?_| (first| refine b1 ?_ ?_| refine b2 ?_ ?_| refine Br.mk ?_ ?_) <;>intro hc| exact rfl) <;>conv=>whnf)
 rename_i g1 g2
 refine aV.by (fun (_:Unit)=> ⟨[(1,.ptr 32 g1 0 0),(2,.ptr 48 g2 0 0),(3,.ptr 64 g 0 0),(4,vi (-1))],
   [(32,⟨g1,4,false,false,some [(Edge.mk id [] lf rt).v]⟩),(48,⟨g2,4,false,false,some [.agg [vi 0,.lit 2 [],vi 0,vi 0]]⟩),(64,⟨g,4,false,false,some [.agg [vi id,.nils,vi rt,vi lf]]⟩)]⟩)
  (fun _=>True) (fun _=>0) () ?_ trivial ?_
 · (refine⟨?_,?_⟩ <;>repeat' (first| exact True.intro| refine ai ?_| refine And.intro ?_ ?_))
 rintro⟨⟩ _
 (conv=>whnf);repeat' ((first| intro g| refine st ?_| (first| refine b1 ?_ ?_| refine b2 ?_ ?_| refine Br.mk ?_ ?_) <;>intro hc| exact rfl) <;>conv=>whnf)
set_option maxHeartbeats 8000000 in
theorem C7 {  L:List Edge} {F:List aI} (hL:L.length< 1000) (hF:F.length< 1000) (hl: ∀e ∈ L,e.line.length< 10) (q0 q1 q2:Int) (cc:Nat) (ec:Ev E 93 [vi q0,vi ((13:Nat):Int)] ⟨aD cc,[]⟩) (db:cc=8∨cc=9∨cc=10):
   ∃res,Ev E 94 [.lit 4 (L.map Edge.v),.lit 5 (F.map aI.v),kW q0 q1 q2] res∧ ∃ (L':List Edge) (F':List aI),L'.length≤L.length+1∧F'.length≤F.length+1∧(∀e ∈ L',e.line.length< 10)∧res=⟨.tuple [.own 4 (L'.map Edge.v),.own 5 (F'.map aI.v)],[]⟩:=by
 refine Ev.cO Bp (Bq _) rfl ?_
 (conv=>whnf);repeat' ((first| intro g| refine st ?_| (first| refine b1 ?_ ?_| refine b2 ?_ ?_| refine Br.mk ?_ ?_) <;>intro hc| exact rfl| refine jQ ?_) <;>conv=>whnf)
 rename_i ig _
 refine aV.by (fun ((i,l,g):Nat×List (Nat×Edge) ×Nat)=> ⟨[(0,.lit 4 (L.map Edge.v)),(1,.lit 5 (F.map aI.v)),(5,.ptr 96 ig 0 0),(8,.sl 145 g 0 i),(9,aD i)],(96,⟨ig,3,false,false,some [kW q0 q1 q2]⟩):: (145,⟨g,4,true,false,some (bk 0 l)⟩)::ep 0 l⟩)
   (fun (i,l,g)=>i≤L.length∧l.length=i∧l.map (·.2)=L.take i) (fun (i,_)=>L.length - i) (0,[],g) (by(refine⟨?_,?_⟩ <;>repeat' (first| exact True.intro| refine ai ?_| refine And.intro ?_ ?_))) ⟨by simp,by simp,by simp⟩ ?_
 rintro⟨i,l,g⟩ ⟨hi,gu,bl⟩
 try dsimp only at hi gu bl
 by_cases fB:i<L.length
 · obtain⟨e,he⟩: ∃e,L[i]? =some e:=⟨_,aE fB⟩
   have hle:=hl e (List.mem_of_getElem? he)
   have C4: (bk 0 l).length=i:=by rw[dG];exact gu
   (conv=>whnf);repeat' ((first| (refine Or.inl (dI.mk ⟨rfl,C4,by simp;omega⟩ ?_)) | intro g| refine aL.mk _ (aq he rfl) ?_| refine st ?_| (first| refine b1 ?_ ?_| refine b2 ?_ ?_| refine Br.mk ?_ ?_) <;>intro hc| exact rfl| refine er (by(repeat' (first| exact aw| assumption| refine(aX (by decide)).trans ?_| refine(aM (by decide)).trans ?_| refine(aA (by decide)).trans ?_))) ?_) <;>conv=>whnf)
   rename_i gi _
   have rZ:bk 0 (l++[(gi,e)])=bk 0 l++[V.agg [vi e.id,.sl (16000464+16*(i:Int).toNat) gi 0 (0+(e.line.map Pt.v).length),vi e.left,vi e.right]]:=by
     rw[il];simp[wc,gu]
   refine a9.mk (i+1,l++[(gi,e)],g) (by first| omega| (dsimp only;omega)) ⟨by omega,by simp[gu],by rw[List.map_append,bl,eo he];rfl⟩ ⟨by(repeat' (first| exact True.intro| refine ai ?_| refine And.intro ?_ ?_)),?_⟩
   refine b9 ?_ (b9 ?_ (fq fun k p hk=> ?_))
   · show lk _ 96=some (⟨ig,3,false,false,some [kW q0 q1 q2]⟩:Obj)
     repeat' (first| exact aw| refine(aX (by decide)).trans ?_| refine(aM (by decide)).trans ?_)
   · show lk _ 145=some (⟨g,4,true,false,some (bk 0 (l++[(gi,e)]))⟩:Obj)
     rw[rZ];exact aw
   · by_cases Ri:k<i
     · rw[List.getElem?_append_left (by omega)] at hk
       repeat' (first| exact cC hk| refine(aA (by decide)).trans ?_| refine(mD (by omega)).trans ?_)
     · obtain rfl:k=i:=by
         have:=(List.getElem?_eq_some_iff.1 hk).1
         simp at this;omega
       obtain rfl:p=(gi,e):=by
         rw[List.getElem?_append_right (by omega)] at hk
         simpa [gu] using hk.symm
       rw[show 16000464+16*(0+k)=16000464+16*((k:Int)).toNat from by simp]
       repeat' (first| exact aw| refine(aA (by decide)).trans ?_)
 · obtain rfl:i=L.length:=by omega
   rw[List.take_of_length_le (by omega)] at bl
   have eu: ∀ (M:List (Nat×Obj)) (T:List (Nat×V)),(∀k p,l[k]? =some p→lk M (16000464+16*(0+k))=lk (ep 0 l) (16000464+16*(0+k)))→ ∀σ,SS.On ⟨T,M⟩ σ→br σ.O (bk 0 l) L:=
     fun M T h=>gI bl fun k p hk=> ⟨false,by rw[h k p hk];exact cC hk⟩
   by_cases hn:L.length=0
   · (conv=>whnf);repeat' ((first| intro g| refine st ?_| (first| refine b1 ?_ ?_| refine b2 ?_ ?_| refine Br.mk ?_ ?_) <;>intro hc| exact rfl) <;>conv=>whnf)
     refine bT (L:=L) (by(repeat' (first| exact aw| assumption| refine(aX (by decide)).trans ?_| refine(aM (by decide)).trans ?_| refine(aA (by decide)).trans ?_))) (by(repeat' (first| exact aw| assumption| refine(aX (by decide)).trans ?_| refine(aM (by decide)).trans ?_| refine(aA (by decide)).trans ?_))) (eu _ _ fun k p hk=>by(repeat' (first| refine(aA (by decide)).trans ?_| rfl))) ?_
     intro r w
     (conv=>whnf);repeat' ((first| intro g| refine aL.mk _ (bC (by simp)) ?_| refine st ?_| (first| refine b1 ?_ ?_| refine b2 ?_ ?_| refine Br.mk ?_ ?_) <;>intro hc| exact rfl) <;>conv=>whnf)
     exact⟨L,F,by omega,by omega,fun e he=>hl e he,rfl⟩
   · obtain⟨ nn,uI,en⟩:=bp q1 40 (by decide) (by decide)
     obtain⟨kk,uJ,ek⟩:=bp q2 L.length (by omega) (by omega)
     obtain⟨⟨gk,x⟩,hx⟩: ∃p,l[kk]? =some p:=⟨_,aE (by omega)⟩
     have FM:L[kk]? =some x:=by rw[←bl,List.getElem?_map,hx];rfl
     have vY:=hl x (List.mem_of_getElem? FM)
     have cJ: (bk 0 l)[((kk:Nat):Int).toNat]? =some (.agg [vi x.id,.sl (16000464+16*(0+kk)) gk 0 x.line.length,vi x.left,vi x.right]):=ga hx
     have cP:lk (ep 0 l) (16000464+16*(0+kk))=some ⟨gk,2,true,false,some (x.line.map Pt.v)⟩:=cC hx
     have jP: ∀y:Edge,y.line.length< 10→ ∀e ∈ L.set kk y,e.line.length< 10:=fun y hy e he=>by
       rcases List.mem_or_eq_of_mem_set he with h| rfl
       · exact hl e h
       · exact hy
     have Ko: (bk 0 l).length=L.length:=by rw[dG];exact gu
     rcases db with rfl| rfl| rfl
     · by_cases h0:x.line=[]
       · obtain⟨e',oO,et⟩:=BC x h0
         (conv=>whnf);repeat' ((first| intro g| refine aL.mk _ (cJ) ?_| refine ag.mk _ (en) ?_| refine ag.mk _ (ek) ?_| refine ag.mk _ (ec) ?_| refine ag.mk _ (et) ?_| refine st ?_| (first| refine b1 ?_ ?_| refine b2 ?_ ?_| refine Br.mk ?_ ?_) <;>intro hc| exact rfl| refine er (by(repeat' (first| exact aw| assumption| refine(aX (by decide)).trans ?_| refine(aM (by decide)).trans ?_| refine(aA (by decide)).trans ?_))) ?_) <;>conv=>whnf)
         refine bT (L:=L.set kk e') (by(repeat' (first| exact aw| assumption| refine(aX (by decide)).trans ?_| refine(aM (by decide)).trans ?_| refine(aA (by decide)).trans ?_))) (by(repeat' (first| exact aw| assumption| refine(aX (by decide)).trans ?_| refine(aM (by decide)).trans ?_| refine(aA (by decide)).trans ?_))) ?_ ?_
         · refine fun σ ho=>br.set kk (gI bl (fun k q hk=> ?_) σ ho) (.inl (by simp[Edge.v,dJ,oO]))
           by_cases e:k=kk
           · subst e
             rw[hx] at hk;injection hk with hk;subst hk
             exact⟨true,by(repeat' (first| exact aw| assumption| refine(aX (by decide)).trans ?_| refine(aM (by decide)).trans ?_| refine(aA (by decide)).trans ?_))⟩
           · exact⟨false,fH (by refine(aA (by decide)).trans ?_;refine(mD (by omega)).trans ?_; (repeat' (first| refine(aA (by decide)).trans ?_| rfl))) hk⟩
         · intro r w
           (conv=>whnf);repeat' ((first| intro g| refine aL.mk _ (bC (by first| (simp;done) | fail)) ?_| refine st ?_| (first| refine b1 ?_ ?_| refine b2 ?_ ?_| refine Br.mk ?_ ?_) <;>intro hc| exact rfl) <;>conv=>whnf)
           exact⟨_,F,by simp,by omega,(by exact jP _ (by rw[oO];simp)),rfl⟩
       obtain⟨e',oO,et⟩:=wO x h0 (by omega)
       (conv=>whnf);repeat' ((first| intro g| refine aL.mk _ (cJ) ?_| refine ag.mk _ (en) ?_| refine ag.mk _ (ek) ?_| refine ag.mk _ (ec) ?_| refine ag.mk _ (et) ?_| refine st ?_| (first| refine b1 ?_ ?_| refine b2 ?_ ?_| refine Br.mk ?_ ?_) <;>intro hc| exact rfl| refine er (by(repeat' (first| exact aw| assumption| refine(aX (by decide)).trans ?_| refine(aM (by decide)).trans ?_| refine(aA (by decide)).trans ?_))) ?_) <;>conv=>whnf)
       refine bT (L:=L.set kk e') (by(repeat' (first| exact aw| assumption| refine(aX (by decide)).trans ?_| refine(aM (by decide)).trans ?_| refine(aA (by decide)).trans ?_))) (by(repeat' (first| exact aw| assumption| refine(aX (by decide)).trans ?_| refine(aM (by decide)).trans ?_| refine(aA (by decide)).trans ?_))) ?_ ?_
       · refine fun σ ho=>br.set kk (gI bl (fun k q hk=> ?_) σ ho) (.inl rfl)
         by_cases e:k=kk
         · subst e
           rw[hx] at hk;injection hk with hk;subst hk
           exact⟨true,by(repeat' (first| exact aw| assumption| refine(aX (by decide)).trans ?_| refine(aM (by decide)).trans ?_| refine(aA (by decide)).trans ?_))⟩
         · exact⟨false,fH (by refine(aA (by decide)).trans ?_;refine(mD (by omega)).trans ?_; (repeat' (first| refine(aA (by decide)).trans ?_| rfl))) hk⟩
       · intro r w
         (conv=>whnf);repeat' ((first| intro g| refine aL.mk _ (bC (by first| (simp;done) | fail)) ?_| refine st ?_| (first| refine b1 ?_ ?_| refine b2 ?_ ?_| refine Br.mk ?_ ?_) <;>intro hc| exact rfl) <;>conv=>whnf)
         exact⟨_,F,by simp,by omega,(by exact jP _ (by omega)),rfl⟩
     · obtain⟨k4,lY,Jc⟩:=bN nn 4 (by decide)
       have lY: (nn:Int).tmod 4=k4:=lY
       have h9: ∀m:Nat,m=F.length→(if (m:Int) < (nn:Int).tmod 4 then(m:Int) else(nn:Int).tmod 4).toNat=min k4 F.length:=fun m hm=>by
         rw[lY,hm];split<;>omega
       (conv=>whnf);repeat' ((first| intro g| refine aL.mk _ (cJ) ?_| refine ag.mk _ (en) ?_| refine ag.mk _ (ek) ?_| refine ag.mk _ (ec) ?_| refine st ?_| (first| refine b1 ?_ ?_| refine b2 ?_ ?_| refine Br.mk ?_ ?_) <;>intro hc| exact rfl| refine er (by(repeat' (first| exact aw| assumption| refine(aX (by decide)).trans ?_| refine(aM (by decide)).trans ?_| refine(aA (by decide)).trans ?_))) ?_) <;>conv=>whnf)
       refine bT (L:=L) (by(repeat' (first| exact aw| assumption| refine(aX (by decide)).trans ?_| refine(aM (by decide)).trans ?_| refine(aA (by decide)).trans ?_))) (by(repeat' (first| exact aw| assumption| refine(aX (by decide)).trans ?_| refine(aM (by decide)).trans ?_| refine(aA (by decide)).trans ?_))) (eu _ _ fun k p hk=>by(repeat' (first| refine(aA (by decide)).trans ?_| rfl))) ?_
       intro r w
       (conv=>whnf);repeat' ((first| intro g| refine aL.mk _ (qG (k:=k4) (h9 _ (by first| (simp;done) | fail))) ?_| refine aL.mk _ (bC (by first| (simp;done) | fail)) ?_| refine st ?_| (first| refine b1 ?_ ?_| refine b2 ?_ ?_| refine Br.mk ?_ ?_) <;>intro hc| exact rfl) <;>conv=>whnf)
       exact⟨L,F.take k4,by omega,by simp;omega,fun e he=>hl e he,rfl⟩
     · (conv=>whnf);repeat' ((first| intro g| refine aL.mk _ (cJ) ?_| refine ag.mk _ (en) ?_| refine ag.mk _ (ek) ?_| refine ag.mk _ (ec) ?_| refine st ?_| (first| refine b1 ?_ ?_| refine b2 ?_ ?_| refine Br.mk ?_ ?_) <;>intro hc| exact rfl| refine er (by(repeat' (first| exact aw| assumption| refine(aX (by decide)).trans ?_| refine(aM (by decide)).trans ?_| refine(aA (by decide)).trans ?_))) ?_) <;>conv=>whnf)
       refine bT (L:=L) (by(repeat' (first| exact aw| assumption| refine(aX (by decide)).trans ?_| refine(aM (by decide)).trans ?_| refine(aA (by decide)).trans ?_))) (by(repeat' (first| exact aw| assumption| refine(aX (by decide)).trans ?_| refine(aM (by decide)).trans ?_| refine(aA (by decide)).trans ?_))) (eu _ _ fun k p hk=>by(repeat' (first| refine(aA (by decide)).trans ?_| rfl))) ?_
       intro r w
       (conv=>whnf);repeat' ((first| intro g| refine aL.mk _ (bC (by first| (simp;done) | fail)) ?_| refine st ?_| (first| refine b1 ?_ ?_| refine b2 ?_ ?_| refine Br.mk ?_ ?_) <;>intro hc| exact rfl) <;>conv=>whnf)
       exact⟨L,F++[⟨IntKind.i64.wrap ((nn:Int) - 1),[],[],0,0⟩],by omega,by simp,fun e he=>hl e he,by simp[aI.v]⟩
end Go.AM
