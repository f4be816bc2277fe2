/-
  Texts of the proof: PRuC, PRuD.
-/
import Derived.Test.YtjmcpijpclfakaaGreatUa
import Derived.Test.YtjmcpijpclfakaaGreatSd
set_option maxRecDepth 20000
set_option maxHeartbeats 8000000
set_option linter.unusedSimpArgs false
set_option linter.unusedVariables false
namespace Go.AM
theorem M1 (r:aP) (hr:r.Fit):Ev E 360 [r.v,r.v] ⟨.bool true,[]⟩:=by
 have h1:=uQ _ r.w (Nat.le_refl _) hr.w.1
 have h2:=uQ _ r.c (Nat.le_refl _) hr.c.1
 have h3:=uQ _ r.d (Nat.le_refl _) hr.d.1
 have h4:=uQ _ r.s (Nat.le_refl _) hr.s.1
 have hm:aD E 319=[]:=rfl
 have mT: ∀e:Ex,V.ae [e.g,e.g]=true:=fun e=>by simp only[V.ae,e.jN,Bool.and_self]
 rw[Ex.vg] at h1 h2 h3 h4
 rw[r.bN]
 refine Ev.aG aaU (aaV _) rfl ?_
 (conv=>whnf);repeat' ((first| refine aq hm (mT _) h1 rfl ?_| refine aq hm (mT _) h2 rfl ?_| refine aq hm (mT _) h3 rfl ?_| refine aq hm (mT _) h4 rfl ?_| intro g| refine st ?_| (first| refine b1 ?_ ?_| refine b2 ?_ ?_| refine Br.mk ?_ ?_) <;>intro hc| exact rfl) <;>conv=>whnf)
 all_goals first| rfl| (exfalso;omega) | simp[*] | skip
theorem CY (l:List aP) (hl:l.length< 1000000) (hf: ∀r ∈ l,r.Fit):Ev E 326 [.lit 30 (l.map aP.v),.lit 30 (l.map aP.v)] ⟨.bool true,[]⟩:=by
 have lm: (l.map aP.v).length=l.length:=List.length_map ..
 have hm:aD E 360=[]:=rfl
 refine Ev.aG aaG (aaH _) rfl ?_
 (conv=>whnf);repeat' ((first| intro g| refine st ?_| (first| refine b1 ?_ ?_| refine b2 ?_ ?_| refine Br.mk ?_ ?_) <;>intro hc| exact rfl) <;>conv=>whnf)
 refine bj.by (fun (i:Nat)=> ⟨[(0,.lit 30 (l.map aP.v)),(1,.lit 30 (l.map aP.v)),(5,aO i)],[]⟩) (fun i=>i≤l.length) (fun i=>l.length - i) 0 (by(refine⟨?_,?_⟩ <;>repeat' (first| exact True.intro| refine ai ?_| refine And.intro ?_ ?_))) (by omega) ?_
 rintro i hi
 by_cases bY:i<l.length
 · obtain⟨x,hx⟩: ∃x,l[i]? =some x:=⟨_,bp bY⟩
   have h:=M1 x (hf x (List.mem_of_getElem? hx))
   have fS:V.ae [x.v,x.v]=true:=by simp only[V.ae,x.pure,Bool.and_self]
   rw[x.bN] at h fS
   (conv=>whnf);repeat' ((first| refine aq hm fS h rfl ?_| intro g| refine bD.mk _ (aA hx (aP.bN x) rfl) ?_| refine st ?_| (first| refine b1 ?_ ?_| refine b2 ?_ ?_| refine Br.mk ?_ ?_) <;>intro hc| exact rfl) <;>conv=>whnf)
   exact bk.mk (i+1) (by first| omega| (dsimp only;omega)) (by first| omega| (dsimp only;omega)) (by(refine⟨?_,?_⟩ <;>repeat' (first| exact True.intro| refine ai ?_| refine And.intro ?_ ?_)))
 · obtain rfl:i=l.length:=by omega
   (conv=>whnf);repeat' ((first| intro g| refine st ?_| (first| refine b1 ?_ ?_| refine b2 ?_ ?_| refine Br.mk ?_ ?_) <;>intro hc| exact rfl) <;>conv=>whnf)
theorem aP.aiX (n:dE) (p:Int) (w c d s:Ex): (aP.mk n p w c d s).v= .agg [.str n,vi p,
 vi w.po,vi w.pv,vi w.pt,vi w.pn,.bool w.pb,.str w.ps,w.pl,
 vi c.po,vi c.pv,vi c.pt,vi c.pn,.bool c.pb,.str c.ps,c.pl,
 vi d.po,vi d.pv,vi d.pt,vi d.pn,.bool d.pb,.str d.ps,d.pl,
 vi s.po,vi s.pv,vi s.pt,vi s.pn,.bool s.pb,.str s.ps,s.pl]:=rfl
def aP.norm (r:aP):aP:=⟨r.name,r.prio,r.w.norm,r.c.norm,r.d.norm,r.s.norm⟩
noncomputable def jV (K:Int→Bd) (l:List aP):List aP:=if gu l=0 then fe K l else l.map aP.norm
def CZ (v:V) (e:Ex):Prop:= ∀ (n:Nat) (k:V→bR),bC false n [] v k=k e.g
theorem CZ.mB (e:Ex):CZ e.norm.ov e.norm:=fun n k=>by rw[MD,Ex.vg]
theorem CZ.ae4 {e:Ex} {v:V} (h:iq e v):CZ v e:=fun n k=>by rw[h.imp,Ex.vg]
theorem C3 {ks:List bH} (K:gZ ks) {e:Ex} (he:e.size≤60) (hf:e.Fit) (ht:e.b4≠0): ∃v,Ev E 321 [e.g,.lit 4 (ks.map bH.v)] ⟨v,[]⟩∧CZ v (e.cT (aH ks)):=by
 obtain⟨v,h1,h2⟩:=Ia K (sv:= .lit 4 (ks.map bH.v)) (.inl rfl) 60 e he (Nat.le_refl _) hf ht
 rw[Ex.vg] at h1
 exact⟨v,h1,.ae4 h2⟩
theorem GO {l:List aP} {ks:List bH} (hl:l.length< 1000000) (hf: ∀r ∈ l,r.Fit) (hc:gu l≠0):Ev E 328 [.lit 30 (l.map aP.v),.lit 4 (ks.map bH.v)] ⟨.own 30 ((l.map aP.norm).map aP.v),[]⟩:=by
 have lm: (l.map aP.v).length=l.length:=List.length_map ..
 have Ik:=Ij l hl hf
 have hm:aD E 334=[]:=rfl
 have mT: ∀e:Ex,V.ae [e.g]=true:=fun e=>by simp only[V.ae,e.jN,Bool.and_self]
 generalize gu l=ck at*
 refine Ev.aG Rb (Rc _) rfl ?_
 (conv=>whnf);repeat' ((first| intro g| refine av.mk _ (Ik) ?_| refine st ?_| (first| refine b1 ?_ ?_| refine b2 ?_ ?_| refine Br.mk ?_ ?_) <;>intro hc| exact rfl) <;>conv=>whnf)
 refine bj.by (fun ((i,L,g9):Nat×List aP×Nat)=> ⟨[(0,.lit 30 (l.map aP.v)),(5,.bool false),(6,.sl 113 g9 0 L.length),(7,aO i)],[(113,⟨g9,30,true,false,some (L.map aP.v)⟩)]⟩)
   (fun (i,L,g9)=>i≤l.length∧L.length=i∧L=(l.take i).map aP.norm) (fun (i,_,_)=>l.length - i) (0,[],g) (by(refine⟨?_,?_⟩ <;>repeat' (first| exact True.intro| refine ai ?_| refine And.intro ?_ ?_))) (by simp) ?_
 rintro⟨i,L,g9⟩ ⟨hi,DN,hL⟩
 try dsimp only at hi DN hL
 have sU: (L.map aP.v).length=L.length:=List.length_map ..
 by_cases bY:i<l.length
 · obtain⟨x,hx⟩: ∃x,l[i]? =some x:=⟨_,bp bY⟩
   have BG:=hf x (List.mem_of_getElem? hx)
   have h1:=mU _ x.w (Nat.le_refl _) BG.w.1
   have h2:=mU _ x.c (Nat.le_refl _) BG.c.1
   have h3:=mU _ x.d (Nat.le_refl _) BG.d.1
   have h4:=mU _ x.s (Nat.le_refl _) BG.s.1
   rw[Ex.vg] at h1 h2 h3 h4
   have i1:=CZ.mB x.w
   have i2:=CZ.mB x.c
   have i3:=CZ.mB x.d
   have i4:=CZ.mB x.s
   have sJ: (l.take (i+1)).map aP.norm=L++[x.norm]:=by rw[List.take_add_one,hx,List.map_append,hL];rfl
   have Bh:=x.norm.pure
   have M3:x.norm.v=_:=aP.aiX x.name x.prio x.w.norm x.c.norm x.d.norm x.s.norm
   generalize x.norm=y at*
   unfold CZ at i1 i2 i3 i4
   generalize x.w.norm=xw at*
   generalize x.c.norm=xc at*
   generalize x.d.norm=xd at*
   generalize x.s.norm=xs at*
   rw[M3] at Bh
   have X6:=Bh
   (conv=>whnf);repeat' ((first| refine bc hm (mT _) h1 i1 ?_| refine bc hm (mT _) h2 i2 ?_| refine bc hm (mT _) h3 i3 ?_| refine bc hm (mT _) h4 i4 ?_| refine fg Bh ?_| intro g| refine bD.mk _ (aA hx (aP.bN x) rfl) ?_| refine st ?_| (first| refine b1 ?_ ?_| refine b2 ?_ ?_| refine Br.mk ?_ ?_) <;>intro hc| exact rfl) <;>conv=>whnf)
   exact bk.mk (i+1,L++[y],g) (by first| omega| (dsimp only;omega)) ⟨by omega,by simp;omega,sJ.symm⟩ (by simp only[List.map_append,List.map_cons,List.map_nil,List.length_append,List.length_cons,List.length_nil,M3]; (refine⟨?_,?_⟩ <;>repeat' (first| exact True.intro| refine ai ?_| refine And.intro ?_ ?_)))
 · obtain rfl:i=l.length:=by omega
   rw[List.take_length] at hL
   rw[←hL]
   have gT:0+L.length≤(L.map aP.v).length∧V.ae (L.map aP.v)=true:=⟨by omega,aP.bq _⟩
   (conv=>whnf);repeat' ((first| intro g| refine bU.mk (aP.bq _) ?_| refine bU.mk (gT) ?_| refine st ?_| (first| refine b1 ?_ ?_| refine b2 ?_ ?_| refine Br.mk ?_ ?_) <;>intro hc| exact rfl) <;>conv=>whnf)
theorem E4 {l:List aP} {ks:List bH} (hl:l.length< 1000000) (hf: ∀r ∈ l,r.Fit) (K:gZ ks) (hc:gu l=0):Ev E 328 [.lit 30 (l.map aP.v),.lit 4 (ks.map bH.v)] ⟨.own 30 ((fe (aH ks) l).map aP.v),[]⟩:=by
 have lm: (l.map aP.v).length=l.length:=List.length_map ..
 have Ik:=Ij l hl hf
 have hm:aD E 321=[]:=rfl
 have cm:aD E 342=[]:=rfl
 have hkp:V.aj (.lit 4 (ks.map bH.v))=true:=rfl
 have mT: ∀e:Ex,V.ae [e.g,.lit 4 (ks.map bH.v)]=true:=fun e=>by simp only[V.ae,e.jN,hkp,Bool.and_self]
 have hG:=((oB l).1 hc).ok
 unfold fe
 rw[hc] at Ik
 refine Ev.aG Rb (Rc _) rfl ?_
 (conv=>whnf);repeat' ((first| intro g| refine av.mk _ (Ik) ?_| refine st ?_| (first| refine b1 ?_ ?_| refine b2 ?_ ?_| refine Br.mk ?_ ?_) <;>intro hc| exact rfl) <;>conv=>whnf)
 refine bj.by (fun ((i,L,g9):Nat×List aP×Nat)=> ⟨[(0,.lit 30 (l.map aP.v)),(1,.lit 4 (ks.map bH.v)),(5,.bool true),(6,.sl 113 g9 0 L.length),(7,aO i)],[(113,⟨g9,30,true,false,some (L.map aP.v)⟩)]⟩)
   (fun (i,L,g9)=>i≤l.length∧L.length≤i∧L=((l.take i).filter (aP.may (aH ks))).map (aP.cT (aH ks))) (fun (i,_,_)=>l.length - i) (0,[],g) (by(refine⟨?_,?_⟩ <;>repeat' (first| exact True.intro| refine ai ?_| refine And.intro ?_ ?_))) (by simp) ?_
 rintro⟨i,L,g9⟩ ⟨hi,DN,hL⟩
 try dsimp only at hi DN hL
 have sU: (L.map aP.v).length=L.length:=List.length_map ..
 by_cases bY:i<l.length
 · obtain⟨x,hx⟩: ∃x,l[i]? =some x:=⟨_,bp bY⟩
   have BG:=hf x (List.mem_of_getElem? hx)
   have Dh:=hG x (List.mem_of_getElem? hx)
   have hb:=(nW K (sv:= .lit 4 (ks.map bH.v)) (.inl rfl) 60 x.w Dh.w.1 (Nat.le_refl _) BG.w.2 (by rw[Dh.w.2];decide)).1 (by rw[Dh.w.2];decide)
   unfold Bounds at hb
   rw[Ex.vg] at hb
   have h01:=MW (C4 ks) Dh
   have sJ: ((l.take (i+1)).filter (aP.may (aH ks))).map (aP.cT (aH ks))=L++(if x.may (aH ks)=true then [x.cT (aH ks)] else []):=by
     rw[iN hx,List.map_append,hL]
     split<;>rfl
   have hmy:x.may (aH ks)=decide ((x.w.bd (aH ks)).hi=1):=rfl
   rw[hmy] at sJ
   generalize (x.w.bd (aH ks)).hi=hh at*
   generalize (x.w.bd (aH ks)).lo=ll at*
   rcases h01 with rfl| rfl
   · rw[if_neg (by decide),List.append_nil] at sJ
     (conv=>whnf);repeat' ((first| refine aq cm (mT _) hb rfl ?_| intro g| refine bD.mk _ (aA hx (aP.bN x) rfl) ?_| refine st ?_| (first| refine b1 ?_ ?_| refine b2 ?_ ?_| refine Br.mk ?_ ?_) <;>intro hc| exact rfl) <;>conv=>whnf)
     exact bk.mk (i+1,L,g9) (by first| omega| (dsimp only;omega)) ⟨by omega,by omega,sJ.symm⟩ (by(refine⟨?_,?_⟩ <;>repeat' (first| exact True.intro| refine ai ?_| refine And.intro ?_ ?_)))
   rw[if_pos (by decide)] at sJ
   obtain⟨u1,h1,i1⟩:=C3 K Dh.w.1 BG.w.2 (by rw[Dh.w.2];decide)
   obtain⟨u2,h2,i2⟩:=C3 K Dh.c.1 BG.c.2 (by rw[Dh.c.2];decide)
   obtain⟨u3,h3,i3⟩:=C3 K Dh.d.1 BG.d.2 (by rw[Dh.d.2];decide)
   obtain⟨u4,h4,i4⟩:=C3 K Dh.s.1 BG.s.2 (by rw[Dh.s.2];decide)
   have Bh:=(x.cT (aH ks)).pure
   have M3: (x.cT (aH ks)).v=_:=aP.aiX x.name x.prio (x.w.cT (aH ks)) (x.c.cT (aH ks)) (x.d.cT (aH ks)) (x.s.cT (aH ks))
   generalize x.cT (aH ks)=y at*
   unfold CZ at i1 i2 i3 i4
   generalize x.w.cT (aH ks)=xw at*
   generalize (x.c.cT (aH ks))=xc at*
   generalize (x.d.cT (aH ks))=xd at*
   generalize (x.s.cT (aH ks))=xs at*
   rw[M3] at Bh
   have X6:=Bh
   (conv=>whnf);repeat' ((first| refine aq cm (mT _) hb rfl ?_| refine bc hm (mT _) h1 i1 ?_| refine bc hm (mT _) h2 i2 ?_| refine bc hm (mT _) h3 i3 ?_| refine bc hm (mT _) h4 i4 ?_| refine fg Bh ?_| intro g| refine bD.mk _ (aA hx (aP.bN x) rfl) ?_| refine st ?_| (first| refine b1 ?_ ?_| refine b2 ?_ ?_| refine Br.mk ?_ ?_) <;>intro hc| exact rfl) <;>conv=>whnf)
   exact bk.mk (i+1,L++[y],g) (by first| omega| (dsimp only;omega)) ⟨by omega,by simp;omega,sJ.symm⟩ (by simp only[List.map_append,List.map_cons,List.map_nil,List.length_append,List.length_cons,List.length_nil,M3]; (refine⟨?_,?_⟩ <;>repeat' (first| exact True.intro| refine ai ?_| refine And.intro ?_ ?_)))
 · obtain rfl:i=l.length:=by omega
   rw[List.take_length] at hL
   rw[←hL]
   have gT:0+L.length≤(L.map aP.v).length∧V.ae (L.map aP.v)=true:=⟨by omega,aP.bq _⟩
   (conv=>whnf);repeat' ((first| intro g| refine bU.mk (aP.bq _) ?_| refine bU.mk (gT) ?_| refine st ?_| (first| refine b1 ?_ ?_| refine b2 ?_ ?_| refine Br.mk ?_ ?_) <;>intro hc| exact rfl) <;>conv=>whnf)
end Go.AM
namespace Go.AM
theorem X7 (r:aP):Ev E 361 [r.v] ⟨.bool true,[]⟩:=by
 rw[r.bN]
 refine Ev.aG aaW (aaX _) rfl ?_
 (conv=>whnf);repeat' ((first| intro g| refine st ?_| (first| refine b1 ?_ ?_| refine b2 ?_ ?_| refine Br.mk ?_ ?_) <;>intro hc| exact rfl) <;>conv=>whnf)
theorem Qd {ks:List bH} (K:gZ ks) (r:aP) (h:r.Ok):Ev E 362 [r.v,.eptr (.mlit (ep (aH ks) 9)) 0] ⟨.bool (r.may (aH ks)),[]⟩:=by
 have A4:=ui (Cm K) _ r.w (Nat.le_refl _) (by have:=h.w.1;omega) (by rw[h.w.2];decide)
 have eZ:=jS (aH ks) 9
 have hm:aD E 340=[]:=rfl
 have mT:V.ae [.mlit (ep (aH ks) 9),r.w.g]=true:=by simp only[V.ae,eZ,r.w.jN,Bool.and_self]
 rw[Ex.vg] at A4
 unfold aP.may
 generalize ep (aH ks) 9=es at*
 generalize r.w.bd (aH ks)=bx at*
 obtain⟨lo,hi,nl,ws,so,tx⟩:=bx
 have hW:=gB nl ws
 simp only[Bd.v] at A4
 generalize lh nl ws=W at*
 have Nz:V.aj (.agg [vi lo,vi hi,W,.bool so,.bool tx])=true:=by simp only[V.aj,V.ae,hW,vi,Bool.and_self]
 rw[r.bN]
 refine Ev.aG aaY (aaZ _) rfl ?_
 (conv=>whnf);repeat' ((first| refine aq hm mT A4 Nz ?_| intro g| refine st ?_| (first| refine b1 ?_ ?_| refine b2 ?_ ?_| refine Br.mk ?_ ?_) <;>intro hc| exact rfl) <;>conv=>whnf)
theorem Qe {ks:List bH} (K:gZ ks) {e:Ex} (he:e.size≤60) (hf:e.Fit) (ht:e.b4≠0): ∃v,Ev E 344 [.mlit (ep (aH ks) 9),e.g] ⟨v,[]⟩∧CZ v (e.cT (aH ks)):=by
 obtain⟨v,h1,h2⟩:=Lt K 60 e he (Nat.le_refl _) hf ht
 rw[Ex.vg] at h1
 exact⟨v,h1,.ae4 h2⟩
theorem GP {l:List aP} {ks:List bH} (hl:l.length< 1000000) (hf: ∀r ∈ l,r.Fit) (hc:gu l≠0):Ev E 327 [.lit 30 (l.map aP.v),.lit 4 (ks.map bH.v)] ⟨.own 30 ((l.map aP.norm).map aP.v),[]⟩:=by
 have lm: (l.map aP.v).length=l.length:=List.length_map ..
 have Ik:=uW l hl hf
 have hm:aD E 343=[]:=rfl
 have mT: ∀e:Ex,V.ae [e.g]=true:=fun e=>by simp only[V.ae,e.jN,Bool.and_self]
 generalize gu l=ck at*
 refine Ev.aG Q9 (Ra _) rfl ?_
 (conv=>whnf);repeat' ((first| intro g| refine av.mk _ (Ik) ?_| refine st ?_| (first| refine b1 ?_ ?_| refine b2 ?_ ?_| refine Br.mk ?_ ?_) <;>intro hc| exact rfl) <;>conv=>whnf)
 refine bj.by (fun ((i,L,g9):Nat×List aP×Nat)=> ⟨[(5,.fn 343 []),(6,.fn 361 []),(8,.sl 145 g9 0 L.length),(19,.lit 30 (l.map aP.v)),(20,aO l.length),(21,aO i)],[(145,⟨g9,30,true,false,some (L.map aP.v)⟩)]⟩)
   (fun (i,L,g9)=>i≤l.length∧L.length=i∧L=(l.take i).map aP.norm) (fun (i,_,_)=>l.length - i) (0,[],g) (by(refine⟨?_,?_⟩ <;>repeat' (first| exact True.intro| refine ai ?_| refine And.intro ?_ ?_))) (by simp) ?_
 rintro⟨i,L,g9⟩ ⟨hi,DN,hL⟩
 try dsimp only at hi DN hL
 have sU: (L.map aP.v).length=L.length:=List.length_map ..
 by_cases bY:i<l.length
 · obtain⟨x,hx⟩: ∃x,l[i]? =some x:=⟨_,bp bY⟩
   have BG:=hf x (List.mem_of_getElem? hx)
   have h1:=pE _ x.w (Nat.le_refl _) BG.w.1
   have h2:=pE _ x.c (Nat.le_refl _) BG.c.1
   have h3:=pE _ x.d (Nat.le_refl _) BG.d.1
   have h4:=pE _ x.s (Nat.le_refl _) BG.s.1
   rw[Ex.vg] at h1 h2 h3 h4
   have hh:=X7 x
   have gR:aD E 361=[]:=rfl
   have Km:V.ae [x.v]=true:=by simp only[V.ae,x.pure,Bool.and_self]
   rw[x.bN] at hh Km
   have i1:=CZ.mB x.w
   have i2:=CZ.mB x.c
   have i3:=CZ.mB x.d
   have i4:=CZ.mB x.s
   have sJ: (l.take (i+1)).map aP.norm=L++[x.norm]:=by rw[List.take_add_one,hx,List.map_append,hL];rfl
   have Bh:=x.norm.pure
   have M3:x.norm.v=_:=aP.aiX x.name x.prio x.w.norm x.c.norm x.d.norm x.s.norm
   generalize x.norm=y at*
   unfold CZ at i1 i2 i3 i4
   generalize x.w.norm=xw at*
   generalize x.c.norm=xc at*
   generalize x.d.norm=xd at*
   generalize x.s.norm=xs at*
   rw[M3] at Bh
   have X6:=Bh
   (conv=>whnf);repeat' ((first| refine aq gR Km hh rfl ?_| refine bc hm (mT _) h1 i1 ?_| refine bc hm (mT _) h2 i2 ?_| refine bc hm (mT _) h3 i3 ?_| refine bc hm (mT _) h4 i4 ?_| refine fg Bh ?_| intro g| refine bD.mk _ (aA hx (aP.bN x) rfl) ?_| refine st ?_| (first| refine b1 ?_ ?_| refine b2 ?_ ?_| refine Br.mk ?_ ?_) <;>intro hc| exact rfl) <;>conv=>whnf)
   exact bk.mk (i+1,L++[y],g) (by first| omega| (dsimp only;omega)) ⟨by omega,by simp;omega,sJ.symm⟩ (by simp only[List.map_append,List.map_cons,List.map_nil,List.length_append,List.length_cons,List.length_nil,M3]; (refine⟨?_,?_⟩ <;>repeat' (first| exact True.intro| refine ai ?_| refine And.intro ?_ ?_)))
 · obtain rfl:i=l.length:=by omega
   rw[List.take_length] at hL
   rw[←hL]
   have gT:0+L.length≤(L.map aP.v).length∧V.ae (L.map aP.v)=true:=⟨by omega,aP.bq _⟩
   (conv=>whnf);repeat' ((first| intro g| refine bU.mk (aP.bq _) ?_| refine bU.mk (gT) ?_| refine st ?_| (first| refine b1 ?_ ?_| refine b2 ?_ ?_| refine Br.mk ?_ ?_) <;>intro hc| exact rfl) <;>conv=>whnf)
theorem E5 {l:List aP} {ks:List bH} (hl:l.length< 1000000) (hf: ∀r ∈ l,r.Fit) (K:gZ ks) (hc:gu l=0):Ev E 327 [.lit 30 (l.map aP.v),.lit 4 (ks.map bH.v)] ⟨.own 30 ((fe (aH ks) l).map aP.v),[]⟩:=by
 have lm: (l.map aP.v).length=l.length:=List.length_map ..
 have Ik:=uW l hl hf
 have hm:aD E 344=[]:=rfl
 have cm:aD E 339=[]:=rfl
 have eZ:=jS (aH ks) 9
 have hga:=FY K (sv:= .lit 4 (ks.map bH.v)) (.inl rfl)
 have hkp:V.ae [.lit 4 (ks.map bH.v)]=true:=rfl
 have mT: ∀e:Ex,V.ae [.mlit (ep (aH ks) 9),e.g]=true:=fun e=>by simp only[V.ae,e.jN,eZ,Bool.and_self]
 have ags:=fun r h=>Qd K r h
 have hG:=((oB l).1 hc).ok
 unfold fe
 rw[hc] at Ik
 refine Ev.aG Q9 (Ra _) rfl ?_
 have NJ: ∀ {e:Ex} {t:Int},t≠0→e.size≤60∧e.b4=t→e.Fit→ ∃v,Ev E 344 [.mlit (ep (aH ks) 9),e.g] ⟨v,[]⟩∧CZ v (e.cT (aH ks)):=fun ht h1 h2=>Qe K h1.1 h2 (by rw[h1.2];exact ht)
 generalize ep (aH ks) 9=es at*
 (conv=>whnf);repeat' ((first| refine aq cm hkp hga eZ ?_| intro g| refine av.mk _ (Ik) ?_| refine st ?_| (first| refine b1 ?_ ?_| refine b2 ?_ ?_| refine Br.mk ?_ ?_) <;>intro hc| exact rfl) <;>conv=>whnf)
 rename_i xy
 refine bj.by (fun ((i,L,g9):Nat×List aP×Nat)=> ⟨[(5,.bfn 344 [.mlit es]),(6,.fn 362 [.ptr 128 xy 0 0]),(8,.sl 145 g9 0 L.length),(19,.lit 30 (l.map aP.v)),(20,aO l.length),(21,aO i)],[(128,⟨xy,1,false,false,some [.mlit es]⟩),(145,⟨g9,30,true,false,some (L.map aP.v)⟩)]⟩)
   (fun (i,L,g9)=>i≤l.length∧L.length≤i∧L=((l.take i).filter (aP.may (aH ks))).map (aP.cT (aH ks))) (fun (i,_,_)=>l.length - i) (0,[],g) (by(refine⟨?_,?_⟩ <;>repeat' (first| exact True.intro| refine ai ?_| refine And.intro ?_ ?_))) (by simp) ?_
 rintro⟨i,L,g9⟩ ⟨hi,DN,hL⟩
 try dsimp only at hi DN hL
 have sU: (L.map aP.v).length=L.length:=List.length_map ..
 by_cases bY:i<l.length
 · obtain⟨x,hx⟩: ∃x,l[i]? =some x:=⟨_,bp bY⟩
   have BG:=hf x (List.mem_of_getElem? hx)
   have Dh:=hG x (List.mem_of_getElem? hx)
   have hb:=ags x Dh
   have sJ: ((l.take (i+1)).filter (aP.may (aH ks))).map (aP.cT (aH ks))=L++(if x.may (aH ks)=true then [x.cT (aH ks)] else []):=by
     rw[iN hx,List.map_append,hL]
     split<;>rfl
   rw[x.bN] at hb
   have Km:=x.pure
   rw[x.bN] at Km
   generalize x.may (aH ks)=mb at*
   cases mb with
   | false=>
     rw[if_neg (by decide),List.append_nil] at sJ
     (conv=>whnf);repeat' ((first| refine iT Km ?_| refine iT eZ ?_| intro g| refine bD.mk _ (aA hx (aP.bN x) rfl) ?_| refine av.mk _ (hb) ?_| refine st ?_| (first| refine b1 ?_ ?_| refine b2 ?_ ?_| refine Br.mk ?_ ?_) <;>intro hc| exact rfl) <;>conv=>whnf)
     exact bk.mk (i+1,L,g9) (by first| omega| (dsimp only;omega)) ⟨by omega,by omega,sJ.symm⟩ (by(refine⟨?_,?_⟩ <;>repeat' (first| exact True.intro| refine ai ?_| refine And.intro ?_ ?_)))
   | true=>
   rw[if_pos rfl] at sJ
   obtain⟨u1,h1,i1⟩:=NJ (by decide) Dh.w BG.w.2
   obtain⟨u2,h2,i2⟩:=NJ (by decide) Dh.c BG.c.2
   obtain⟨u3,h3,i3⟩:=NJ (by decide) Dh.d BG.d.2
   obtain⟨u4,h4,i4⟩:=NJ (by decide) Dh.s BG.s.2
   have Bh:=(x.cT (aH ks)).pure
   have M3: (x.cT (aH ks)).v=_:=aP.aiX x.name x.prio (x.w.cT (aH ks)) (x.c.cT (aH ks)) (x.d.cT (aH ks)) (x.s.cT (aH ks))
   generalize x.cT (aH ks)=y at*
   unfold CZ at i1 i2 i3 i4
   generalize x.w.cT (aH ks)=xw at*
   generalize (x.c.cT (aH ks))=xc at*
   generalize (x.d.cT (aH ks))=xd at*
   generalize (x.s.cT (aH ks))=xs at*
   rw[M3] at Bh
   have X6:=Bh
   (conv=>whnf);repeat' ((first| refine bc hm (mT _) h1 i1 ?_| refine bc hm (mT _) h2 i2 ?_| refine bc hm (mT _) h3 i3 ?_| refine bc hm (mT _) h4 i4 ?_| refine fg Bh ?_| refine iT Km ?_| refine iT eZ ?_| intro g| refine bD.mk _ (aA hx (aP.bN x) rfl) ?_| refine av.mk _ (hb) ?_| refine st ?_| (first| refine b1 ?_ ?_| refine b2 ?_ ?_| refine Br.mk ?_ ?_) <;>intro hc| exact rfl) <;>conv=>whnf)
   exact bk.mk (i+1,L++[y],g) (by first| omega| (dsimp only;omega)) ⟨by omega,by simp;omega,sJ.symm⟩ (by simp only[List.map_append,List.map_cons,List.map_nil,List.length_append,List.length_cons,List.length_nil,M3]; (refine⟨?_,?_⟩ <;>repeat' (first| exact True.intro| refine ai ?_| refine And.intro ?_ ?_)))
 · obtain rfl:i=l.length:=by omega
   rw[List.take_length] at hL
   rw[←hL]
   have gT:0+L.length≤(L.map aP.v).length∧V.ae (L.map aP.v)=true:=⟨by omega,aP.bq _⟩
   (conv=>whnf);repeat' ((first| intro g| refine bU.mk (aP.bq _) ?_| refine bU.mk (gT) ?_| refine st ?_| (first| refine b1 ?_ ?_| refine b2 ?_ ?_| refine Br.mk ?_ ?_) <;>intro hc| exact rfl) <;>conv=>whnf)
theorem BH {l:List aP} {ks:List bH} (hl:l.length< 1000000) (hf: ∀r ∈ l,r.Fit) (K:gZ ks):Ev E 327 [.lit 30 (l.map aP.v),.lit 4 (ks.map bH.v)] ⟨.own 30 ((jV (aH ks) l).map aP.v),[]⟩:=by
 unfold jV
 split
 · rename_i h;exact E5 hl hf K h
 · rename_i h;exact GP hl hf h
theorem J4 {l:List aP} {ks:List bH} (hl:l.length< 1000000) (hf: ∀r ∈ l,r.Fit) (K:gZ ks):Ev E 328 [.lit 30 (l.map aP.v),.lit 4 (ks.map bH.v)] ⟨.own 30 ((jV (aH ks) l).map aP.v),[]⟩:=by
 unfold jV
 split
 · rename_i h;exact E4 hl hf K h
 · rename_i h;exact GO hl hf h
end Go.AM
