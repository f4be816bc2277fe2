/-
  Texts of the proof, joined by program: FlE, FlF, FlF2. Own work.
-/
import Derived.Test.YtinmckmdbepjcaaGreatFc
import Derived.Test.YtinmckmdbepjcaaGreatMe
set_option linter.unusedSimpArgs false
set_option linter.unusedVariables false
set_option maxRecDepth 20000
namespace Go.AM
abbrev flT (g4:Nat) (D:List V) (aeO kd:Nat) (x:List (Nat×V)):List (Nat×V):=
 (3,.bool true):: (4,.ptr 80 g4 0 0):: (5,.fn 494 [.ptr 80 g4 0 0]):: (23,.lit 1 D):: (24,aF aeO):: (25,aF kd)::x
set_option maxHeartbeats 4000000 in
theorem abP {m:aG} {D:List V} {g4 g8 aeO kd n:Nat} {d:Int} {vN ents Zp:List V} {e:Event} {Q:aW→SS→Prop} (hx:vN[0]? =some e.v) (hn:vN.length=n) (hk:0 <n) (hb:n< 1000000)
  (h1:e.kind=2) (h2:1≤e.at_) (h3:e.n=0) (hd:Ev E 497 [m.v,vi e.id] ⟨vi d,[]⟩) (gZ:jD (vi e.id) (vi e.other) ents=some Zp)
  (hQ: ∀T' O',SS.Sub ⟨flT g4 D aeO kd [(7,vi d),(8,.mp 480 g8),(9,.lit 5 vN),(33,.lit 5 vN),(34,aF n),(35,aF 1)],[(80,⟨g4,4,false,false,some [m.v]⟩),(480,⟨g8,0,false,false,some Zp⟩)]⟩ ⟨T',O'⟩→Q .normal ⟨T',O'⟩):
  gY E aaf ⟨flT g4 D aeO kd [(7,vi d),(8,.mp 480 g8),(9,.lit 5 vN),(33,.lit 5 vN),(34,aF n),(35,aF 0)],[(80,⟨g4,4,false,false,some [m.v]⟩),(480,⟨g8,0,false,false,some ents⟩)]⟩ Q:=by
 have Pn:gv E 497=[]:=rfl
 have h0:V.aE m.v=true:=aG.ug false m
 have hp:V.aq [m.v,vi e.id]=true:=by simp only[V.aq,h0];rfl
 obtain⟨ek,ea,aeP,aeQ,en⟩:=e
 dsimp only at h1 h2 h3 hd gZ hp
 subst h1 h3
 (conv=>whnf);repeat' ((first| refine tg Pn hp hd rfl ?_| intro g| refine aH.mk _ (hx) ?_| refine aH.mk _ (gZ) ?_| refine st ?_| (first| refine b1 ?_ ?_| refine b2 ?_ ?_| refine Br.mk ?_ ?_) <;>intro hc| exact rfl) <;>conv=>whnf)
 exact hQ _ _ (by(refine⟨?_,?_⟩ <;>repeat' (first| exact True.intro| refine ai ?_| refine And.intro ?_ ?_)))
set_option maxHeartbeats 4000000 in
theorem abQ {m:aG} {D:List V} {g4 g8 aeO kd n k:Nat} {d:Int} {vN ents Zp:List V} {e e':Event} {Q:aW→SS→Prop} (hx:vN[k]? =some e.v) (hy:vN[k - 1]? =some e'.v) (hn:vN.length=n) (hk:k<n) (hk0:0 <k) (hb:n< 1000000) (bk:e'.id<e.id)
  (h1:e.kind=2) (h2:1≤e.at_) (h3:e.n=0) (hd:Ev E 497 [m.v,vi e.id] ⟨vi d,[]⟩) (gZ:jD (vi e.id) (vi e.other) ents=some Zp)
  (hQ: ∀T' O',SS.Sub ⟨flT g4 D aeO kd [(7,vi d),(8,.mp 480 g8),(9,.lit 5 vN),(33,.lit 5 vN),(34,aF n),(35,aF (k+1))],[(80,⟨g4,4,false,false,some [m.v]⟩),(480,⟨g8,0,false,false,some Zp⟩)]⟩ ⟨T',O'⟩→Q .normal ⟨T',O'⟩):
  gY E aaf ⟨flT g4 D aeO kd [(7,vi d),(8,.mp 480 g8),(9,.lit 5 vN),(33,.lit 5 vN),(34,aF n),(35,aF k)],[(80,⟨g4,4,false,false,some [m.v]⟩),(480,⟨g8,0,false,false,some ents⟩)]⟩ Q:=by
 have Pn:gv E 497=[]:=rfl
 have h0:V.aE m.v=true:=aG.ug false m
 have hp:V.aq [m.v,vi e.id]=true:=by simp only[V.aq,h0];rfl
 have hw:IntKind.i64.wrap ((k:Int) - 1)=((k - 1:Nat):Int):=(wrap64 (by omega) (by omega)).trans (by omega)
 have GF:vN[(IntKind.i64.wrap ((k:Int) - 1)).toNat]? =some e'.v:=by rw[hw];simpa using hy
 clear hy
 obtain⟨ek,ea,aeP,aeQ,en⟩:=e
 obtain⟨aeR,fa,aeS,fo,fn⟩:=e'
 dsimp only at h1 h2 h3 hd gZ hp bk
 subst h1 h3
 (conv=>whnf);repeat' ((first| refine tg Pn hp hd rfl ?_| intro g| refine aH.mk _ (hx) ?_| refine aH.mk _ (GF) ?_| refine aH.mk _ (gZ) ?_| refine st ?_| (first| refine b1 ?_ ?_| refine b2 ?_ ?_| refine Br.mk ?_ ?_) <;>intro hc| exact rfl) <;>conv=>whnf)
 exact hQ _ _ (by(refine⟨?_,?_⟩ <;>repeat' (first| exact True.intro| refine ai ?_| refine And.intro ?_ ?_)))
end Go.AM
set_option maxRecDepth 20000
namespace Go.AM
abbrev fiS (g4:Nat) (D:List V) (aeO kd g8 XR:Nat) (M F best:V) (fs aeT ents:List V) (aeU aeV n k:Nat) (aeW:Bool):SS:=
 ⟨[(3,.bool true),(4,.ptr 80 g4 0 0),(5,.fn 494 [.ptr 80 g4 0 0]),(23,.lit 1 D),(24,aF aeO),(25,aF kd),(8,.mp 480 g8),(85,.lit 5 aeT),(86,aF aeU),(87,aF aeV),(13,.ptr 224 XR 0 0),(14,best),(15,.bool aeW),(108,.lit 5 fs),(109,aF n),(110,aF k)],
  [(80,⟨g4,4,false,false,some [M]⟩),(224,⟨XR,5,false,false,some [F]⟩),(480,⟨g8,0,false,false,some ents⟩)]⟩
set_option maxHeartbeats 4000000 in
theorem abG {m:aG} {D fs aeT ents:List V} {best:V} {g4 g8 XR aeO kd aeU aeV n k:Nat} {f g:ar} {aeW:Bool} {c:Int} {Q:aW→SS→Prop} (hx:fs[k]? =some g.v) (hn:fs.length=n) (hk:k<n) (hb:n< 1000000)
  (hc: ¬c=0) (ZP:Ev E 487 [m.v,vi f.id,vi g.id] ⟨vi c,[]⟩)
  (hQ: ∀T' O',(fiS g4 D aeO kd g8 XR m.v f.v best fs aeT ents aeU aeV n (k+1) aeW).Sub ⟨T',O'⟩→Q .normal ⟨T',O'⟩):
  gY E ZE (fiS g4 D aeO kd g8 XR m.v f.v best fs aeT ents aeU aeV n k aeW) Q:=by
 have Pn:gv E 487=[]:=rfl
 have h0:V.aE m.v=true:=aG.ug false m
 have hp:V.aq [m.v,vi f.id,vi g.id]=true:=by simp only[V.aq,h0];rfl
 obtain⟨aeS,fc,fn,aeX,fd⟩:=f
 obtain⟨gi,gc,gn,gw,gd⟩:=g
 dsimp only at ZP hp
 (conv=>whnf);repeat' ((first| refine tg Pn hp ZP rfl ?_| intro g| refine aH.mk _ (hx) ?_| refine st ?_| (first| refine b1 ?_ ?_| refine b2 ?_ ?_| refine Br.mk ?_ ?_) <;>intro hc| exact rfl) <;>conv=>whnf)
 exact hQ _ _ (by(refine⟨?_,?_⟩ <;>repeat' (first| exact True.intro| refine ai ?_| refine And.intro ?_ ?_)))
set_option maxHeartbeats 4000000 in
theorem ac4 {m:aG} {D fs aeT ents:List V} {g4 g8 XR aeO kd aeU aeV n k:Nat} {f g:ar} {best x1 x2:Int} {Q:aW→SS→Prop} (hx:fs[k]? =some g.v) (hn:fs.length=n) (hk:k<n) (hb:n< 1000000)
  (ZP:Ev E 487 [m.v,vi f.id,vi g.id] ⟨vi 0,[]⟩) (GC:Ev E 494 [vi f.id,vi g.id,.eptr m.v 0] ⟨vi x1,[]⟩) (MK:Ev E 494 [vi f.id,vi best,.eptr m.v 0] ⟨vi x2,[]⟩) (bk:x1<x2)
  (hQ: ∀T' O',(fiS g4 D aeO kd g8 XR m.v f.v (vi best) fs aeT ents aeU aeV n (k+1) true).Sub ⟨T',O'⟩→Q .normal ⟨T',O'⟩):
  gY E ZE (fiS g4 D aeO kd g8 XR m.v f.v (vi best) fs aeT ents aeU aeV n k true) Q:=by
 have Pn:gv E 487=[]:=rfl
 have h0:V.aE m.v=true:=aG.ug false m
 have hp:V.aq [m.v,vi f.id,vi g.id]=true:=by simp only[V.aq,h0];rfl
 obtain⟨aeS,fc,fn,aeX,fd⟩:=f
 obtain⟨gi,gc,gn,gw,gd⟩:=g
 dsimp only at ZP hp GC MK
 (conv=>whnf);repeat' ((first| refine tg Pn hp ZP rfl ?_| intro g| refine aH.mk _ (hx) ?_| refine ag.mk _ (GC) ?_| refine ag.mk _ (MK) ?_| refine st ?_| (first| refine b1 ?_ ?_| refine b2 ?_ ?_| refine Br.mk ?_ ?_) <;>intro hc| exact rfl| (simp only[List.append,eN,gr,V.aE,V.aq,h0,cond_true])) <;>conv=>whnf)
 exact hQ _ _ (by(refine⟨?_,?_⟩ <;>repeat' (first| exact True.intro| refine ai ?_| refine And.intro ?_ ?_)))
set_option maxHeartbeats 4000000 in
theorem ac5 {m:aG} {D fs aeT ents:List V} {g4 g8 XR aeO kd aeU aeV n k:Nat} {f g:ar} {best x:Int} {Q:aW→SS→Prop} (hx:fs[k]? =some g.v) (hn:fs.length=n) (hk:k<n) (hb:n< 1000000)
  (ZP:Ev E 487 [m.v,vi f.id,vi g.id] ⟨vi 0,[]⟩) (GC:Ev E 494 [vi f.id,vi g.id,.eptr m.v 0] ⟨vi x,[]⟩) (MK:Ev E 494 [vi f.id,vi best,.eptr m.v 0] ⟨vi x,[]⟩) (hle:best≤g.id)
  (hQ: ∀T' O',(fiS g4 D aeO kd g8 XR m.v f.v (vi best) fs aeT ents aeU aeV n (k+1) true).Sub ⟨T',O'⟩→Q .normal ⟨T',O'⟩):
  gY E ZE (fiS g4 D aeO kd g8 XR m.v f.v (vi best) fs aeT ents aeU aeV n k true) Q:=by
 have Pn:gv E 487=[]:=rfl
 have h0:V.aE m.v=true:=aG.ug false m
 have hp:V.aq [m.v,vi f.id,vi g.id]=true:=by simp only[V.aq,h0];rfl
 obtain⟨aeS,fc,fn,aeX,fd⟩:=f
 obtain⟨gi,gc,gn,gw,gd⟩:=g
 dsimp only at ZP hp GC MK hle
 (conv=>whnf);repeat' ((first| refine tg Pn hp ZP rfl ?_| intro g| refine aH.mk _ (hx) ?_| refine ag.mk _ (GC) ?_| refine ag.mk _ (MK) ?_| refine st ?_| (first| refine b1 ?_ ?_| refine b2 ?_ ?_| refine Br.mk ?_ ?_) <;>intro hc| exact rfl| (simp only[List.append,eN,gr,V.aE,V.aq,h0,cond_true])) <;>conv=>whnf)
 exact hQ _ _ (by(refine⟨?_,?_⟩ <;>repeat' (first| exact True.intro| refine ai ?_| refine And.intro ?_ ?_)))
end Go.AM
set_option maxRecDepth 20000
namespace Go.AM
abbrev foS (g4:Nat) (D:List V) (aeO kd g8:Nat) (M:V) (aeT ents:List V) (aeU aeV:Nat):SS:=
 ⟨[(3,.bool true),(4,.ptr 80 g4 0 0),(5,.fn 494 [.ptr 80 g4 0 0]),(23,.lit 1 D),(24,aF aeO),(25,aF kd),(8,.mp 480 g8),(85,.lit 5 aeT),(86,aF aeU),(87,aF aeV)],
  [(80,⟨g4,4,false,false,some [M]⟩),(480,⟨g8,0,false,false,some ents⟩)]⟩
set_option maxHeartbeats 4000000 in
theorem abn {m:aG} (xJ:aa5 m) (Vs:EP m) {D aeT ents:List V} {g4 g8 aeO kd aeU aeV:Nat} {f:ar} {Q:aW→SS→Prop} (hx:aeT[aeV]? =some f.v) (hn:aeT.length=aeU) (hk:aeV<aeU) (hb:aeU< 1000000)
   (ns:eE true (.int .i64 0) ents (vi f.id)= .done (.tuple [vi 0,.bool false])) (kf: ∀g,jX m f.id g≠0)
   (hQ: ∀T' O',(foS g4 D aeO kd g8 m.v aeT ents aeU (aeV+1)).Sub ⟨T',O'⟩→Q .normal ⟨T',O'⟩):
   gY E aag (foS g4 D aeO kd g8 m.v aeT ents aeU aeV) Q:=by
 have y6:=xJ.2
 (conv=>whnf);repeat' ((first| intro g| refine aH.mk _ (hx) ?_| refine aH.mk _ (ns) ?_| refine st ?_| (first| refine b1 ?_ ?_| refine b2 ?_ ?_| refine Br.mk ?_ ?_) <;>intro hc| exact rfl) <;>conv=>whnf)
 refine ba.by (fun (k:Nat)=>fiS g4 D aeO kd g8 g m.v f.v (vi 0) (m.ah.map ar.v) aeT ents aeU aeV m.ah.length k false) (fun k=>k≤m.ah.length) (fun k=>m.ah.length - k) 0 ?_ (by omega) ?_
 · (refine⟨?_,?_⟩ <;>repeat' (first| exact True.intro| refine And.intro ((by(conv=>whnf);simp)) ?_| refine ai ?_| refine And.intro ?_ ?_))
 intro k IK
 try dsimp only at IK
 by_cases bk:k<m.ah.length
 · obtain⟨x,WG⟩: ∃y,m.ah[k]? =some y:=⟨_,aL bk⟩
   exact abG (f:=f) (g:=x) (c:=jX m f.id x.id) (by simp[WG]) (by simp) bk y6 (kf x.id) (aah Vs f.id x.id) fun T' O' dg=>bc.mk (k+1) (by first| omega| (dsimp only;omega)) (by omega) dg
 obtain rfl:k=m.ah.length:=by omega
 (conv=>whnf);repeat' ((first| intro g| refine st ?_| (first| refine b1 ?_ ?_| refine b2 ?_ ?_| refine Br.mk ?_ ?_) <;>intro hc| exact rfl) <;>conv=>whnf)
 exact hQ _ _ (by(refine⟨?_,?_⟩ <;>repeat' (first| exact True.intro| refine ai ?_| refine And.intro ?_ ?_)))
set_option maxHeartbeats 4000000 in
theorem abo {m:aG} (xJ:aa5 m) (RX:aac m.an) (Vs:EP m) {D aeT ents:List V} {g4 g8 aeO kd aeU aeV:Nat} {f:ar} {best:Int} {Q:aW→SS→Prop} (hx:aeT[aeV]? =some f.v) (hn:aeT.length=aeU) (hk:aeV<aeU) (hb:aeU< 1000000)
   (ns:eE true (.int .i64 0) ents (vi f.id)= .done (.tuple [vi best,.bool true])) (hcb:jX m f.id best=0)
   (aa6: ∀g,jX m f.id g=0→brd m.an f.id g≤brd m.an f.id best∧(brd m.an f.id g=brd m.an f.id best→best≤g))
   (hQ: ∀T' O',(foS g4 D aeO kd g8 m.v aeT ents aeU (aeV+1)).Sub ⟨T',O'⟩→Q .normal ⟨T',O'⟩):
   gY E aag (foS g4 D aeO kd g8 m.v aeT ents aeU aeV) Q:=by
 have y6:=xJ.2
 have Pn:gv E 487=[]:=rfl
 have h0:V.aE m.v=true:=aG.ug false m
 have hp:V.aq [m.v,vi f.id,vi best]=true:=by simp only[V.aq,h0];rfl
 have ZP:=aah Vs f.id best
 rw[hcb] at ZP
 (conv=>whnf);repeat' ((first| refine tg Pn hp ZP rfl ?_| intro g| refine aH.mk _ (hx) ?_| refine aH.mk _ (ns) ?_| refine st ?_| (first| refine b1 ?_ ?_| refine b2 ?_ ?_| refine Br.mk ?_ ?_) <;>intro hc| exact rfl) <;>conv=>whnf)
 refine ba.by (fun (k:Nat)=>fiS g4 D aeO kd g8 g m.v f.v (vi best) (m.ah.map ar.v) aeT ents aeU aeV m.ah.length k true) (fun k=>k≤m.ah.length) (fun k=>m.ah.length - k) 0 ?_ (by omega) ?_
 · (refine⟨?_,?_⟩ <;>repeat' (first| exact True.intro| refine And.intro ((by(conv=>whnf);simp)) ?_| refine ai ?_| refine And.intro ?_ ?_))
 intro k IK
 try dsimp only at IK
 by_cases bk:k<m.ah.length
 · obtain⟨x,WG⟩: ∃y,m.ah[k]? =some y:=⟨_,aL bk⟩
   have Vd:=aah Vs f.id x.id
   by_cases hc:jX m f.id x.id=0
   · rw[hc] at Vd
     obtain⟨h1,h2⟩:=aa6 x.id hc
     have GC:=aaH xJ.1 RX f.id x.id
     have MK:=aaH xJ.1 RX f.id best
     by_cases he:brd m.an f.id x.id=brd m.an f.id best
     · rw[he] at GC
       exact ac5 (f:=f) (g:=x) (by simp[WG]) (by simp) bk y6 Vd GC MK (h2 he) fun T' O' dg=>bc.mk (k+1) (by first| omega| (dsimp only;omega)) (by omega) dg
     · exact ac4 (f:=f) (g:=x) (by simp[WG]) (by simp) bk y6 Vd GC MK (by omega) fun T' O' dg=>bc.mk (k+1) (by first| omega| (dsimp only;omega)) (by omega) dg
   · exact abG (f:=f) (g:=x) (c:=jX m f.id x.id) (by simp[WG]) (by simp) bk y6 hc Vd fun T' O' dg=>bc.mk (k+1) (by first| omega| (dsimp only;omega)) (by omega) dg
 obtain rfl:k=m.ah.length:=by omega
 (conv=>whnf);repeat' ((first| intro g| refine st ?_| (first| refine b1 ?_ ?_| refine b2 ?_ ?_| refine Br.mk ?_ ?_) <;>intro hc| exact rfl) <;>conv=>whnf)
 exact hQ _ _ (by(refine⟨?_,?_⟩ <;>repeat' (first| exact True.intro| refine ai ?_| refine And.intro ?_ ?_)))
end Go.AM
