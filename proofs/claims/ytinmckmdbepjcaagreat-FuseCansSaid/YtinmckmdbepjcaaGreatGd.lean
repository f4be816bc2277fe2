/-
  Texts of the proof, joined by program: FkI, FkJ, FkK, FkP. Own work.
-/
import Derived.Test.YtinmckmdbepjcaaGreatGc
import Derived.Test.YtinmckmdbepjcaaGreatGb
set_option linter.unusedSimpArgs false
set_option linter.unusedVariables false
set_option maxRecDepth 20000
namespace Go.AM
def riS (mv d p7:V) (L:List Int) (g2 g9 k i:Nat) (aaL aaM:Obj) (aai:Int) (some_:Bool):SS:=
 ⟨[(1,d),(2,.ptr 48 g2 0 0),(5,.lit 1 (L.map vi)),(7,p7),(8,aF k),(9,.ptr 160 g9 0 0),(11,vi aai),(12,.bool some_),(13,aF i)],
  [(48,⟨g2,4,false,false,some [mv]⟩),(129,aaL),(160,aaM)]⟩
set_option maxHeartbeats 4000000 in
theorem adA {m:aG} {d p7:V} {L:List Int} {g2 g9 k i:Nat} {aaL aaM:Obj} {aai x y c:Int} {aaa:Bool} {Q:aW→SS→Prop} (hx: (L.map vi)[k]? =some (vi x)) (hy: (L.map vi)[i]? =some (vi y)) (hi:i<L.length) (hb:L.length< 1000000)
  (rK:V.aE m.v=true) (hc: ¬c=0) (aaN:Ev E 488 [m.v,vi x,vi y] ⟨vi c,[]⟩)
  (hQ: ∀T' O',(riS m.v d p7 L g2 g9 k (i+1) aaL aaM aai aaa).Sub ⟨T',O'⟩→Q .normal ⟨T',O'⟩):gY E aaH (riS m.v d p7 L g2 g9 k i aaL aaM aai aaa) Q:=by
 have Pn:gv E 488=[]:=rfl
 have Lu:V.aq [m.v,vi x,vi y]=true:=by simp only[V.aq,rK];rfl
 (conv=>whnf);repeat' ((first| refine tg Pn Lu aaN rfl ?_| intro g| refine aH.mk _ (hx) ?_| refine aH.mk _ (hy) ?_| refine st ?_| (first| refine b1 ?_ ?_| refine b2 ?_ ?_| refine Br.mk ?_ ?_) <;>intro hc| exact rfl) <;>conv=>whnf)
 exact hQ _ _ (by(refine⟨?_,?_⟩ <;>repeat' (first| exact True.intro| refine ai ?_| refine And.intro ?_ ?_)))
set_option maxHeartbeats 4000000 in
theorem abO {m:aG} {d p7:V} {L:List Int} {g2 g9 k i:Nat} {aaL aaM:Obj} {aai x y:Int} {Q:aW→SS→Prop} (hx: (L.map vi)[k]? =some (vi x)) (hy: (L.map vi)[i]? =some (vi y)) (hi:i<L.length) (hb:L.length< 1000000)
  (rK:V.aE m.v=true) (aaN:Ev E 488 [m.v,vi x,vi y] ⟨vi 0,[]⟩)
  (hQ: ∀T' O',(riS m.v d p7 L g2 g9 k (i+1) aaL aaM y true).Sub ⟨T',O'⟩→Q .normal ⟨T',O'⟩):gY E aaH (riS m.v d p7 L g2 g9 k i aaL aaM aai false) Q:=by
 have Pn:gv E 488=[]:=rfl
 have Lu:V.aq [m.v,vi x,vi y]=true:=by simp only[V.aq,rK];rfl
 (conv=>whnf);repeat' ((first| refine tg Pn Lu aaN rfl ?_| intro g| refine aH.mk _ (hx) ?_| refine aH.mk _ (hy) ?_| refine st ?_| (first| refine b1 ?_ ?_| refine b2 ?_ ?_| refine Br.mk ?_ ?_) <;>intro hc| exact rfl) <;>conv=>whnf)
 exact hQ _ _ (by(refine⟨?_,?_⟩ <;>repeat' (first| exact True.intro| refine ai ?_| refine And.intro ?_ ?_)))
set_option maxHeartbeats 4000000 in
theorem ab4 {m:aG} {d p7:V} {L:List Int} {g2 g9 k i:Nat} {aaL aaM:Obj} {aai x y l1 l2:Int} {Q:aW→SS→Prop} (hx: (L.map vi)[k]? =some (vi x)) (hy: (L.map vi)[i]? =some (vi y)) (hi:i<L.length) (hb:L.length< 1000000)
  (rK:V.aE m.v=true) (aaN:Ev E 488 [m.v,vi x,vi y] ⟨vi 0,[]⟩) (h1:Ev E 509 [m.v,vi x,vi y] ⟨vi l1,[]⟩) (h2:Ev E 509 [m.v,vi x,vi aai] ⟨vi l2,[]⟩) (hl:l2<l1)
  (hQ: ∀T' O',(riS m.v d p7 L g2 g9 k (i+1) aaL aaM y true).Sub ⟨T',O'⟩→Q .normal ⟨T',O'⟩):gY E aaH (riS m.v d p7 L g2 g9 k i aaL aaM aai true) Q:=by
 have Pn:gv E 488=[]:=rfl
 have Uc:gv E 509=[]:=rfl
 have Lu:V.aq [m.v,vi x,vi y]=true:=by simp only[V.aq,rK];rfl
 have Lv:V.aq [m.v,vi x,vi aai]=true:=by simp only[V.aq,rK];rfl
 (conv=>whnf);repeat' ((first| refine tg Pn Lu aaN rfl ?_| refine tg Uc Lu h1 rfl ?_| refine tg Uc Lv h2 rfl ?_| intro g| refine aH.mk _ (hx) ?_| refine aH.mk _ (hy) ?_| refine st ?_| (first| refine b1 ?_ ?_| refine b2 ?_ ?_| refine Br.mk ?_ ?_) <;>intro hc| exact rfl) <;>conv=>whnf)
 exact hQ _ _ (by(refine⟨?_,?_⟩ <;>repeat' (first| exact True.intro| refine ai ?_| refine And.intro ?_ ?_)))
set_option maxHeartbeats 4000000 in
theorem ab5 {m:aG} {d p7:V} {L:List Int} {g2 g9 k i:Nat} {aaL aaM:Obj} {aai x y l1 l2:Int} {Q:aW→SS→Prop} (hx: (L.map vi)[k]? =some (vi x)) (hy: (L.map vi)[i]? =some (vi y)) (hi:i<L.length) (hb:L.length< 1000000)
  (rK:V.aE m.v=true) (aaN:Ev E 488 [m.v,vi x,vi y] ⟨vi 0,[]⟩) (h1:Ev E 509 [m.v,vi x,vi y] ⟨vi l1,[]⟩) (h2:Ev E 509 [m.v,vi x,vi aai] ⟨vi l2,[]⟩) (hl: ¬l2<l1)
  (hQ: ∀T' O',(riS m.v d p7 L g2 g9 k (i+1) aaL aaM aai true).Sub ⟨T',O'⟩→Q .normal ⟨T',O'⟩):gY E aaH (riS m.v d p7 L g2 g9 k i aaL aaM aai true) Q:=by
 have Pn:gv E 488=[]:=rfl
 have Uc:gv E 509=[]:=rfl
 have Lu:V.aq [m.v,vi x,vi y]=true:=by simp only[V.aq,rK];rfl
 have Lv:V.aq [m.v,vi x,vi aai]=true:=by simp only[V.aq,rK];rfl
 (conv=>whnf);repeat' ((first| refine tg Pn Lu aaN rfl ?_| refine tg Uc Lu h1 rfl ?_| refine tg Uc Lv h2 rfl ?_| intro g| refine aH.mk _ (hx) ?_| refine aH.mk _ (hy) ?_| refine st ?_| (first| refine b1 ?_ ?_| refine b2 ?_ ?_| refine Br.mk ?_ ?_) <;>intro hc| exact rfl) <;>conv=>whnf)
 exact hQ _ _ (by(refine⟨?_,?_⟩ <;>repeat' (first| exact True.intro| refine ai ?_| refine And.intro ?_ ?_)))
end Go.AM
set_option maxRecDepth 20000
namespace Go.AM
def roS (mv d:V) (L:List Int) (vN:List Event) (g2 ge k:Nat):SS:=
 ⟨[(1,d),(2,.ptr 48 g2 0 0),(5,.lit 1 (L.map vi)),(7,.sl 129 ge 0 vN.length),(8,aF k)],[(48,⟨g2,4,false,false,some [mv]⟩),(129,⟨ge,5,true,false,some (vN.map Event.v)⟩)]⟩
set_option maxHeartbeats 4000000 in
theorem abP {m:aG} {d x:Int} {L:List Int} {vN:List Event} {f:ar} {g2 ge k:Nat} {Q:aW→SS→Prop} (hx: (L.map vi)[k]? =some (vi x)) (hk:k<L.length) (hb:L.length< 1000000) (rK:V.aE m.v=true) (aaD:Ev E 503 [m.v,vi x] ⟨.tuple [f.v,.bool true],[]⟩) (hd:d< 1)
  (hQ: ∀T' O',(roS m.v (vi d) L vN g2 ge (k+1)).Sub ⟨T',O'⟩→Q .normal ⟨T',O'⟩):gY E aaV (roS m.v (vi d) L vN g2 ge k) Q:=by
 have Pn:gv E 503=[]:=rfl
 have Lu:V.aq [m.v,vi x]=true:=by simp only[V.aq,rK];rfl
 (conv=>whnf);repeat' ((first| refine tg Pn Lu aaD rfl ?_| intro g| refine aH.mk _ (hx) ?_| refine st ?_| (first| refine b1 ?_ ?_| refine b2 ?_ ?_| refine Br.mk ?_ ?_) <;>intro hc| exact rfl) <;>conv=>whnf)
 exact hQ _ _ (by(refine⟨?_,?_⟩ <;>repeat' (first| exact True.intro| refine ai ?_| refine And.intro ?_ ?_)))
set_option maxHeartbeats 4000000 in
theorem abQ {m:aG} {d x:Int} {L:List Int} {vN:List Event} {f:ar} {g2 ge k:Nat} {Q:aW→SS→Prop} (hx: (L.map vi)[k]? =some (vi x)) (hk:k<L.length) (hb:L.length< 1000000) (rK:V.aE m.v=true) (aaD:Ev E 503 [m.v,vi x] ⟨.tuple [f.v,.bool true],[]⟩) (hd: ¬d< 1) (hf: ¬f.bg=d)
  (hQ: ∀T' O',(roS m.v (vi d) L vN g2 ge (k+1)).Sub ⟨T',O'⟩→Q .normal ⟨T',O'⟩):gY E aaV (roS m.v (vi d) L vN g2 ge k) Q:=by
 have Pn:gv E 503=[]:=rfl
 have Lu:V.aq [m.v,vi x]=true:=by simp only[V.aq,rK];rfl
 (conv=>whnf);repeat' ((first| refine tg Pn Lu aaD rfl ?_| intro g| refine aH.mk _ (hx) ?_| refine st ?_| (first| refine b1 ?_ ?_| refine b2 ?_ ?_| refine Br.mk ?_ ?_) <;>intro hc| exact rfl) <;>conv=>whnf)
 exact hQ _ _ (by(refine⟨?_,?_⟩ <;>repeat' (first| exact True.intro| refine ai ?_| refine And.intro ?_ ?_)))
set_option maxHeartbeats 8000000 in
theorem ab6 {m:aG} {d x:Int} {L:List Int} {vN:List Event} {f:ar} {g2 ge k:Nat} {Q:aW→SS→Prop} (gO:abN m) (hx: (L.map vi)[k]? =some (vi x)) (hk:k<L.length) (hb:L.length< 1000000) (rK:V.aE m.v=true) (aaD:Ev E 503 [m.v,vi x] ⟨.tuple [f.v,.bool true],[]⟩) (hd: ¬d< 1) (hf:f.bg=d) (sm:vN.length≤k)
   (adB: ∀b,Ev E 490 [m.v,vi x,vi b] ⟨vi (EE (4*f.weight)),[]⟩)
   (hQ0: ¬0 < (aah L fun o=>decide (jX m x o≠0)).length→ ∀T' O',(roS m.v (vi d) L vN g2 ge (k+1)).Sub ⟨T',O'⟩→Q .normal ⟨T',O'⟩)
   (hQ1:0 < (aah L fun o=>decide (jX m x o≠0)).length→ ∀T' O' ge,(roS m.v (vi d) L (vN++[evI f.weight x (aak (brd m.an x) (aah L fun o=>decide (jX m x o≠0)))]) g2 ge (k+1)).Sub ⟨T',O'⟩→Q .normal ⟨T',O'⟩):gY E aaV (roS m.v (vi d) L vN g2 ge k) Q:=by
 have hs:EP m:=⟨gO.1.1,gO.2⟩
 have Pn:gv E 503=[]:=rfl
 have Uc:gv E 490=[]:=rfl
 have Lu:V.aq [m.v,vi x]=true:=by simp only[V.aq,rK];rfl
 have Lv: ∀b,V.aq [m.v,vi x,vi b]=true:=fun b=>by simp only[V.aq,rK];rfl
 (conv=>whnf);repeat' ((first| refine tg Pn Lu aaD rfl ?_| intro g| refine aH.mk _ (hx) ?_| refine st ?_| (first| refine b1 ?_ ?_| refine b2 ?_ ?_| refine Br.mk ?_ ?_) <;>intro hc| exact rfl) <;>conv=>whnf)
 generalize hP: (fun o=>decide (jX m x o≠0))=P at hQ0 hQ1
 refine ba.by (fun (i:Nat)=>riS m.v (vi d) (.sl 129 ge 0 vN.length) L g2 g k i ⟨ge,5,true,false,some (vN.map Event.v)⟩ ⟨g,5,false,false,some [f.v]⟩ (rbN P (brd m.an x) L i).1 (rbN P (brd m.an x) L i).2) (fun i=>i≤L.length) (fun i=>L.length - i) 0 (by(refine⟨?_,?_⟩ <;>repeat' (first| exact True.intro| refine ai ?_| refine And.intro ?_ ?_))) (by omega) ?_
 intro i hi
 try dsimp only at hi
 by_cases bk:i<L.length
 · obtain⟨y,hy⟩: ∃y,L[i]? =some y:=⟨_,aL bk⟩
   have GF: (L.map vi)[i]? =some (vi y):=by simp[hy]
   have oK:=abg (p:=P) (f:=brd m.an x) hy
   have aaN:=qv hs x y
   have hPy:P y=decide (jX m x y≠0):=by rw[←hP]
   generalize hr:rbN P (brd m.an x) L i=r at oK
   obtain⟨b,aaa⟩:=r
   by_cases hc:jX m x y=0
   · have hPf:P y=false:=by rw[hPy];simp[hc]
     rw[hc] at aaN
     cases aaa with
     | false=>
       rw[if_pos ⟨hPf,.inl rfl⟩] at oK
       refine abO hx GF bk hb rK aaN fun T' O' hq=>bc.mk (i+1) (by first| omega| (dsimp only;omega)) (by omega) ?_
       simp only[oK];exact hq
     | true=>
       have h1:=abA gO.1 x y
       have h2:=abA gO.1 x b
       by_cases hl:brd m.an x b<brd m.an x y
       · rw[if_pos ⟨hPf,.inr hl⟩] at oK
         refine ab4 hx GF bk hb rK aaN h1 h2 hl fun T' O' hq=>bc.mk (i+1) (by first| omega| (dsimp only;omega)) (by omega) ?_
         simp only[oK];exact hq
       · rw[if_neg (fun h=>h.2.elim (fun h=>by cases h) hl)] at oK
         refine ab5 hx GF bk hb rK aaN h1 h2 hl fun T' O' hq=>bc.mk (i+1) (by first| omega| (dsimp only;omega)) (by omega) ?_
         simp only[oK];exact hq
   · have hPt:P y=true:=by rw[hPy];simp[hc]
     rw[if_neg (fun h=>by rw[hPt] at h;exact absurd h.1 (by simp))] at oK
     refine adA hx GF bk hb rK hc aaN fun T' O' hq=>bc.mk (i+1) (by first| omega| (dsimp only;omega)) (by omega) ?_
     simp only[oK];exact hq
 · obtain rfl:i=L.length:=by omega
   have he:=abJ P (brd m.an x) L L.length (Nat.le_refl _)
   rw[List.take_length] at he
   rw[he]
   have ad3:vN.length< 1000000:=by omega
   clear he aaD Pn Lu hP
   by_cases hn:0 < (aah L P).length
   · have hq:=hQ1 hn
     clear hQ0 hQ1
     simp only[hn,decide_true]
     generalize aak (brd m.an x) (aah L P)=b at hq
     have hco:=adB b
     have hp3:=Lv b
     (conv=>whnf);repeat' ((first| refine tg Uc hp3 hco rfl ?_| intro g| refine aH.mk _ (hx) ?_| refine st ?_| (first| refine b1 ?_ ?_| refine b2 ?_ ?_| refine Br.mk ?_ ?_) <;>intro hc| exact rfl) <;>conv=>whnf)
     exact hq _ _ _ (by(refine⟨?_,?_⟩ <;>repeat' (first| exact True.intro| refine ai ?_| refine And.intro ?_ ?_)))
   · have hq:=hQ0 hn
     clear hQ0 hQ1
     simp only[hn,decide_false]
     generalize aak (brd m.an x) (aah L P)=b
     (conv=>whnf);repeat' ((first| intro g| refine st ?_| (first| refine b1 ?_ ?_| refine b2 ?_ ?_| refine Br.mk ?_ ?_) <;>intro hc| exact rfl) <;>conv=>whnf)
     exact hq _ _ (by(refine⟨?_,?_⟩ <;>repeat' (first| exact True.intro| refine ai ?_| refine And.intro ?_ ?_)))
end Go.AM
set_option maxRecDepth 20000
namespace Go.AM
set_option maxHeartbeats 4000000 in
theorem ab7 {m:aG} (gO:abN m) (d:Int):Ev E 493 [m.v,vi d] ⟨.own 5 ((acE m d).map Event.v),[]⟩:=by
 have hs:EP m:=⟨gO.1.1,gO.2⟩
 have h0:V.aE m.v=true:=aG.ug false m
 have y6:=hs.2
 refine Ev.bU ac7 (ac8 _) rfl ?_
 (conv=>whnf);repeat' ((first| intro g| refine st ?_| (first| refine b1 ?_ ?_| refine b2 ?_ ?_| refine Br.mk ?_ ?_) <;>intro hc| exact rfl) <;>conv=>whnf)
 rename_i g2
 refine ba.by (fun (i:Nat)=> ⟨[(1,vi d),(2,.ptr 48 g2 0 0),(5,.lit 1 ((aaq m.ah i).map vi)),(6,aF i)],[(48,⟨g2,4,false,false,some [m.v]⟩)]⟩) (fun i=>i≤m.ah.length) (fun i=>m.ah.length - i) 0 (by(refine⟨?_,?_⟩ <;>repeat' (first| exact True.intro| refine ai ?_| refine And.intro ?_ ?_))) (by omega) ?_
 intro i hi
 try dsimp only at hi
 by_cases bk:i<m.ah.length
 · obtain⟨f,hf⟩: ∃f,m.ah[i]? =some f:=⟨_,aL bk⟩
   have RZ:=abe m.ah i
   have hn:=aa3 hf
   have gZ:=Hz (l:=aaq m.ah i) (by omega) f.id
   unfold Az at hn
   cases hh:C2 (aaq m.ah i) f.id
   · rw[hh] at gZ hn
     simp only[Bool.false_eq_true,if_false] at gZ hn
     generalize aaq m.ah i=A at gZ hn RZ
     (conv=>whnf);repeat' ((first| intro g| refine aH.mk _ (aC hf rfl) ?_| refine ag.mk _ (gZ) ?_| refine st ?_| (first| refine b1 ?_ ?_| refine b2 ?_ ?_| refine Br.mk ?_ ?_) <;>intro hc| exact rfl) <;>conv=>whnf)
     refine bc.mk (i+1) (by first| omega| (dsimp only;omega)) (by omega) ?_
     simp only[hn]
     (refine⟨?_,?_⟩ <;>repeat' (first| exact True.intro| refine ai ?_| refine And.intro ?_ ?_))
   · rw[hh] at gZ hn
     simp only[if_true] at gZ hn
     (conv=>whnf);repeat' ((first| intro g| refine aH.mk _ (aC hf rfl) ?_| refine ag.mk _ (gZ) ?_| refine st ?_| (first| refine b1 ?_ ?_| refine b2 ?_ ?_| refine Br.mk ?_ ?_) <;>intro hc| exact rfl) <;>conv=>whnf)
     refine bc.mk (i+1) (by first| omega| (dsimp only;omega)) (by omega) ?_
     simp only[hn]
     (refine⟨?_,?_⟩ <;>repeat' (first| exact True.intro| refine ai ?_| refine And.intro ?_ ?_))
 · obtain rfl:i=m.ah.length:=by omega
   rw[abI]
   have GD:=aau m
   (conv=>whnf);repeat' ((first| intro g| refine st ?_| (first| refine b1 ?_ ?_| refine b2 ?_ ?_| refine Br.mk ?_ ?_) <;>intro hc| exact rfl) <;>conv=>whnf)
   refine ba.by (fun ((k,ge):Nat×Nat)=>roS m.v (vi d) (aag m) (abh m d k) g2 ge k) (fun (k,_)=>k≤(aag m).length) (fun (k,_)=> (aag m).length - k) (0,g) ?_ (by simp) ?_
   · (refine⟨?_,?_⟩ <;>repeat' (first| exact True.intro| refine ai ?_| refine And.intro ?_ ?_))
   rintro⟨k,ge⟩ hk
   try dsimp only at hk
   by_cases bk:k< (aag m).length
   · obtain⟨id,RX⟩: ∃id,(aag m)[k]? =some id:=⟨_,aL bk⟩
     have abk: ((aag m).map vi)[k]? =some (vi id):=by simp[RX]
     have hib: (aag m).length< 1000000:=by omega
     have oK:=aa6 (d:=d) RX
     obtain⟨i,f,hi,hf⟩:=aaI RX
     have aaD:=cj hs.2 hi hf
     have sm:=aax m d k
     by_cases hd:d< 1
     · rw[aa7 hd] at oK
       refine abP abk bk hib h0 aaD hd fun T' O' hq=>bc.mk (k+1,ge) (by first| omega| (dsimp only;omega)) (by omega) ?_
       simp only[oK,Option.toList_none,List.append_nil]
       exact hq
     by_cases hfd:f.bg=d
     · have hco: ∀b,Ev E 490 [m.v,vi id,vi b] ⟨vi (EE (4*f.weight)),[]⟩:=fun b=>by
         have h:=abl hs id b
         have e:aat m id=EE (4*f.weight):=by simp only[aat,hi,hf]
         rw[e] at h;exact h
       refine ab6 gO abk bk hib h0 aaD hd hfd sm hco (fun hn T' O' hq=>bc.mk (k+1,ge) (by first| omega| (dsimp only;omega)) (by omega) ?_) (fun hn T' O' ge hq=>bc.mk (k+1,ge) (by first| omega| (dsimp only;omega)) (by omega) ?_)
       · rw[abi hd hi hf hfd hn] at oK
         simp only[oK,Option.toList_none,List.append_nil]
         exact hq
       · rw[abj hd hi hf hfd hn] at oK
         simp only[oK,Option.toList_some]
         exact hq
     · rw[aa8 hd hi hf hfd] at oK
       refine abQ abk bk hib h0 aaD hd hfd fun T' O' hq=>bc.mk (k+1,ge) (by first| omega| (dsimp only;omega)) (by omega) ?_
       simp only[oK,Option.toList_none,List.append_nil]
       exact hq
   · obtain rfl:k=(aag m).length:=by omega
     have sm:=aax m d (aag m).length
     (conv=>whnf);repeat' ((first| intro g| refine st ?_| (first| refine b1 ?_ ?_| refine b2 ?_ ?_| refine Br.mk ?_ ?_) <;>intro hc| exact rfl) <;>conv=>whnf)
theorem abG {l:List Event} (hl:l.length< 1000000):Ev E 491 [.lit 5 (l.map Event.v),.lit 5 (l.map Event.v)] ⟨.bool true,[]⟩:=by
 refine Ev.bU ac3 (ac4 _) rfl ?_
 (conv=>whnf);repeat' ((first| intro g| refine st ?_| (first| refine b1 ?_ ?_| refine b2 ?_ ?_| refine Br.mk ?_ ?_) <;>intro hc| exact rfl) <;>conv=>whnf)
 all_goals
  first
  | (simp at hc;done)
  | (refine ba.by (fun i:Nat=> ⟨[(0,.lit 5 (l.map Event.v)),(1,.lit 5 (l.map Event.v)),(5,aF i)],[]⟩) (fun i=>i≤l.length) (fun i=>l.length - i) 0 (by(refine⟨?_,?_⟩ <;>repeat' (first| exact True.intro| refine ai ?_| refine And.intro ?_ ?_))) (by simp) ?_
     intro i hi
     (conv=>whnf);repeat' ((first| intro g| refine st ?_| (first| refine b1 ?_ ?_| refine b2 ?_ ?_| refine Br.mk ?_ ?_) <;>intro hc| exact rfl) <;>conv=>whnf)
     all_goals first| exact bc.mk (i+1) (by first| omega| (dsimp only;omega)) (by omega) (by(refine⟨?_,?_⟩ <;>repeat' (first| exact True.intro| refine ai ?_| refine And.intro ?_ ?_))) | (simp at hc;done) | trace_state)
end Go.AM
set_option maxRecDepth 20000
namespace Go.AM
def zT (p:Int×Int):V:= .agg [vi p.1,vi p.2]
theorem wM (l:List (Int×Int)):V.aq (l.map zT)=true:=AM.cN (fun _=>rfl) l
set_option maxHeartbeats 4000000 in
theorem Gn {m:aG} (hf:m.ah.length< 1000000) (p:Int×Int): ∃res,Ev E 484 [m.v,zT p] res∧ ∃L:List (Int×Int),L.length≤37∧res=⟨.own 2 (L.map zT),[]⟩:=by
 refine Ev.cQ NS (NT _) rfl ?_
 (conv=>whnf);repeat' ((first| intro g| refine st ?_| (first| refine b1 ?_ ?_| refine b2 ?_ ?_| refine Br.mk ?_ ?_) <;>intro hc| exact rfl) <;>conv=>whnf)
 rename_i g2 g3 _ _
 refine ba.by (fun ((k,L,g):Nat×List (Int×Int) ×Nat)=> ⟨[(2,.ptr 48 g2 0 0),(5,.sl 97 g 0 L.length),(6,aF k)],[(48,⟨g2,4,false,false,some [m.v]⟩),(97,⟨g,2,true,false,some (L.map zT)⟩)]⟩)
   (fun (k,L,_)=>k≤6∧k≤m.ah.length∧L.length≤1+6*k) (fun (k,_,_)=>6 - k) (0,[p],g) ?_ ⟨by simp,by simp,by simp⟩ ?_
 · (refine⟨?_,?_⟩ <;>repeat' (first| exact True.intro| refine And.intro ((by(conv=>whnf);first| rfl| simp)) ?_| refine ai ?_| refine And.intro ?_ ?_))
 rintro⟨k,L,g⟩ ⟨XA,MH,hL⟩
 try dsimp only at XA MH hL
 by_cases h1:k<m.ah.length
 · by_cases h2:k< 6
   · obtain⟨x,hx⟩: ∃x,m.ah[k]? =some x:=⟨_,aL h1⟩
     (conv=>whnf);repeat' ((first| intro g| refine st ?_| (first| refine b1 ?_ ?_| refine b2 ?_ ?_| refine Br.mk ?_ ?_) <;>intro hc| exact rfl) <;>conv=>whnf)
     refine ba.by (fun ((i,L,g):Nat×List (Int×Int) ×Nat)=> ⟨[(2,.ptr 48 g2 0 0),(5,.sl 97 g 0 L.length),(6,aF k),(7,aF i)],[(48,⟨g2,4,false,false,some [m.v]⟩),(97,⟨g,2,true,false,some (L.map zT)⟩)]⟩)
       (fun (i,L,_)=>i≤6∧i≤m.ah.length∧L.length≤1+6*k+i) (fun (i,_,_)=>6 - i) (0,L,g) (by(refine⟨?_,?_⟩ <;>repeat' (first| exact True.intro| refine ai ?_| refine And.intro ?_ ?_))) ⟨by simp,by simp,by omega⟩ ?_
     rintro⟨i,L,g⟩ ⟨XB,GD,hL⟩
     try dsimp only at XB GD hL
     by_cases h3:i<m.ah.length
     · by_cases h4:i< 6
       · obtain⟨y,hy⟩: ∃x,m.ah[i]? =some x:=⟨_,aL h3⟩
         (conv=>whnf);repeat' ((first| intro g| refine aH.mk _ (aC hx rfl) ?_| refine aH.mk _ (aC hy rfl) ?_| refine st ?_| (first| refine b1 ?_ ?_| refine b2 ?_ ?_| refine Br.mk ?_ ?_) <;>intro hc| exact rfl) <;>conv=>whnf)
         exact bc.mk (i+1,L++[(x.id,y.id)],g) (by first| omega| (dsimp only;omega)) ⟨by omega,by omega,by simp;omega⟩ (by(refine⟨?_,?_⟩ <;>repeat' (first| exact True.intro| refine ai ?_| refine And.intro ?_ ?_)))
       · (conv=>whnf);repeat' ((first| intro g| refine st ?_| (first| refine b1 ?_ ?_| refine b2 ?_ ?_| refine Br.mk ?_ ?_) <;>intro hc| exact rfl) <;>conv=>whnf)
         exact bc.mk (k+1,L,g) (by first| omega| (dsimp only;omega)) ⟨by omega,by omega,by omega⟩ (by(refine⟨?_,?_⟩ <;>repeat' (first| exact True.intro| refine ai ?_| refine And.intro ?_ ?_)))
     · (conv=>whnf);repeat' ((first| intro g| refine st ?_| (first| refine b1 ?_ ?_| refine b2 ?_ ?_| refine Br.mk ?_ ?_) <;>intro hc| exact rfl) <;>conv=>whnf)
       exact bc.mk (k+1,L,g) (by first| omega| (dsimp only;omega)) ⟨by omega,by omega,by omega⟩ (by(refine⟨?_,?_⟩ <;>repeat' (first| exact True.intro| refine ai ?_| refine And.intro ?_ ?_)))
   · have hp:=wM L
     (conv=>whnf);repeat' ((first| intro g| refine aH.mk _ (bz (by first| (simp;done) | fail)) ?_| refine st ?_| (first| refine b1 ?_ ?_| refine b2 ?_ ?_| refine Br.mk ?_ ?_) <;>intro hc| exact rfl) <;>conv=>whnf)
     exact⟨L,by omega,rfl⟩
 · have hp:=wM L
   (conv=>whnf);repeat' ((first| intro g| refine aH.mk _ (bz (by first| (simp;done) | fail)) ?_| refine st ?_| (first| refine b1 ?_ ?_| refine b2 ?_ ?_| refine Br.mk ?_ ?_) <;>intro hc| exact rfl) <;>conv=>whnf)
   exact⟨L,by omega,rfl⟩
end Go.AM
