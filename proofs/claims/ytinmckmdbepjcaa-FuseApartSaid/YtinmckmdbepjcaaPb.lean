/-
  Texts of the proof, joined by program: FpB, FpC. Own work.
-/
import Derived.Test.YtinmckmdbepjcaaPa
import Derived.Test.YtinmckmdbepjcaaLc
import Derived.Test.YtinmckmdbepjcaaGc
set_option linter.unusedSimpArgs false
set_option linter.unusedVariables false
set_option maxRecDepth 20000
namespace Go.AM
theorem acp {W P:V} (hW:W.aE=true) (hP:P.aE=true) {m:aG} (hl:aaE m.an) (a b:Int):Ev E 507 [vi b,.eptr (m.YD W P) 0,.eptr (vi a) 0] ⟨vi (brd m.an a b),[]⟩:=by
 refine Ev.bU abj (abk _) rfl ?_
 (conv=>whnf);repeat' ((first| intro g| refine st ?_| (first| refine b1 ?_ ?_| refine b2 ?_ ?_| refine Br.mk ?_ ?_) <;>intro hc| exact rfl) <;>conv=>whnf)
 refine ba.by (fun i:Nat=> ⟨[(0,vi b),(1,.eptr (m.YD W P) 0),(2,.eptr (vi a) 0),(5,vi (Y9 m.an a b i)),(9,.lit 4 (m.an.map Edge.v)),(10,aF m.an.length),(11,aF i)],[]⟩) (fun i=>i≤m.an.length) (fun i=>m.an.length - i) 0 ?_ (by omega) ?_
 · (refine⟨?_,?_⟩ <;>repeat' (first| exact True.intro| refine And.intro ((by(conv=>whnf);simp[Y9])) ?_| refine ai ?_| refine And.intro ?_ ?_))
 intro i hi
 try dsimp only at hi
 have U1:=hl.1
 by_cases bk:i<m.an.length
 · obtain⟨e,he⟩: ∃e,m.an[i]? =some e:=⟨_,aL bk⟩
   have C6: (m.an.map Edge.v)[i]? =some e.v:=by simp[he]
   have C7: (m.an.map Edge.v).length=m.an.length:=by simp
   cases ht:b9 a b e with
   | false=>
     have hn:=ZO he ht
     refine aaM (p9:= .nils) C6 C7 bk U1 ht fun T' O' hs=>bc.mk (i+1) (by first| omega| (dsimp only;omega)) (by omega) ?_
     simp only[hn]
     exact hs
   | true=>
     have hn:=Zz he ht
     have R1:=aaK (hl.2 e (List.mem_of_getElem? he))
     refine aal C6 C7 bk U1 ht R1 fun T' O' hs=>bc.mk (i+1) (by first| omega| (dsimp only;omega)) (by omega) ?_
     simp only[hn]
     exact hs
 · obtain rfl:i=m.an.length:=by omega
   (conv=>whnf);repeat' ((first| intro g| refine st ?_| (first| refine b1 ?_ ?_| refine b2 ?_ ?_| refine Br.mk ?_ ?_) <;>intro hc| exact rfl) <;>conv=>whnf)
theorem aa2 {W P:V} (hW:W.aE=true) (hP:P.aE=true) {m:aG} (hl:aaE m.an) (a:Int):Yx 507 [.eptr (m.YD W P) 0,.eptr (vi a) 0] fun b=>vi (brd m.an a b):=
 ⟨by have h0:V.aE (m.YD W P)=true:=aG.aam hW hP m
     simp only[V.aq,V.aE,h0];rfl,rfl,fun b=>acp hW hP hl a b⟩
theorem aaQ {W P:V} (hW:W.aE=true) (hP:P.aE=true) {m:aG} (hs:EP m) (a b:Int):Ev E 506 [vi b,.eptr (m.YD W P) 0,.eptr (YL m) 0,.eptr (vi a) 0] ⟨.bool (decide (jX m a b≠0)),[]⟩:=by
 have hc:=aco (W:=W) (P:=P) hs a b
 have hm:gv E 501=[]:=rfl
 have hp:V.aq [(m.YD W P),YL m,vi a,vi b]=true:=by
  have h0:V.aE (m.YD W P)=true:=aG.aam hW hP m
  have h1:V.aE (YL m)=true:=tq ..
  simp only[V.aq,h0,h1];rfl
 refine Ev.bU abh (abi _) rfl ?_
 (conv=>whnf);repeat' ((first| refine tg hm hp hc rfl ?_| intro g| refine st ?_| (first| refine b1 ?_ ?_| refine b2 ?_ ?_| refine Br.mk ?_ ?_) <;>intro hc| exact rfl) <;>conv=>whnf)
 all_goals simp
theorem aa3 {W P:V} (hW:W.aE=true) (hP:P.aE=true) {m:aG} (hs:EP m) (a:Int):Yx 506 [.eptr (m.YD W P) 0,.eptr (YL m) 0,.eptr (vi a) 0] fun b=> .bool (decide (jX m a b≠0)):=
 ⟨by have h0:V.aE (m.YD W P)=true:=aG.aam hW hP m
     have h1:V.aE (YL m)=true:=tq ..
     simp only[V.aq,V.aE,h0,h1];rfl,rfl,fun b=>aaQ hW hP hs a b⟩
end Go.AM
set_option maxRecDepth 20000
namespace Go.AM
set_option maxHeartbeats 4000000 in
theorem aag {W P:V} {m:aG} (hs:EP m) {d:Int} {Q:aW→SS→Prop} {S:SS} {g2 g5 g6 gi:Nat}
   (hS: (⟨[(1,vi d),(2,.ptr 48 g2 0 0),(5,.ptr 96 g5 0 0),(6,.sl 113 g6 0 0),(18,.it 304 gi)],[(48,⟨g2,4,false,false,some [(m.YD W P)]⟩),(96,⟨g5,1,false,false,some [YL m]⟩),(113,⟨g6,1,true,false,some []⟩),(304,⟨gi,0,false,false,none⟩)]⟩:SS).Sub ⟨S.T,(304,⟨gi,0,false,false,none⟩)::S.O⟩)
   (hT:lk S.T 18=some (.it 304 gi))
   (hI:lk S.O 304=some ⟨gi,0,false,false,some [YL m]⟩)
   (hQ: ∀g,Q .normal ⟨[(1,vi d),(2,.ptr 48 g2 0 0),(5,.ptr 96 g5 0 0),(6,.sl 113 g 0 (YK m).length)],[(48,⟨g2,4,false,false,some [(m.YD W P)]⟩),(96,⟨g5,1,false,false,some [YL m]⟩),(113,⟨g,1,true,false,some ((YK m).map vi)⟩)]⟩):
   Ey E 18 19 21 0 [1,2,5,6] [48,96,113] GX GY GZ S Q:=by
 refine Ey.by (r:=304) (g:=gi) (es:=b5 false m.ah m.ah.length) (fun L=> ⟨[(1,vi d),(2,.ptr 48 g2 0 0),(5,.ptr 96 g5 0 0),(6,.sl 113 (g6+L.length) 0 (L.map YM).length),(18,.it 304 gi)],[(48,⟨g2,4,false,false,some [(m.YD W P)]⟩),(96,⟨g5,1,false,false,some [YL m]⟩),(113,⟨g6+L.length,1,true,false,some ((L.map YM).map vi)⟩),(304,⟨gi,0,false,false,none⟩)]⟩)
   ⟨[(1,vi d),(2,.ptr 48 g2 0 0),(5,.ptr 96 g5 0 0),(6,.sl 113 (g6+(YK m).length) 0 (YK m).length)],[(48,⟨g2,4,false,false,some [(m.YD W P)]⟩),(96,⟨g5,1,false,false,some [YL m]⟩),(113,⟨g6+(YK m).length,1,true,false,some ((YK m).map vi)⟩)]⟩ ?_ hI ?_ (fun _=>rfl) (fun _=> ⟨_,rfl,rfl⟩) ?_ ?_ ?_ rfl rfl rfl rfl ?_
 · exact hT
 · exact hS
 · intro e he
   obtain⟨i,f,_,rfl⟩:=YN _ _ _ e he
   exact⟨_,_,rfl⟩
 · intro L k v rest hL
   obtain⟨i,f,hf,he⟩:=YN false m.ah m.ah.length (.tuple [k,v]) (hL.mem_iff.1 (by simp))
   injection he with he
   obtain⟨rfl,rfl⟩:k=vi f.id∧v=Af false i f:=by simpa using he
   have hlen: (L.map YM).length<m.ah.length:=by
    have h1:=hL.length_eq
    have h2:=YR m.ah m.ah.length
    simp[YV] at h1 h2 ⊢;omega
   have hm:=hs.2
   have acf:L.length≤m.ah.length:=by rw[List.length_map] at hlen;omega
   have acg:L.length< 1000000:=by omega
   (conv=>whnf);repeat' ((first| intro g| refine st ?_| (first| refine b1 ?_ ?_| refine b2 ?_ ?_| refine Br.mk ?_ ?_) <;>intro hc| exact rfl) <;>conv=>whnf)
   refine⟨⟨rfl,_,rfl,rfl⟩,?_⟩
   (conv=>whnf);repeat' ((first| refine Or.inr ?_| intro g| refine st ?_| (first| refine b1 ?_ ?_| refine b2 ?_ ?_| refine Br.mk ?_ ?_) <;>intro hc| exact rfl) <;>conv=>whnf)
   have LO:aO ((L.map YM).map vi) 0 (L.map YM).length=(L.map YM).map vi:=bz (by simp)
   have e1: ∀e:V,g6+(L++[e]).length=g6+L.length+1:=fun e=>by rw[List.length_append];rfl
   simp only[e1,LO]
   (refine⟨?_,?_⟩ <;>repeat' (first| exact True.intro| refine And.intro ((by(conv=>whnf);simp[YM];done)) ?_| refine ai ?_| refine And.intro ?_ ?_))
 · intro L hL
   have hlen: (L.map YM).length≤m.ah.length:=by
    have h1:=hL.length_eq
    have h2:=YR m.ah m.ah.length
    simp[YV] at h1 h2 ⊢;omega
   have hm:=hs.2
   have L7:=HC (l:=L.map YM) (by omega)
   have GA: (YK m)=kH (L.map YM):=(Za (hL.map YM)).symm
   have y6: (YK m).length=L.length:=by rw[GA,nU,List.length_map]
   rw[GA,nU,List.length_map]
   have abB:Ev E 132 [.msl 1 ((L.map YM).map vi) 0 L.length] ⟨.tuple [],[(0,(kH (L.map YM)).map vi)]⟩:=by rw[List.length_map] at L7;exact L7
   (conv=>whnf);repeat' ((first| intro g| refine ag.mk _ (abB) ?_| refine st ?_| (first| refine b1 ?_ ?_| refine b2 ?_ ?_| refine Br.mk ?_ ?_) <;>intro hc| exact rfl) <;>conv=>whnf)
   refine⟨?_,?_⟩
   · (repeat' (first| exact True.intro| refine And.intro ((by(conv=>whnf);simp)) ?_| refine ai ?_| refine And.intro ?_ ?_))
   · (repeat' (first| exact True.intro| refine ai ?_| refine And.intro ?_ ?_))
 · exact hQ _
set_option maxHeartbeats 4000000 in
theorem acq {W P:V} (hW:W.aE=true) (hP:P.aE=true) {m:aG} (gO:aat m) (d:Int):Ev E 492 [(m.YD W P),vi d] ⟨.own 5 ((ZM m d).map Event.v),[]⟩:=by
 have hs:EP m:=⟨gO.1.1,gO.2⟩
 have hk:=aa1 (W:=W) (P:=P) hs.2
 have hm:gv E 500=[]:=rfl
 have h0:V.aE (m.YD W P)=true:=aG.aam hW hP m
 have hp:V.aq [(m.YD W P)]=true:=by simp only[V.aq,h0];rfl
 refine Ev.bU abf (abg _) rfl ?_
 (conv=>whnf);repeat' ((first| refine tg hm hp hk (tq ..) ?_| intro g| refine st ?_| (first| refine b1 ?_ ?_| refine b2 ?_ ?_| refine Br.mk ?_ ?_) <;>intro hc| exact rfl) <;>conv=>whnf)
 rename_i g2 g4 g5 g6
 refine aag (W:=W) (P:=P) hs (d:=d) (g2:=g2) (g5:=g5) (g6:=g6) (gi:=g) ?_ rfl rfl fun gk=> ?_
 · (refine⟨?_,?_⟩ <;>repeat' (first| exact True.intro| refine ai ?_| refine And.intro ?_ ?_))
 clear hk hm hp
 have GD:=Y0 m
 have y6:=hs.2
 (conv=>whnf);repeat' ((first| intro g| refine st ?_| (first| refine b1 ?_ ?_| refine b2 ?_ ?_| refine Br.mk ?_ ?_) <;>intro hc| exact rfl) <;>conv=>whnf)
 refine ba.by (fun ((k,ge,z1,z2,z3):Nat×Nat×Bool×Bool×Bool)=>ZE (m.YD W P) (vi d) (b5 false m.ah m.ah.length) (YK m) (ZL m d k) g2 g5 gk ge k z1 z2 z3) (fun (k,_)=>k≤(YK m).length) (fun (k,_)=> (YK m).length - k) (0,g,false,false,false) ?_ (by simp) ?_
 · (refine⟨?_,?_⟩ <;>repeat' (first| exact True.intro| refine ai ?_| refine And.intro ?_ ?_))
 rintro⟨k,ge,z1,z2,z3⟩ hk
 try dsimp only at hk
 by_cases bk:k< (YK m).length
 · obtain⟨id,RX⟩: ∃id,(YK m)[k]? =some id:=⟨_,aL bk⟩
   have ZN: ((YK m).map vi)[k]? =some (vi id):=by simp[RX]
   have Z8: (YK m).length< 1000000:=by omega
   have oK:=ZF (d:=d) RX
   obtain⟨i,f,hi,hf⟩:=YQ RX
   have ns:=bO (k:=false) hi hf
   have sm:=Y2 m d k
   by_cases hd:d< 1
   · rw[Y6 hd] at oK
     refine ZS ZN bk Z8 hd fun T' O' z1 z2 z3 hq=>bc.mk (k+1,ge,z1,z2,z3) (by first| omega| (dsimp only;omega)) (by omega) ?_
     simp only[oK,Option.toList_none,List.append_nil]
     exact hq
   by_cases Zb:f.bg=d
   · obtain⟨rest,hr,Z7⟩:=aaF Z8 (aa3 hW hP hs id)
     have ZU:Ev E 505 [.msl 1 ((YK m).map vi) 0 ((YK m).map vi).length,.fn 506 [.eptr (m.YD W P) 0,.eptr (YL m) 0,.eptr (vi id) 0]] ⟨.sl 0 0 0 (ZK m id).length,[(0,(ZK m id).map vi++rest)]⟩:=by rw[List.length_map];exact Z7
     have hnl: (ZK m id).length≤(YK m).length:=ZG ..
     have YT:=Zv (l:=ZK m id) (by omega) (aa2 hW hP gO.1 id)
     by_cases hn:0 < (ZK m id).length
     · rw[Zg hd hi hf Zb hn] at oK
       simp only[hn,decide_true] at YT
       refine aaj ZN bk Z8 hd ns Zb h0 (jo ..) hr hnl sm (Y5 Z8) ZU YT fun T' O' z1 z2 z3 ge hq=>bc.mk (k+1,ge,z1,z2,z3) (by first| omega| (dsimp only;omega)) (by omega) ?_
       simp only[oK,Option.toList_some]
       exact hq
     · rw[Zf hd hi hf Zb hn] at oK
       simp only[hn,decide_false] at YT
       refine aai ZN bk Z8 hd ns Zb h0 (jo ..) hr hnl (Y5 Z8) ZU YT fun T' O' z1 z2 z3 hq=>bc.mk (k+1,ge,z1,z2,z3) (by first| omega| (dsimp only;omega)) (by omega) ?_
       simp only[oK,Option.toList_none,List.append_nil]
       exact hq
   · rw[Y7 hd hi hf Zb] at oK
     refine ZT ZN bk Z8 hd ns Zb fun T' O' z1 z2 z3 hq=>bc.mk (k+1,ge,z1,z2,z3) (by first| omega| (dsimp only;omega)) (by omega) ?_
     simp only[oK,Option.toList_none,List.append_nil]
     exact hq
 · obtain rfl:k=(YK m).length:=by omega
   have sm:=Y2 m d (YK m).length
   (conv=>whnf);repeat' ((first| intro g| refine st ?_| (first| refine b1 ?_ ?_| refine b2 ?_ ?_| refine Br.mk ?_ ?_) <;>intro hc| exact rfl) <;>conv=>whnf)
end Go.AM
