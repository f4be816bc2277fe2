/-
  Texts of the proof, joined by program: FuQ00, FuQ01. Own work.
-/
import Derived.Test.YtinmckmdbepjcaaGreatRa
import Derived.Test.YtinmckmdbepjcaaGreatMe
set_option linter.unusedSimpArgs false
set_option linter.unusedVariables false
set_option maxRecDepth 20000
namespace Go.AM
set_option maxHeartbeats 4000000 in
theorem DX {m:aG} (hs:rJ m) {a b:Int} (hc:jX m a b=0) {i j:Nat} {f y:ar} (hi:findF m.ah a=some i) (yu:m.ah[i]? =some f) (hj:findF m.ah b=some j) (ui:m.ah[j]? =some y) (vr:i≠j) (py:a≠b) (Ur:m.an=[]) (CA:m.ways=[])
   (w9:Ev E 92 [m.v] ⟨.agg [.nils,.own 5 (m.ah.map ar.v),.nils,.own 7 (m.aw.map Place.v)],[]⟩):
   ∃res,Ev E 486 [m.v,vi a,vi b] res∧pz m (bA m.an a b m.an.length) (aR m.ah i j f m.ah.length) res:=by
 have h2:=qv (m:=m) ⟨by have:=hs.e;omega,by have:=hs.f;omega⟩ a b
 rw[hc] at h2
 have hf:=cj (m:=m) (by have:=hs.f;omega) hi yu
 have hE:m.an.length< 1000:=hs.e
 have hF:m.ah.length< 1000:=hs.f
 refine Ev.cQ yg (yh _) rfl ?_
 (conv=>whnf);repeat' ((first| intro g| refine ag.mk _ (h2) ?_| refine ag.mk _ (hf) ?_| refine ag.mk _ (w9) ?_| refine st ?_| (first| refine b1 ?_ ?_| refine b2 ?_ ?_| refine Br.mk ?_ ?_) <;>intro hc| exact rfl) <;>conv=>whnf)
 clear h2 hf w9
 rename_i g3 g6 g9 gF gP dK
 obtain⟨oe,Gl⟩: ∃x:Option Nat,x=none:=⟨none,rfl⟩
 have vc:oe=none↔bA m.an a b m.an.length=[]:=by rw[Gl,Ur];simp[bA]
 refine ba.by (fun (_:Unit)=> ⟨[(1,vi a),(2,vi b),(6,.ptr 112 g6 0 0),(9,.ptr 160 g9 0 0),(11,.ptr 192 dK 0 0),(12,.ptr 208 g 0 0),(13,aF 0)],(112,⟨g6,4,false,false,some [aG.zero.v]⟩):: (160,⟨g9,5,false,false,some [f.v]⟩):: (192,⟨dK,4,false,false,some [.agg [.nils,.sl 561 gF 0 (m.ah.map ar.v).length,.nils,.sl 563 gP 0 (m.aw.map Place.v).length]]⟩):: (208,⟨g,4,false,false,some [.agg [.nils,.nils,.nils,.sl 563 gP 0 (m.aw.map Place.v).length]]⟩):: (561,⟨gF,5,true,false,some (m.ah.map ar.v)⟩):: (563,⟨gP,7,true,false,some (m.aw.map Place.v)⟩):: ([])⟩) (fun _=>True) (fun _=>0) () (by(refine⟨?_,?_⟩ <;>repeat' (first| exact True.intro| refine ai ?_| refine And.intro ?_ ?_))) trivial ?_
 rintro⟨⟩ _
 (conv=>whnf);repeat' ((first| intro g| refine st ?_| (first| refine b1 ?_ ?_| refine b2 ?_ ?_| refine Br.mk ?_ ?_) <;>intro hc| exact rfl) <;>conv=>whnf)
 generalize RY:bA m.an a b m.an.length=Es at*
 refine ba.by (fun ((k,of):Nat×Option Nat)=> ⟨[(1,vi a),(2,vi b),(6,.ptr 112 g6 0 0),(9,.ptr 160 g9 0 0),(11,.ptr 192 dK 0 0),(12,.ptr 208 g 0 0),(15,.bool (decide (i<k))),(16,.bool (decide (j<k))),(17,aF k)],(112,⟨g6,4,false,false,some [aG.zero.v]⟩):: (160,⟨g9,5,false,false,some [f.v]⟩):: (192,⟨dK,4,false,false,some [.agg [.nils,.sl 561 gF 0 (m.ah.map ar.v).length,.nils,.sl 563 gP 0 (m.aw.map Place.v).length]]⟩):: (208,⟨g,4,false,false,some [.agg [lV 210 oe Es.length,lV 211 of (aR m.ah i j f k).length,.nils,.sl 563 gP 0 (m.aw.map Place.v).length]]⟩):: (561,⟨gF,5,true,false,some (m.ah.map ar.v)⟩):: (563,⟨gP,7,true,false,some (m.aw.map Place.v)⟩):: (lR 211 5 of ((aR m.ah i j f k).map ar.v)++lR 210 4 oe (Es.map Edge.v))⟩)
   (fun (k,of)=>k≤m.ah.length∧(of=none↔aR m.ah i j f k=[])) (fun (k,_)=>m.ah.length - k) (0,none) ?_ ⟨by simp,by simp[aR]⟩ ?_
 · subst Gl; (refine⟨?_,?_⟩ <;>repeat' (first| exact True.intro| refine And.intro ((by(conv=>whnf);first| rfl| simp)) ?_| refine ai ?_| refine And.intro ?_ ?_))
 rintro⟨k,of⟩ ⟨hk,iT⟩
 try dsimp only at hk iT
 by_cases bk:k<m.ah.length
 · obtain⟨x,hx⟩: ∃x,m.ah[k]? =some x:=⟨_,aL bk⟩
   obtain⟨fa,xJ,GA,Ms⟩:=cu hi
   obtain⟨ya,xK,Mt,hyb⟩:=cu hj
   by_cases ke:k=i
   · have hn:aR m.ah i j f (k+1)=aR m.ah i j f k:=by rw[aR,hx];simp only[if_pos ke]
     have kD:x.id=a:=by subst ke;rw[hx] at xJ;injection xJ with xJ;rw[xJ];exact GA
     have e1:decide (i<k)=false:=by simp[ke]
     have e2:decide (i<k+1)=true:=by simp[ke]
     have e3:decide (j<k+1)=decide (j<k):=by simp only[decide_eq_decide];omega
     simp only[e1]
     refine q7 (gn:=true) (oe0:=none) (ow0:=none) (f:=f) (x:=x) (by simp[hx]) rfl bk hF (bp ..) iT.1 kD fun T' O' dg=>bc.mk (k+1,of) (by first| omega| (dsimp only;omega)) ⟨by omega,by rw[hn];exact iT⟩ ?_
     simp only[hn,e2,e3]
     exact dg
   have e4:decide (i<k+1)=decide (i<k):=by simp only[decide_eq_decide];omega
   by_cases nW:k=j
   · have hn:aR m.ah i j f (k+1)=aR m.ah i j f k++[gR x f]:=by rw[aR,hx];simp only[if_neg ke,if_pos nW]
     have pO:x.id=b:=by subst nW;rw[hx] at xK;injection xK with xK;rw[xK];exact Mt
     have kD: ¬x.id=a:=fun h=>py (h.symm.trans pO)
     have e1:decide (j<k)=false:=by simp[nW]
     have e2:decide (j<k+1)=true:=by simp[nW]
     simp only[e1]
     by_cases xZ:x.name=[]
     · refine ox (dn:=true) (oe0:=none) (ow0:=none) (f:=f) (x:=x) (by simp[hx]) rfl bk hF (bp ..) iT.1 kD pO xZ fun T' O' g' dg=>bc.mk (k+1,some g') (by first| omega| (dsimp only;omega)) ⟨by omega,by rw[hn];simp⟩ ?_
       simp only[hn,e2,e4]
       exact dg
     · refine oy (dn:=true) (oe0:=none) (ow0:=none) (f:=f) (x:=x) (by simp[hx]) rfl bk hF (bp ..) iT.1 kD pO xZ fun T' O' g' dg=>bc.mk (k+1,some g') (by first| omega| (dsimp only;omega)) ⟨by omega,by rw[hn];simp⟩ ?_
       simp only[hn,e2,e4]
       exact dg
   have e3:decide (j<k+1)=decide (j<k):=by simp only[decide_eq_decide];omega
   have hn:aR m.ah i j f (k+1)=aR m.ah i j f k++[x]:=by rw[aR,hx];simp only[if_neg ke,if_neg nW]
   by_cases kD:x.id=a
   · have vz:i<k:=by
       rcases Nat.lt_trichotomy k i with h| h| h
       · exact absurd kD (Ms k x h hx)
       · exact absurd h ke
       · exact h
     have e1:decide (i<k)=true:=by simpa using vz
     rw[e1] at e4
     simp only[e1]
     refine ou (gn:=true) (oe0:=none) (ow0:=none) (f:=f) (x:=x) (by simp[hx]) rfl bk hF (bp ..) iT.1 kD (fun h=>py (kD.symm.trans h)) fun T' O' g' dg=>bc.mk (k+1,some g') (by first| omega| (dsimp only;omega)) ⟨by omega,by rw[hn];simp⟩ ?_
     simp only[hn,e3,e4]
     exact dg
   by_cases pO:x.id=b
   · have Mv:j<k:=by
       rcases Nat.lt_trichotomy k j with h| h| h
       · exact absurd pO (hyb k x h hx)
       · exact absurd h nW
       · exact h
     have e1:decide (j<k)=true:=by simpa using Mv
     rw[e1] at e3
     simp only[e1]
     refine ov (dn:=true) (oe0:=none) (ow0:=none) (f:=f) (x:=x) (by simp[hx]) rfl bk hF (bp ..) iT.1 kD pO fun T' O' g' dg=>bc.mk (k+1,some g') (by first| omega| (dsimp only;omega)) ⟨by omega,by rw[hn];simp⟩ ?_
     simp only[hn,e3,e4]
     exact dg
   · refine ot (oe0:=none) (ow0:=none) (f:=f) (x:=x) (by simp[hx]) rfl bk hF (bp ..) iT.1 kD pO fun T' O' g' dg=>bc.mk (k+1,some g') (by first| omega| (dsimp only;omega)) ⟨by omega,by rw[hn];simp⟩ ?_
     simp only[hn,e3,e4]
     exact dg
 obtain rfl:k=m.ah.length:=by omega
 clear hk bk
 have cT:=jn ui vr f m.ah.length (List.getElem?_eq_some_iff.1 ui).1
 try dsimp only
 generalize aR m.ah i j f m.ah.length=Fs at*
 cases of with
 | none=>exact absurd (iT.1 rfl) cT
 | some g9=>
   clear iT cT hs hi hj
   cases oe with
   | none=>
     have h0:=vc.1 rfl
     subst h0
     (conv=>whnf);repeat' ((first| intro g| refine aH.mk _ (dU (by simp)) ?_| refine st ?_| (first| refine b1 ?_ ?_| refine b2 ?_ ?_| refine Br.mk ?_ ?_) <;>intro hc| exact rfl) <;>conv=>whnf)
     exact fw (.inl rfl) (.inl (by rw[CA];rfl))
   | some g8=>
     (conv=>whnf);repeat' ((first| intro g| refine aH.mk _ (dU (by simp)) ?_| refine st ?_| (first| refine b1 ?_ ?_| refine b2 ?_ ?_| refine Br.mk ?_ ?_) <;>intro hc| exact rfl) <;>conv=>whnf)
     exact fw (.inr rfl) (.inl (by rw[CA];rfl))
end Go.AM
set_option maxRecDepth 20000
namespace Go.AM
set_option maxHeartbeats 4000000 in
theorem DY {m:aG} (hs:rJ m) {a b:Int} (hc:jX m a b=0) {i j:Nat} {f y:ar} (hi:findF m.ah a=some i) (yu:m.ah[i]? =some f) (hj:findF m.ah b=some j) (ui:m.ah[j]? =some y) (vr:i≠j) (py:a≠b) (Ur:m.an=[])
   (w9:Ev E 92 [m.v] ⟨.agg [.nils,.own 5 (m.ah.map ar.v),(.own 8 (m.ways.map Way.v)),.own 7 (m.aw.map Place.v)],[]⟩):
   ∃res,Ev E 486 [m.v,vi a,vi b] res∧pz m (bA m.an a b m.an.length) (aR m.ah i j f m.ah.length) res:=by
 have h2:=qv (m:=m) ⟨by have:=hs.e;omega,by have:=hs.f;omega⟩ a b
 rw[hc] at h2
 have hf:=cj (m:=m) (by have:=hs.f;omega) hi yu
 have hE:m.an.length< 1000:=hs.e
 have hF:m.ah.length< 1000:=hs.f
 refine Ev.cQ yg (yh _) rfl ?_
 (conv=>whnf);repeat' ((first| intro g| refine ag.mk _ (h2) ?_| refine ag.mk _ (hf) ?_| refine ag.mk _ (w9) ?_| refine st ?_| (first| refine b1 ?_ ?_| refine b2 ?_ ?_| refine Br.mk ?_ ?_) <;>intro hc| exact rfl) <;>conv=>whnf)
 clear h2 hf w9
 rename_i g3 g6 g9 gF gW gP dK
 obtain⟨oe,Gl⟩: ∃x:Option Nat,x=none:=⟨none,rfl⟩
 have vc:oe=none↔bA m.an a b m.an.length=[]:=by rw[Gl,Ur];simp[bA]
 refine ba.by (fun (_:Unit)=> ⟨[(1,vi a),(2,vi b),(6,.ptr 112 g6 0 0),(9,.ptr 160 g9 0 0),(11,.ptr 192 dK 0 0),(12,.ptr 208 g 0 0),(13,aF 0)],(112,⟨g6,4,false,false,some [aG.zero.v]⟩):: (160,⟨g9,5,false,false,some [f.v]⟩):: (192,⟨dK,4,false,false,some [.agg [.nils,.sl 561 gF 0 (m.ah.map ar.v).length,.sl 562 gW 0 (m.ways.map Way.v).length,.sl 563 gP 0 (m.aw.map Place.v).length]]⟩):: (208,⟨g,4,false,false,some [.agg [.nils,.nils,.sl 562 gW 0 (m.ways.map Way.v).length,.sl 563 gP 0 (m.aw.map Place.v).length]]⟩):: (561,⟨gF,5,true,false,some (m.ah.map ar.v)⟩):: (562,⟨gW,8,true,false,some (m.ways.map Way.v)⟩):: (563,⟨gP,7,true,false,some (m.aw.map Place.v)⟩):: ([])⟩) (fun _=>True) (fun _=>0) () (by(refine⟨?_,?_⟩ <;>repeat' (first| exact True.intro| refine ai ?_| refine And.intro ?_ ?_))) trivial ?_
 rintro⟨⟩ _
 (conv=>whnf);repeat' ((first| intro g| refine st ?_| (first| refine b1 ?_ ?_| refine b2 ?_ ?_| refine Br.mk ?_ ?_) <;>intro hc| exact rfl) <;>conv=>whnf)
 generalize RY:bA m.an a b m.an.length=Es at*
 refine ba.by (fun ((k,of):Nat×Option Nat)=> ⟨[(1,vi a),(2,vi b),(6,.ptr 112 g6 0 0),(9,.ptr 160 g9 0 0),(11,.ptr 192 dK 0 0),(12,.ptr 208 g 0 0),(15,.bool (decide (i<k))),(16,.bool (decide (j<k))),(17,aF k)],(112,⟨g6,4,false,false,some [aG.zero.v]⟩):: (160,⟨g9,5,false,false,some [f.v]⟩):: (192,⟨dK,4,false,false,some [.agg [.nils,.sl 561 gF 0 (m.ah.map ar.v).length,.sl 562 gW 0 (m.ways.map Way.v).length,.sl 563 gP 0 (m.aw.map Place.v).length]]⟩):: (208,⟨g,4,false,false,some [.agg [lV 210 oe Es.length,lV 211 of (aR m.ah i j f k).length,.sl 562 gW 0 (m.ways.map Way.v).length,.sl 563 gP 0 (m.aw.map Place.v).length]]⟩):: (561,⟨gF,5,true,false,some (m.ah.map ar.v)⟩):: (562,⟨gW,8,true,false,some (m.ways.map Way.v)⟩):: (563,⟨gP,7,true,false,some (m.aw.map Place.v)⟩):: (lR 211 5 of ((aR m.ah i j f k).map ar.v)++lR 210 4 oe (Es.map Edge.v))⟩)
   (fun (k,of)=>k≤m.ah.length∧(of=none↔aR m.ah i j f k=[])) (fun (k,_)=>m.ah.length - k) (0,none) ?_ ⟨by simp,by simp[aR]⟩ ?_
 · subst Gl; (refine⟨?_,?_⟩ <;>repeat' (first| exact True.intro| refine And.intro ((by(conv=>whnf);first| rfl| simp)) ?_| refine ai ?_| refine And.intro ?_ ?_))
 rintro⟨k,of⟩ ⟨hk,iT⟩
 try dsimp only at hk iT
 by_cases bk:k<m.ah.length
 · obtain⟨x,hx⟩: ∃x,m.ah[k]? =some x:=⟨_,aL bk⟩
   obtain⟨fa,xJ,GA,Ms⟩:=cu hi
   obtain⟨ya,xK,Mt,hyb⟩:=cu hj
   by_cases ke:k=i
   · have hn:aR m.ah i j f (k+1)=aR m.ah i j f k:=by rw[aR,hx];simp only[if_pos ke]
     have kD:x.id=a:=by subst ke;rw[hx] at xJ;injection xJ with xJ;rw[xJ];exact GA
     have e1:decide (i<k)=false:=by simp[ke]
     have e2:decide (i<k+1)=true:=by simp[ke]
     have e3:decide (j<k+1)=decide (j<k):=by simp only[decide_eq_decide];omega
     simp only[e1]
     refine q7 (gn:=true) (oe0:=none) (ow0:=(some gW)) (f:=f) (x:=x) (by simp[hx]) rfl bk hF (bp ..) iT.1 kD fun T' O' dg=>bc.mk (k+1,of) (by first| omega| (dsimp only;omega)) ⟨by omega,by rw[hn];exact iT⟩ ?_
     simp only[hn,e2,e3]
     exact dg
   have e4:decide (i<k+1)=decide (i<k):=by simp only[decide_eq_decide];omega
   by_cases nW:k=j
   · have hn:aR m.ah i j f (k+1)=aR m.ah i j f k++[gR x f]:=by rw[aR,hx];simp only[if_neg ke,if_pos nW]
     have pO:x.id=b:=by subst nW;rw[hx] at xK;injection xK with xK;rw[xK];exact Mt
     have kD: ¬x.id=a:=fun h=>py (h.symm.trans pO)
     have e1:decide (j<k)=false:=by simp[nW]
     have e2:decide (j<k+1)=true:=by simp[nW]
     simp only[e1]
     by_cases xZ:x.name=[]
     · refine ox (dn:=true) (oe0:=none) (ow0:=(some gW)) (f:=f) (x:=x) (by simp[hx]) rfl bk hF (bp ..) iT.1 kD pO xZ fun T' O' g' dg=>bc.mk (k+1,some g') (by first| omega| (dsimp only;omega)) ⟨by omega,by rw[hn];simp⟩ ?_
       simp only[hn,e2,e4]
       exact dg
     · refine oy (dn:=true) (oe0:=none) (ow0:=(some gW)) (f:=f) (x:=x) (by simp[hx]) rfl bk hF (bp ..) iT.1 kD pO xZ fun T' O' g' dg=>bc.mk (k+1,some g') (by first| omega| (dsimp only;omega)) ⟨by omega,by rw[hn];simp⟩ ?_
       simp only[hn,e2,e4]
       exact dg
   have e3:decide (j<k+1)=decide (j<k):=by simp only[decide_eq_decide];omega
   have hn:aR m.ah i j f (k+1)=aR m.ah i j f k++[x]:=by rw[aR,hx];simp only[if_neg ke,if_neg nW]
   by_cases kD:x.id=a
   · have vz:i<k:=by
       rcases Nat.lt_trichotomy k i with h| h| h
       · exact absurd kD (Ms k x h hx)
       · exact absurd h ke
       · exact h
     have e1:decide (i<k)=true:=by simpa using vz
     rw[e1] at e4
     simp only[e1]
     refine ou (gn:=true) (oe0:=none) (ow0:=(some gW)) (f:=f) (x:=x) (by simp[hx]) rfl bk hF (bp ..) iT.1 kD (fun h=>py (kD.symm.trans h)) fun T' O' g' dg=>bc.mk (k+1,some g') (by first| omega| (dsimp only;omega)) ⟨by omega,by rw[hn];simp⟩ ?_
     simp only[hn,e3,e4]
     exact dg
   by_cases pO:x.id=b
   · have Mv:j<k:=by
       rcases Nat.lt_trichotomy k j with h| h| h
       · exact absurd pO (hyb k x h hx)
       · exact absurd h nW
       · exact h
     have e1:decide (j<k)=true:=by simpa using Mv
     rw[e1] at e3
     simp only[e1]
     refine ov (dn:=true) (oe0:=none) (ow0:=(some gW)) (f:=f) (x:=x) (by simp[hx]) rfl bk hF (bp ..) iT.1 kD pO fun T' O' g' dg=>bc.mk (k+1,some g') (by first| omega| (dsimp only;omega)) ⟨by omega,by rw[hn];simp⟩ ?_
     simp only[hn,e3,e4]
     exact dg
   · refine ot (oe0:=none) (ow0:=(some gW)) (f:=f) (x:=x) (by simp[hx]) rfl bk hF (bp ..) iT.1 kD pO fun T' O' g' dg=>bc.mk (k+1,some g') (by first| omega| (dsimp only;omega)) ⟨by omega,by rw[hn];simp⟩ ?_
     simp only[hn,e3,e4]
     exact dg
 obtain rfl:k=m.ah.length:=by omega
 clear hk bk
 have cT:=jn ui vr f m.ah.length (List.getElem?_eq_some_iff.1 ui).1
 try dsimp only
 generalize aR m.ah i j f m.ah.length=Fs at*
 cases of with
 | none=>exact absurd (iT.1 rfl) cT
 | some g9=>
   clear iT cT hs hi hj
   cases oe with
   | none=>
     have h0:=vc.1 rfl
     subst h0
     (conv=>whnf);repeat' ((first| intro g| refine aH.mk _ (dU (by simp)) ?_| refine st ?_| (first| refine b1 ?_ ?_| refine b2 ?_ ?_| refine Br.mk ?_ ?_) <;>intro hc| exact rfl) <;>conv=>whnf)
     exact fw (.inl rfl) (.inr rfl)
   | some g8=>
     (conv=>whnf);repeat' ((first| intro g| refine aH.mk _ (dU (by simp)) ?_| refine st ?_| (first| refine b1 ?_ ?_| refine b2 ?_ ?_| refine Br.mk ?_ ?_) <;>intro hc| exact rfl) <;>conv=>whnf)
     exact fw (.inr rfl) (.inr rfl)
end Go.AM
