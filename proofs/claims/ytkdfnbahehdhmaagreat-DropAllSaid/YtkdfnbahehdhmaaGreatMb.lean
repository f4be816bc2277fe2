/-
  Texts of the proof, joined by program: SMadeE, SMadeF, SMadeG. Own work.
-/
import Derived.Test.YtkdfnbahehdhmaaGreatMa
set_option linter.unusedSimpArgs false
set_option linter.unusedVariables false
set_option maxRecDepth 20000
namespace Go.AM
theorem ag.ex {E:Env} {f:Nat} {as0:List V} {q P:fL→Prop} (h: ∃res,Ev E f as0 res∧P res) (k: ∀res,P res→q res):ag E f as0 q:=by
 obtain⟨res,h1,h2⟩:=h
 exact⟨res,h1,k res h2⟩
theorem GO {l:List Int} (hl:l.length< 9223372036854775808) {es:List Edge} {n:Nat} (he:ij es n) (hn:n< 1000) {ps:List Pt} (vW:iH ps) (left right:Int) (a0:Nat):
  ∃res,Ev E 113 [.msl 4 (es.map Edge.v) 0 es.length,dJ ps,vi left,vi right,.mptr 2 [c8 l a0] 0 0] res∧ ∃ (es':List Edge) (a b:Nat),ij es' (n+1)∧res=⟨.sl 0 b 0 es'.length,[(b,es'.map Edge.v),(0,[c8 l a])]⟩:=by
 obtain⟨es',a,b,h1,h2⟩:=Bu hl he hn vW left right a0
 exact⟨_,h2,es',a,b,h1,rfl⟩
theorem xY {l:List Int} (hl:l.length< 1000000) (n:Int): ∃res,Ev E 162 [.lit 1 (l.map vi),vi n] res∧ ∃l':List Int,l'.length≤l.length+1∧(res=⟨.lit 1 (l'.map vi),[]⟩∨res=⟨.own 1 (l'.map vi),[]⟩):=by
 obtain⟨l',h1,h2| h2⟩:=Q5 hl n
 · exact⟨_,h2,l',h1,.inl rfl⟩
 · exact⟨_,h2,l',h1,.inr rfl⟩
set_option maxHeartbeats 1000000 in
theorem Ek {l:List Int} (hl:l.length< 9223372036854775808) {es:List Edge} {n:Nat} (he:ij es n) (hn:n< 1000) (c:Pt) (Q6:Int) (a0:Nat):
   ∃res,Ev E 117 [.msl 4 (es.map Edge.v) 0 es.length,c.v,vi Q6,.mptr 2 [c8 l a0] 0 0] res∧ ∃ (es':List Edge) (a b:Nat),ij es' (n+1)∧res=⟨.sl 0 b 0 es'.length,[(b,es'.map Edge.v),(0,[c8 l a])]⟩:=by
 refine Ev.cO Vg (Vh _) rfl ?_
 have n8:=fun a=>b8 hl 8 (a:=a) (by omega) (by omega)
 have n2:=fun a=>b8 hl 2 (a:=a) (by omega) (by omega)
 have f4: ∀a b c d:Pt,iH [a,b,c,d]:=fun a b c d=> ⟨by simp,by simp⟩
 have f5: ∀a b c d e:Pt,iH [a,b,c,d,e]:=fun a b c d e=> ⟨by simp,by simp⟩
 have oO:=he.1
 (conv=>whnf);repeat' ((first| intro g| refine aL.mk _ (ei rfl) ?_| refine ag.mk _ (n8 _) ?_| refine ag.mk _ (n2 _) ?_| refine st ?_| (refine aL.bP ?_;intro s) | (first| refine b1 ?_ ?_| refine b2 ?_ ?_| refine Br.mk ?_ ?_) <;>intro hc| exact rfl) <;>conv=>whnf)
 · have qB: ∀x1 y1 x2 y2 x3 y3 x4 y4 x5 y5 le ri a,∃res,Ev E 113 [.msl 4 (es.map Edge.v) 0 es.length,.lit 2 [.agg [vi x1,vi y1],.agg [vi x2,vi y2],.agg [vi x3,vi y3],.agg [vi x4,vi y4],.agg [vi x5,vi y5]],vi le,vi ri,.mptr 2 [c8 l a] 0 0] res∧ ∃ (es':List Edge) (a b:Nat),ij es' (n+1)∧res=⟨.sl 0 b 0 es'.length,[(b,es'.map Edge.v),(0,[c8 l a])]⟩:=
    fun x1 y1 x2 y2 x3 y3 x4 y4 x5 y5 le ri a=>GO hl he hn (f5 ⟨x1,y1⟩ ⟨x2,y2⟩ ⟨x3,y3⟩ ⟨x4,y4⟩ ⟨x5,y5⟩) le ri a
   refine ag.ex (qB _ _ _ _ _ _ _ _ _ _ _ _ _) ?_
   rintro _ ⟨es',a,b,h1,rfl⟩
   (conv=>whnf);repeat' ((first| intro g| refine st ?_| (refine aL.bP ?_;intro s) | (first| refine b1 ?_ ?_| refine b2 ?_ ?_| refine Br.mk ?_ ?_) <;>intro hc| exact rfl) <;>conv=>whnf)
   exact⟨es',a,_,h1,rfl⟩
 · have qB: ∀x1 y1 x2 y2 x3 y3 x4 y4 le ri a,∃res,Ev E 113 [.msl 4 (es.map Edge.v) 0 es.length,.lit 2 [.agg [vi x1,vi y1],.agg [vi x2,vi y2],.agg [vi x3,vi y3],.agg [vi x4,vi y4]],vi le,vi ri,.mptr 2 [c8 l a] 0 0] res∧ ∃ (es':List Edge) (a b:Nat),ij es' (n+1)∧res=⟨.sl 0 b 0 es'.length,[(b,es'.map Edge.v),(0,[c8 l a])]⟩:=
    fun x1 y1 x2 y2 x3 y3 x4 y4 le ri a=>GO hl he hn (f4 ⟨x1,y1⟩ ⟨x2,y2⟩ ⟨x3,y3⟩ ⟨x4,y4⟩) le ri a
   refine ag.ex (qB _ _ _ _ _ _ _ _ _ _ _) ?_
   rintro _ ⟨es',a,b,h1,rfl⟩
   (conv=>whnf);repeat' ((first| intro g| refine st ?_| (refine aL.bP ?_;intro s) | (first| refine b1 ?_ ?_| refine b2 ?_ ?_| refine Br.mk ?_ ?_) <;>intro hc| exact rfl) <;>conv=>whnf)
   exact⟨es',a,_,h1,rfl⟩
set_option maxHeartbeats 1000000 in
theorem zl {es:List Edge} (he:es.length< 10000): ∃res,Ev E 118 [.lit 4 (es.map Edge.v)] res∧ ∃fs:List aI,fs.length≤2*es.length∧res=⟨.own 5 (fs.map aI.v),[]⟩:=by
 refine Ev.cO Vi (Vj _) rfl ?_
 (conv=>whnf);repeat' ((first| intro g| refine st ?_| (refine aL.bP ?_;intro s) | (first| refine b1 ?_ ?_| refine b2 ?_ ?_| refine Br.mk ?_ ?_) <;>intro hc| exact rfl) <;>conv=>whnf)
 refine aV.by (fun ((k,ids):Nat×List Int)=> ⟨[(0,.lit 4 (es.map Edge.v)),(3,.lit 1 (ids.map vi)),(4,aD k)],[]⟩) (fun (k,ids)=>k≤es.length∧ids.length≤2*k) (fun (k,_)=>es.length - k) (0,[]) (by(refine⟨?_,?_⟩ <;>repeat' (first| exact True.intro| refine ai ?_| refine And.intro ?_ ?_))) ⟨by simp,by simp⟩ ?_
 rintro⟨k,ids⟩ ⟨hk,hi⟩
 try dsimp only at hk hi
 by_cases bl:k<es.length
 · obtain⟨e,wP⟩: ∃e,es[k]? =some e:=⟨_,aE bl⟩
   by_cases h1:e.left=0 <;>by_cases h2:e.right=0
   · (conv=>whnf);repeat' ((first| intro g| refine aL.mk _ (aq wP rfl) ?_| refine st ?_| (refine aL.bP ?_;intro s) | (first| refine b1 ?_ ?_| refine b2 ?_ ?_| refine Br.mk ?_ ?_) <;>intro hc| exact rfl) <;>conv=>whnf)
     exact a9.mk (k+1,ids) (by first| omega| (dsimp only;omega)) ⟨(by first| omega| (dsimp only;omega)),(by first| omega| (dsimp only;omega))⟩ (by(refine⟨?_,?_⟩ <;>repeat' (first| exact True.intro| refine ai ?_| refine And.intro ?_ ?_)))
   · (conv=>whnf);repeat' ((first| intro g| refine aL.mk _ (aq wP rfl) ?_| refine st ?_| (refine aL.bP ?_;intro s) | (first| refine b1 ?_ ?_| refine b2 ?_ ?_| refine Br.mk ?_ ?_) <;>intro hc| exact rfl) <;>conv=>whnf)
     refine ag.ex (xY (by omega) _) ?_
     rintro _ ⟨l',wQ,rfl| rfl⟩
     all_goals
       (conv=>whnf);repeat' ((first| intro g| refine aL.mk _ (aq wP rfl) ?_| refine st ?_| (refine aL.bP ?_;intro s) | (first| refine b1 ?_ ?_| refine b2 ?_ ?_| refine Br.mk ?_ ?_) <;>intro hc| exact rfl) <;>conv=>whnf)
       exact a9.mk (k+1,l') (by first| omega| (dsimp only;omega)) ⟨(by first| omega| (dsimp only;omega)),(by first| omega| (dsimp only;omega))⟩ (by(refine⟨?_,?_⟩ <;>repeat' (first| exact True.intro| refine ai ?_| refine And.intro ?_ ?_)))
   · (conv=>whnf);repeat' ((first| intro g| refine aL.mk _ (aq wP rfl) ?_| refine st ?_| (refine aL.bP ?_;intro s) | (first| refine b1 ?_ ?_| refine b2 ?_ ?_| refine Br.mk ?_ ?_) <;>intro hc| exact rfl) <;>conv=>whnf)
     refine ag.ex (xY (by omega) _) ?_
     rintro _ ⟨l',wQ,rfl| rfl⟩
     all_goals
       (conv=>whnf);repeat' ((first| intro g| refine aL.mk _ (aq wP rfl) ?_| refine st ?_| (refine aL.bP ?_;intro s) | (first| refine b1 ?_ ?_| refine b2 ?_ ?_| refine Br.mk ?_ ?_) <;>intro hc| exact rfl) <;>conv=>whnf)
       exact a9.mk (k+1,l') (by first| omega| (dsimp only;omega)) ⟨(by first| omega| (dsimp only;omega)),(by first| omega| (dsimp only;omega))⟩ (by(refine⟨?_,?_⟩ <;>repeat' (first| exact True.intro| refine ai ?_| refine And.intro ?_ ?_)))
   · (conv=>whnf);repeat' ((first| intro g| refine aL.mk _ (aq wP rfl) ?_| refine st ?_| (refine aL.bP ?_;intro s) | (first| refine b1 ?_ ?_| refine b2 ?_ ?_| refine Br.mk ?_ ?_) <;>intro hc| exact rfl) <;>conv=>whnf)
     refine ag.ex (xY (by omega) _) ?_
     rintro _ ⟨l',wQ,rfl| rfl⟩
     all_goals
       (conv=>whnf);repeat' ((first| intro g| refine aL.mk _ (aq wP rfl) ?_| refine st ?_| (refine aL.bP ?_;intro s) | (first| refine b1 ?_ ?_| refine b2 ?_ ?_| refine Br.mk ?_ ?_) <;>intro hc| exact rfl) <;>conv=>whnf)
       refine ag.ex (xY (by omega) _) ?_
       rintro _ ⟨l2,CZ,rfl| rfl⟩
       all_goals
        (conv=>whnf);repeat' ((first| intro g| refine aL.mk _ (aq wP rfl) ?_| refine st ?_| (refine aL.bP ?_;intro s) | (first| refine b1 ?_ ?_| refine b2 ?_ ?_| refine Br.mk ?_ ?_) <;>intro hc| exact rfl) <;>conv=>whnf)
        exact a9.mk (k+1,l2) (by first| omega| (dsimp only;omega)) ⟨(by first| omega| (dsimp only;omega)),(by first| omega| (dsimp only;omega))⟩ (by(refine⟨?_,?_⟩ <;>repeat' (first| exact True.intro| refine ai ?_| refine And.intro ?_ ?_)))
 obtain rfl:k=es.length:=by omega
 (conv=>whnf);repeat' ((first| intro g| refine st ?_| (refine aL.bP ?_;intro s) | (first| refine b1 ?_ ?_| refine b2 ?_ ?_| refine Br.mk ?_ ?_) <;>intro hc| exact rfl) <;>conv=>whnf)
 refine aV.by (fun ((j,fs,g):Nat×List aI×Nat)=> ⟨[(3,.lit 1 (ids.map vi)),(5,.sl 97 g 0 fs.length),(6,aD j)],[(97,⟨g,5,true,false,some (fs.map aI.v)⟩)]⟩) (fun (j,fs,_)=>j≤ids.length∧fs.length=j) (fun (j,_)=>ids.length - j) (0,[],g) (by(refine⟨?_,?_⟩ <;>repeat' (first| exact True.intro| refine ai ?_| refine And.intro ?_ ?_))) ⟨by simp,by simp⟩ ?_
 rintro⟨j,fs,g⟩ ⟨hj,hf⟩
 try dsimp only at hj hf
 by_cases bl:j<ids.length
 · obtain⟨x,hx⟩: ∃x,ids[j]? =some x:=⟨_,aE bl⟩
   (conv=>whnf);repeat' ((first| intro g| refine aL.mk _ (aq hx rfl) ?_| refine st ?_| (refine aL.bP ?_;intro s) | (first| refine b1 ?_ ?_| refine b2 ?_ ?_| refine Br.mk ?_ ?_) <;>intro hc| exact rfl) <;>conv=>whnf)
   exact a9.mk (j+1,fs++[⟨x,[],[],0,0⟩],g) (by first| omega| (dsimp only;omega)) ⟨(by first| omega| (dsimp only;omega)),by simp;omega⟩ (by(refine⟨?_,?_⟩ <;>repeat' (first| exact True.intro| refine ai ?_| refine And.intro ?_ ?_)))
 · (conv=>whnf);repeat' ((first| intro g| refine st ?_| (refine aL.bP ?_;intro s) | (first| refine b1 ?_ ?_| refine b2 ?_ ?_| refine Br.mk ?_ ?_) <;>intro hc| exact rfl) <;>conv=>whnf)
   exact⟨fs,by omega,rfl⟩
end Go.AM
set_option maxRecDepth 20000
namespace Go.AM
def Bv:al→Nat→al
 | .seq _ b,n+1=>Bv b n
 | c,_=>c
def fb (l:List Int):V:= .lit 1 (l.map vi)
def fU (ls:List (List Int)):V:= .lit 1 (ls.map fb)
set_option maxHeartbeats 4000000 in
theorem W6 {first second ej:List Int} (hl:first.length< 9223372036854775808) {w h:Nat} (hw:w≤3) (hh:h≤2) (S:SS) (gd go a0:Nat) (Q7:List Int) (h6:Q7.length=6)
   (hS:SS.Sub ⟨[(5,fb second),(6,fb ej),(7,.ptr 672 gd 0 0),(8,aD w),(9,aD h),(10,.ptr 176 go 0 0),(11,aD 0)],[(672,⟨gd,2,false,false,some [c8 first a0]⟩),(176,⟨go,6,false,false,some [.agg (Q7.map vi)]⟩)]⟩ S)
   (Q:bd→SS→Prop)
   (hQ: ∀ (a:Nat) (cs:List Int),cs.length=6→Q (.exit 0) ⟨[(5,fb second),(6,fb ej),(7,.ptr 672 gd 0 0),(8,aD w),(9,aD h),(10,.ptr 176 go 0 0)],[(672,⟨gd,2,false,false,some [c8 first a]⟩),(176,⟨go,6,false,false,some [.agg (cs.map vi)]⟩)]⟩):
   aV E xX S Q:=by
 have n5:=fun a=>b8 hl 5 (a:=a) (by omega) (by omega)
 refine aV.M5 ?_
 refine aV.by (fun ((i,cs,a):Nat×List Int×Nat)=> ⟨[(5,fb second),(6,fb ej),(7,.ptr 672 gd 0 0),(8,aD w),(9,aD h),(10,.ptr 176 go 0 0),(11,aD i)],[(672,⟨gd,2,false,false,some [c8 first a]⟩),(176,⟨go,6,false,false,some [.agg (cs.map vi)]⟩)]⟩)
   (fun (i,cs,_)=>i≤w∧cs.length=6) (fun (i,_)=>w - i) (0,Q7,a0) hS ⟨by simp,h6⟩ ?_
 rintro⟨i,cs,a⟩ ⟨hi,db⟩
 try dsimp only at hi db
 by_cases bl:i<w
 · (conv =>whnf);repeat' ((first| intro g| refine st ?_| (refine aL.bP ?_;intro s) | (first| refine b1 ?_ ?_| refine b2 ?_ ?_| refine Br.mk ?_ ?_) <;>intro hc| exact rfl) <;>conv=>whnf)
   refine aV.by (fun ((j,cs,a):Nat×List Int×Nat)=> ⟨[(5,fb second),(6,fb ej),(7,.ptr 672 gd 0 0),(8,aD w),(9,aD h),(10,.ptr 176 go 0 0),(11,aD i),(12,aD j)],[(672,⟨gd,2,false,false,some [c8 first a]⟩),(176,⟨go,6,false,false,some [.agg (cs.map vi)]⟩)]⟩)
     (fun (j,cs,_)=>j≤h∧cs.length=6) (fun (j,_)=>h - j) (0,cs,a) (by(refine⟨?_,?_⟩ <;>repeat' (first| exact True.intro| refine ai ?_| refine And.intro ?_ ?_))) ⟨by simp,db⟩ ?_
   rintro⟨j,cs,a⟩ ⟨hj,db⟩
   try dsimp only at hj db
   by_cases acV:j<h
   · match cs,db with
     | [x0,x1,x2,x3,x4,x5],_=>
       rcases(by omega:i=0∨i=1∨i=2) with rfl| rfl| rfl<;>rcases(by omega:j=0∨j=1) with rfl| rfl
       all_goals
         (conv=>whnf);repeat' ((first| intro g| refine dI.mk (⟨by decide,by decide⟩) ?_| refine ag.mk _ (n5 _) ?_| refine st ?_| (refine aL.bP ?_;intro s) | (first| refine b1 ?_ ?_| refine b2 ?_ ?_| refine Br.mk ?_ ?_) <;>intro hc| exact rfl) <;>conv=>whnf)
         all_goals first
          | exact a9.mk (1,[_,_,_,_,_,_],_) (by first| omega| (dsimp only;omega)) ⟨(by first| omega| (dsimp only;omega)),rfl⟩ (by(refine⟨?_,?_⟩ <;>repeat' (first| exact True.intro| refine ai ?_| refine And.intro ?_ ?_)))
          | exact a9.mk (2,[_,_,_,_,_,_],_) (by first| omega| (dsimp only;omega)) ⟨(by first| omega| (dsimp only;omega)),rfl⟩ (by(refine⟨?_,?_⟩ <;>repeat' (first| exact True.intro| refine ai ?_| refine And.intro ?_ ?_)))
          | trace_state
   · (conv=>whnf);repeat' ((first| intro g| refine st ?_| (refine aL.bP ?_;intro s) | (first| refine b1 ?_ ?_| refine b2 ?_ ?_| refine Br.mk ?_ ?_) <;>intro hc| exact rfl) <;>conv=>whnf)
     exact a9.mk (i+1,cs,a) (by first| omega| (dsimp only;omega)) ⟨(by first| omega| (dsimp only;omega)),db⟩ (by(refine⟨?_,?_⟩ <;>repeat' (first| exact True.intro| refine ai ?_| refine And.intro ?_ ?_)))
 · (conv=>whnf);repeat' ((first| intro g| refine st ?_| (refine aL.bP ?_;intro s) | (first| refine b1 ?_ ?_| refine b2 ?_ ?_| refine Br.mk ?_ ?_) <;>intro hc| exact rfl) <;>conv=>whnf)
   refine⟨_,?_,hQ a cs db⟩
   (refine⟨?_,?_⟩ <;>repeat' (first| exact True.intro| refine ai ?_| refine And.intro ?_ ?_))
end Go.AM
set_option maxRecDepth 20000
namespace Go.AM
abbrev Mb (second ej:List Int) (gd w h go ge:Nat) (x0 x1 x2 x3 x4 x5:Int) (first:List Int) (ad ae:Nat) (es:List Edge) (g7:Nat) (more:List (Nat×V)):SS:=
 ⟨more++[(5,fb second),(7,.ptr 672 gd 0 0),(8,aD w),(9,aD h),(10,.ptr 176 go 0 0),(13,.ptr 1712 ge 0 0),(14,.sl 241 g7 0 es.length)],
   [(672,⟨gd,2,false,false,some [c8 first ad]⟩),(176,⟨go,6,false,false,some [.agg [vi x0,vi x1,vi x2,vi x3,vi x4,vi x5]]⟩),(1712,⟨ge,2,false,false,some [c8 ej ae]⟩),(241,⟨g7,4,true,false,some (es.map Edge.v)⟩)]⟩
section
variable {second ej first:List Int} (h2:second.length< 9223372036854775808) (h3:ej.length< 9223372036854775808) {w h:Nat} (hw:w≤3) (hh:h≤2) {gd go ge ad:Nat} {x0 x1 x2 x3 x4 x5:Int}
include h2 h3 hw hh
set_option maxHeartbeats 4000000 in
theorem W7 (S:SS) (W8:Nat) (g0:Nat) (hS:SS.Sub (Mb second ej gd w h go ge x0 x1 x2 x3 x4 x5 first ad W8 [] g0 [(15,aD 0)]) S) (Q:bd→SS→Prop)
   (hQ: ∀ (es:List Edge) (ae g7:Nat),ij es 9→Q (.exit 4) (Mb second ej gd w h go ge x0 x1 x2 x3 x4 x5 first ad ae es g7 [])):aV E Gl S Q:=by
 refine aV.M5 ?_
 refine aV.by (fun ((j,es,ae,g7):Nat×List Edge×Nat×Nat)=>Mb second ej gd w h go ge x0 x1 x2 x3 x4 x5 first ad ae es g7 [(15,aD j)])
   (fun (j,es,_,_)=>j≤h+1∧ij es (3*j)) (fun (j,_)=>h+1 - j) (0,[],W8,g0) hS ⟨by simp,⟨by simp,by simp⟩⟩ ?_
 rintro⟨j,es,ae,g7⟩ ⟨hj,he⟩
 try dsimp only at hj he
 by_cases bl:j≤h
 · (conv=>whnf);repeat' ((first| intro g| refine st ?_| (refine aL.bP ?_;intro s) | (first| refine b1 ?_ ?_| refine b2 ?_ ?_| refine Br.mk ?_ ?_) <;>intro hc| exact rfl) <;>conv=>whnf)
   refine aV.by (fun ((i,es,ae,g7):Nat×List Edge×Nat×Nat)=>Mb second ej gd w h go ge x0 x1 x2 x3 x4 x5 first ad ae es g7 [(15,aD j),(16,aD i)])
     (fun (i,es,_,_)=>i≤w∧ij es (3*j+i)) (fun (i,_)=>w - i) (0,es,ae,g7) (by(refine⟨?_,?_⟩ <;>repeat' (first| exact True.intro| refine ai ?_| refine And.intro ?_ ?_))) ⟨by simp,he⟩ ?_
   rintro⟨i,es,ae,g7⟩ ⟨hi,he⟩
   try dsimp only at hi he
   have oO:=he.1
   by_cases abo:i<w
   · have hiw:IntKind.i64.wrap ((i:Int)+1)=((i+1:Nat):Int):=(wrap64 (by omega) (by omega)).trans (by omega)
     obtain⟨p1,SJ⟩:=tW h2 (i:=i) (j:=j) (by omega) (by omega)
     obtain⟨p2,uM⟩:=tW h2 (i:=i+1) (j:=j) (by omega) (by omega)
     have Q8:Ev E 115 [.lit 1 (second.map vi),vi (IntKind.i64.wrap ((i:Int)+1)),aD j] ⟨p2.v,[]⟩:=by rw[hiw];exact uM
     obtain⟨ps,a1,l1,l2,Q9⟩:=wN h3 p1 p2 ae
     obtain⟨c1,zm⟩:=tX (cs:=[x0,x1,x2,x3,x4,x5]) rfl hw hh (i:Int) (j:Int)
     obtain⟨c2,qC⟩:=tX (cs:=[x0,x1,x2,x3,x4,x5]) rfl hw hh (i:Int) (IntKind.i64.wrap ((j:Int) - 1))
     obtain⟨es',a2,b,gV,qB⟩:=Bu h3 he (by omega) (ps:=ps) ⟨l1,l2⟩ c1 c2 a1
     (conv=>whnf);repeat' ((first| intro g| refine ag.mk _ (SJ) ?_| refine ag.mk _ (Q8) ?_| refine ag.mk _ (Q9) ?_| refine ag.mk _ (zm) ?_| refine ag.mk _ (qC) ?_| refine ag.mk _ (qB) ?_| refine st ?_| (refine aL.bP ?_;intro s) | (first| refine b1 ?_ ?_| refine b2 ?_ ?_| refine Br.mk ?_ ?_) <;>intro hc| exact rfl) <;>conv=>whnf)
     exact a9.mk (i+1,es',a2,_) (by first| omega| (dsimp only;omega)) ⟨(by first| omega| (dsimp only;omega)),gV⟩ (by(refine⟨?_,?_⟩ <;>repeat' (first| exact True.intro| refine ai ?_| refine And.intro ?_ ?_)))
   · obtain rfl:i=w:=by omega
     (conv=>whnf);repeat' ((first| intro g| refine st ?_| (refine aL.bP ?_;intro s) | (first| refine b1 ?_ ?_| refine b2 ?_ ?_| refine Br.mk ?_ ?_) <;>intro hc| exact rfl) <;>conv=>whnf)
     exact a9.mk (j+1,es,ae,g7) (by first| omega| (dsimp only;omega)) ⟨(by first| omega| (dsimp only;omega)),he.mono (by omega)⟩ (by(refine⟨?_,?_⟩ <;>repeat' (first| exact True.intro| refine ai ?_| refine And.intro ?_ ?_)))
 · (conv=>whnf);repeat' ((first| intro g| refine st ?_| (refine aL.bP ?_;intro s) | (first| refine b1 ?_ ?_| refine b2 ?_ ?_| refine Br.mk ?_ ?_) <;>intro hc| exact rfl) <;>conv=>whnf)
   refine⟨_,?_,hQ es ae g7 (he.mono (by omega))⟩
   (refine⟨?_,?_⟩ <;>repeat' (first| exact True.intro| refine ai ?_| refine And.intro ?_ ?_))
set_option maxHeartbeats 4000000 in
theorem W9 (S:SS) (ng:List Edge) (he0:ij ng 9) (W8:Nat) (g0:Nat) (hS:SS.Sub (Mb second ej gd w h go ge x0 x1 x2 x3 x4 x5 first ad W8 ng g0 [(17,aD 0)]) S) (Q:bd→SS→Prop)
   (hQ: ∀ (es:List Edge) (ae g7:Nat),ij es 17→Q (.exit 8) (Mb second ej gd w h go ge x0 x1 x2 x3 x4 x5 first ad ae es g7 [])):aV E Gm S Q:=by
 refine aV.M5 ?_
 refine aV.by (fun ((j,es,ae,g7):Nat×List Edge×Nat×Nat)=>Mb second ej gd w h go ge x0 x1 x2 x3 x4 x5 first ad ae es g7 [(17,aD j)])
   (fun (j,es,_,_)=>j≤h∧ij es (9+4*j)) (fun (j,_)=>h - j) (0,ng,W8,g0) hS ⟨by simp,he0⟩ ?_
 rintro⟨j,es,ae,g7⟩ ⟨hj,he⟩
 try dsimp only at hj he
 by_cases bl:j<h
 · (conv=>whnf);repeat' ((first| intro g| refine st ?_| (refine aL.bP ?_;intro s) | (first| refine b1 ?_ ?_| refine b2 ?_ ?_| refine Br.mk ?_ ?_) <;>intro hc| exact rfl) <;>conv=>whnf)
   refine aV.by (fun ((i,es,ae,g7):Nat×List Edge×Nat×Nat)=>Mb second ej gd w h go ge x0 x1 x2 x3 x4 x5 first ad ae es g7 [(17,aD j),(18,aD i)])
     (fun (i,es,_,_)=>i≤w+1∧ij es (9+4*j+i)) (fun (i,_)=>w+1 - i) (0,es,ae,g7) (by(refine⟨?_,?_⟩ <;>repeat' (first| exact True.intro| refine ai ?_| refine And.intro ?_ ?_))) ⟨by simp,he⟩ ?_
   rintro⟨i,es,ae,g7⟩ ⟨hi,he⟩
   try dsimp only at hi he
   have oO:=he.1
   by_cases abo:i≤w
   · have Ej:IntKind.i64.wrap ((j:Int)+1)=((j+1:Nat):Int):=(wrap64 (by omega) (by omega)).trans (by omega)
     obtain⟨p1,SJ⟩:=tW h2 (i:=i) (j:=j) (by omega) (by omega)
     obtain⟨p2,uM⟩:=tW h2 (i:=i) (j:=j+1) (by omega) (by omega)
     have Q8:Ev E 115 [.lit 1 (second.map vi),aD i,vi (IntKind.i64.wrap ((j:Int)+1))] ⟨p2.v,[]⟩:=by rw[Ej];exact uM
     obtain⟨ps,a1,l1,l2,Q9⟩:=wN h3 p1 p2 ae
     obtain⟨c1,zm⟩:=tX (cs:=[x0,x1,x2,x3,x4,x5]) rfl hw hh (IntKind.i64.wrap ((i:Int) - 1)) (j:Int)
     obtain⟨c2,qC⟩:=tX (cs:=[x0,x1,x2,x3,x4,x5]) rfl hw hh (i:Int) (j:Int)
     obtain⟨es',a2,b,gV,qB⟩:=Bu h3 he (by omega) (ps:=ps) ⟨l1,l2⟩ c1 c2 a1
     (conv=>whnf);repeat' ((first| intro g| refine ag.mk _ (SJ) ?_| refine ag.mk _ (Q8) ?_| refine ag.mk _ (Q9) ?_| refine ag.mk _ (zm) ?_| refine ag.mk _ (qC) ?_| refine ag.mk _ (qB) ?_| refine st ?_| (refine aL.bP ?_;intro s) | (first| refine b1 ?_ ?_| refine b2 ?_ ?_| refine Br.mk ?_ ?_) <;>intro hc| exact rfl) <;>conv=>whnf)
     exact a9.mk (i+1,es',a2,_) (by first| omega| (dsimp only;omega)) ⟨(by first| omega| (dsimp only;omega)),gV⟩ (by(refine⟨?_,?_⟩ <;>repeat' (first| exact True.intro| refine ai ?_| refine And.intro ?_ ?_)))
   · obtain rfl:i=w+1:=by omega
     (conv=>whnf);repeat' ((first| intro g| refine st ?_| (refine aL.bP ?_;intro s) | (first| refine b1 ?_ ?_| refine b2 ?_ ?_| refine Br.mk ?_ ?_) <;>intro hc| exact rfl) <;>conv=>whnf)
     exact a9.mk (j+1,es,ae,g7) (by first| omega| (dsimp only;omega)) ⟨(by first| omega| (dsimp only;omega)),he.mono (by omega)⟩ (by(refine⟨?_,?_⟩ <;>repeat' (first| exact True.intro| refine ai ?_| refine And.intro ?_ ?_)))
 · (conv=>whnf);repeat' ((first| intro g| refine st ?_| (refine aL.bP ?_;intro s) | (first| refine b1 ?_ ?_| refine b2 ?_ ?_| refine Br.mk ?_ ?_) <;>intro hc| exact rfl) <;>conv=>whnf)
   refine⟨_,?_,hQ es ae g7 (he.mono (by omega))⟩
   (refine⟨?_,?_⟩ <;>repeat' (first| exact True.intro| refine ai ?_| refine And.intro ?_ ?_))
end
end Go.AM
