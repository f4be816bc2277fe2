/-
  Texts of the proof, joined by program: SMadeE, SMadeF, SMadeG. Own work.
-/
import Derived.Test.YtkdfnbahehdhmaaGreatMa
set_option linter.unusedSimpArgs false
set_option linter.unusedVariables false
set_option maxRecDepth 20000
namespace Go.AM
theorem ak.ex {E:Env} {f:Nat} {as:List V} {q P:eS→Prop} (h: ∃res,Ev E f as res∧P res) (k: ∀res,P res→q res):ak E f as q:=by
 obtain⟨res,h1,h2⟩:=h
 exact⟨res,h1,k res h2⟩
theorem CO {l:List Int} (hl:l.length< 9223372036854775808) {es:List Edge} {n:Nat} (he:fB es n) (hn:n< 1000) {ps:List Pt} (wh:fR ps) (yg: ∀p ∈ ps,Sm p) (left right:Int) (a0:Nat):
  ∃res,Ev E 113 [.msl 4 (es.map Edge.v) 0 es.length,kj ps,vi left,vi right,.mptr 2 [cz l a0] 0 0] res∧ ∃ (es':List Edge) (a b:Nat),fB es' (n+1)∧res=⟨.sl 0 b 0 es'.length,[(b,es'.map Edge.v),(0,[cz l a])]⟩:=by
 obtain⟨es',a,b,h1,h2⟩:=yF hl he hn wh yg left right a0
 exact⟨_,h2,es',a,b,h1,rfl⟩
theorem va {l:List Int} (hl:l.length< 1000000) (n:Int): ∃res,Ev E 162 [.lit 1 (l.map vi),vi n] res∧ ∃l':List Int,l'.length≤l.length+1∧(res=⟨.lit 1 (l'.map vi),[]⟩∨res=⟨.own 1 (l'.map vi),[]⟩):=by
 obtain⟨l',h1,h2| h2⟩:=KW hl n
 · exact⟨_,h2,l',h1,.inl rfl⟩
 · exact⟨_,h2,l',h1,.inr rfl⟩
set_option maxHeartbeats 1000000 in
theorem AU {l:List Int} (hl:l.length< 9223372036854775808) {es:List Edge} {n:Nat} (he:fB es n) (hn:n< 1000) (c:Pt) (Xx:Nd c) (KX:Int) (a0:Nat):
   ∃res,Ev E 117 [.msl 4 (es.map Edge.v) 0 es.length,c.v,vi KX,.mptr 2 [cz l a0] 0 0] res∧ ∃ (es':List Edge) (a b:Nat),fB es' (n+1)∧res=⟨.sl 0 b 0 es'.length,[(b,es'.map Edge.v),(0,[cz l a])]⟩:=by
 refine Ev.bT OP (OQ _) rfl ?_
 have n8:=fun a=>bI hl 8 (a:=a) (by omega) (by omega)
 have n2:=fun a=>bI hl 2 (a:=a) (by omega) (by omega)
 have f4: ∀a b c d:Pt,fR [a,b,c,d]:=fun a b c d=> ⟨by simp,by simp⟩
 have f5: ∀a b c d e:Pt,fR [a,b,c,d,e]:=fun a b c d e=> ⟨by simp,by simp⟩
 have oV:=he.1
 have b8:=fun a=>dX (l:=l) (a:=a) (n:=8) (by omega) (by omega)
 (conv=>whnf);repeat' ((first| intro g| refine bd.mk _ (kD rfl) ?_| refine ak.mk _ (n8 _) ?_| refine ak.mk _ (n2 _) ?_| refine st ?_| (refine bd.bo ?_;intro s) | (first| refine b1 ?_ ?_| refine b2 ?_ ?_| refine Br.mk ?_ ?_) <;>intro hc| exact rfl) <;>conv=>whnf)
 · have nV: ∀x1 y1 x2 y2 x3 y3 x4 y4 x5 y5 le ri a,(∀p ∈ [Pt.mk x1 y1,⟨x2,y2⟩,⟨x3,y3⟩,⟨x4,y4⟩,⟨x5,y5⟩],Sm p)→ ∃res,Ev E 113 [.msl 4 (es.map Edge.v) 0 es.length,.lit 2 [.agg [vi x1,vi y1],.agg [vi x2,vi y2],.agg [vi x3,vi y3],.agg [vi x4,vi y4],.agg [vi x5,vi y5]],vi le,vi ri,.mptr 2 [cz l a] 0 0] res∧ ∃ (es':List Edge) (a b:Nat),fB es' (n+1)∧res=⟨.sl 0 b 0 es'.length,[(b,es'.map Edge.v),(0,[cz l a])]⟩:=
    fun x1 y1 x2 y2 x3 y3 x4 y4 x5 y5 le ri a yg=>CO hl he hn (f5 ⟨x1,y1⟩ ⟨x2,y2⟩ ⟨x3,y3⟩ ⟨x4,y4⟩ ⟨x5,y5⟩) yg le ri a
   refine ak.ex (nV _ _ _ _ _ _ _ _ _ _ _ _ _ ?_) ?_
   · intro p hp;unfold Nd at Xx;have YP:=b8 a0;simp (disch:=omega) only[wrap64,List.mem_cons,List.not_mem_nil,or_false] at hp;unfold Sm;rcases hp with rfl| rfl| rfl| rfl| rfl<;> (dsimp only;omega)
   rintro _ ⟨es',a,b,h1,rfl⟩
   (conv=>whnf);repeat' ((first| intro g| refine st ?_| (refine bd.bo ?_;intro s) | (first| refine b1 ?_ ?_| refine b2 ?_ ?_| refine Br.mk ?_ ?_) <;>intro hc| exact rfl) <;>conv=>whnf)
   exact⟨es',a,_,h1,rfl⟩
 · have nV: ∀x1 y1 x2 y2 x3 y3 x4 y4 le ri a,(∀p ∈ [Pt.mk x1 y1,⟨x2,y2⟩,⟨x3,y3⟩,⟨x4,y4⟩],Sm p)→ ∃res,Ev E 113 [.msl 4 (es.map Edge.v) 0 es.length,.lit 2 [.agg [vi x1,vi y1],.agg [vi x2,vi y2],.agg [vi x3,vi y3],.agg [vi x4,vi y4]],vi le,vi ri,.mptr 2 [cz l a] 0 0] res∧ ∃ (es':List Edge) (a b:Nat),fB es' (n+1)∧res=⟨.sl 0 b 0 es'.length,[(b,es'.map Edge.v),(0,[cz l a])]⟩:=
    fun x1 y1 x2 y2 x3 y3 x4 y4 le ri a yg=>CO hl he hn (f4 ⟨x1,y1⟩ ⟨x2,y2⟩ ⟨x3,y3⟩ ⟨x4,y4⟩) yg le ri a
   refine ak.ex (nV _ _ _ _ _ _ _ _ _ _ _ ?_) ?_
   · intro p hp;unfold Nd at Xx;have YP:=b8 a0;simp (disch:=omega) only[wrap64,List.mem_cons,List.not_mem_nil,or_false] at hp;unfold Sm;rcases hp with rfl| rfl| rfl| rfl<;> (dsimp only;omega)
   rintro _ ⟨es',a,b,h1,rfl⟩
   (conv=>whnf);repeat' ((first| intro g| refine st ?_| (refine bd.bo ?_;intro s) | (first| refine b1 ?_ ?_| refine b2 ?_ ?_| refine Br.mk ?_ ?_) <;>intro hc| exact rfl) <;>conv=>whnf)
   exact⟨es',a,_,h1,rfl⟩
set_option maxHeartbeats 1000000 in
theorem wi {es:List Edge} (he:es.length< 10000): ∃res,Ev E 118 [.lit 4 (es.map Edge.v)] res∧ ∃fs:List df,fs.length≤2*es.length∧res=⟨.own 5 (fs.map df.v),[]⟩:=by
 refine Ev.bT OR (OS _) rfl ?_
 (conv=>whnf);repeat' ((first| intro g| refine st ?_| (refine bd.bo ?_;intro s) | (first| refine b1 ?_ ?_| refine b2 ?_ ?_| refine Br.mk ?_ ?_) <;>intro hc| exact rfl) <;>conv=>whnf)
 refine a9.by (fun ((k,ids):Nat×List Int)=> ⟨[(0,.lit 4 (es.map Edge.v)),(3,.lit 1 (ids.map vi)),(4,aM k)],[]⟩) (fun (k,ids)=>k≤es.length∧ids.length≤2*k) (fun (k,_)=>es.length - k) (0,[]) (by(refine⟨?_,?_⟩ <;>repeat' (first| exact True.intro| refine ai ?_| refine And.intro ?_ ?_))) ⟨by simp,by simp⟩ ?_
 rintro⟨k,ids⟩ ⟨hk,hi⟩
 try dsimp only at hk hi
 by_cases bJ:k<es.length
 · obtain⟨e,tL⟩: ∃e,es[k]? =some e:=⟨_,bu bJ⟩
   by_cases h1:e.left=0 <;>by_cases h2:e.right=0
   · (conv=>whnf);repeat' ((first| intro g| refine bd.mk _ (aJ tL rfl) ?_| refine st ?_| (refine bd.bo ?_;intro s) | (first| refine b1 ?_ ?_| refine b2 ?_ ?_| refine Br.mk ?_ ?_) <;>intro hc| exact rfl) <;>conv=>whnf)
     exact br.mk (k+1,ids) (by first| omega| (dsimp only;omega)) ⟨(by first| omega| (dsimp only;omega)),(by first| omega| (dsimp only;omega))⟩ (by(refine⟨?_,?_⟩ <;>repeat' (first| exact True.intro| refine ai ?_| refine And.intro ?_ ?_)))
   · (conv=>whnf);repeat' ((first| intro g| refine bd.mk _ (aJ tL rfl) ?_| refine st ?_| (refine bd.bo ?_;intro s) | (first| refine b1 ?_ ?_| refine b2 ?_ ?_| refine Br.mk ?_ ?_) <;>intro hc| exact rfl) <;>conv=>whnf)
     refine ak.ex (va (by omega) _) ?_
     rintro _ ⟨l',yI,rfl| rfl⟩
     all_goals
       (conv=>whnf);repeat' ((first| intro g| refine bd.mk _ (aJ tL rfl) ?_| refine st ?_| (refine bd.bo ?_;intro s) | (first| refine b1 ?_ ?_| refine b2 ?_ ?_| refine Br.mk ?_ ?_) <;>intro hc| exact rfl) <;>conv=>whnf)
       exact br.mk (k+1,l') (by first| omega| (dsimp only;omega)) ⟨(by first| omega| (dsimp only;omega)),(by first| omega| (dsimp only;omega))⟩ (by(refine⟨?_,?_⟩ <;>repeat' (first| exact True.intro| refine ai ?_| refine And.intro ?_ ?_)))
   · (conv=>whnf);repeat' ((first| intro g| refine bd.mk _ (aJ tL rfl) ?_| refine st ?_| (refine bd.bo ?_;intro s) | (first| refine b1 ?_ ?_| refine b2 ?_ ?_| refine Br.mk ?_ ?_) <;>intro hc| exact rfl) <;>conv=>whnf)
     refine ak.ex (va (by omega) _) ?_
     rintro _ ⟨l',yI,rfl| rfl⟩
     all_goals
       (conv=>whnf);repeat' ((first| intro g| refine bd.mk _ (aJ tL rfl) ?_| refine st ?_| (refine bd.bo ?_;intro s) | (first| refine b1 ?_ ?_| refine b2 ?_ ?_| refine Br.mk ?_ ?_) <;>intro hc| exact rfl) <;>conv=>whnf)
       exact br.mk (k+1,l') (by first| omega| (dsimp only;omega)) ⟨(by first| omega| (dsimp only;omega)),(by first| omega| (dsimp only;omega))⟩ (by(refine⟨?_,?_⟩ <;>repeat' (first| exact True.intro| refine ai ?_| refine And.intro ?_ ?_)))
   · (conv=>whnf);repeat' ((first| intro g| refine bd.mk _ (aJ tL rfl) ?_| refine st ?_| (refine bd.bo ?_;intro s) | (first| refine b1 ?_ ?_| refine b2 ?_ ?_| refine Br.mk ?_ ?_) <;>intro hc| exact rfl) <;>conv=>whnf)
     refine ak.ex (va (by omega) _) ?_
     rintro _ ⟨l',yI,rfl| rfl⟩
     all_goals
       (conv=>whnf);repeat' ((first| intro g| refine bd.mk _ (aJ tL rfl) ?_| refine st ?_| (refine bd.bo ?_;intro s) | (first| refine b1 ?_ ?_| refine b2 ?_ ?_| refine Br.mk ?_ ?_) <;>intro hc| exact rfl) <;>conv=>whnf)
       refine ak.ex (va (by omega) _) ?_
       rintro _ ⟨l2,zZ,rfl| rfl⟩
       all_goals
        (conv=>whnf);repeat' ((first| intro g| refine bd.mk _ (aJ tL rfl) ?_| refine st ?_| (refine bd.bo ?_;intro s) | (first| refine b1 ?_ ?_| refine b2 ?_ ?_| refine Br.mk ?_ ?_) <;>intro hc| exact rfl) <;>conv=>whnf)
        exact br.mk (k+1,l2) (by first| omega| (dsimp only;omega)) ⟨(by first| omega| (dsimp only;omega)),(by first| omega| (dsimp only;omega))⟩ (by(refine⟨?_,?_⟩ <;>repeat' (first| exact True.intro| refine ai ?_| refine And.intro ?_ ?_)))
 obtain rfl:k=es.length:=by omega
 (conv=>whnf);repeat' ((first| intro g| refine st ?_| (refine bd.bo ?_;intro s) | (first| refine b1 ?_ ?_| refine b2 ?_ ?_| refine Br.mk ?_ ?_) <;>intro hc| exact rfl) <;>conv=>whnf)
 refine a9.by (fun ((j,fs,g):Nat×List df×Nat)=> ⟨[(3,.lit 1 (ids.map vi)),(5,.sl 97 g 0 fs.length),(6,aM j)],[(97,⟨g,5,true,false,some (fs.map df.v)⟩)]⟩) (fun (j,fs,_)=>j≤ids.length∧fs.length=j) (fun (j,_)=>ids.length - j) (0,[],g) (by(refine⟨?_,?_⟩ <;>repeat' (first| exact True.intro| refine ai ?_| refine And.intro ?_ ?_))) ⟨by simp,by simp⟩ ?_
 rintro⟨j,fs,g⟩ ⟨hj,hf⟩
 try dsimp only at hj hf
 by_cases bJ:j<ids.length
 · obtain⟨x,hx⟩: ∃x,ids[j]? =some x:=⟨_,bu bJ⟩
   (conv=>whnf);repeat' ((first| intro g| refine bd.mk _ (aJ hx rfl) ?_| refine st ?_| (refine bd.bo ?_;intro s) | (first| refine b1 ?_ ?_| refine b2 ?_ ?_| refine Br.mk ?_ ?_) <;>intro hc| exact rfl) <;>conv=>whnf)
   exact br.mk (j+1,fs++[⟨x,[],[],0,0⟩],g) (by first| omega| (dsimp only;omega)) ⟨(by first| omega| (dsimp only;omega)),by simp;omega⟩ (by(refine⟨?_,?_⟩ <;>repeat' (first| exact True.intro| refine ai ?_| refine And.intro ?_ ?_)))
 · (conv=>whnf);repeat' ((first| intro g| refine st ?_| (refine bd.bo ?_;intro s) | (first| refine b1 ?_ ?_| refine b2 ?_ ?_| refine Br.mk ?_ ?_) <;>intro hc| exact rfl) <;>conv=>whnf)
   exact⟨fs,by omega,rfl⟩
end Go.AM
set_option maxRecDepth 20000
namespace Go.AM
def yJ:an→Nat→an
 | .seq _ b,n+1=>yJ b n
 | c,_=>c
def dM (l:List Int):V:= .lit 1 (l.map vi)
def dI (ls:List (List Int)):V:= .lit 1 (ls.map dM)
set_option maxHeartbeats 4000000 in
theorem QL {first second dk:List Int} (hl:first.length< 9223372036854775808) {w h:Nat} (hw:w≤3) (hh:h≤2) (S:SS) (gd go a0:Nat) (KY:List Int) (h6:KY.length=6)
   (hS:SS.Sub ⟨[(5,dM second),(6,dM dk),(7,.ptr 672 gd 0 0),(8,aM w),(9,aM h),(10,.ptr 176 go 0 0),(11,aM 0)],[(672,⟨gd,2,false,false,some [cz first a0]⟩),(176,⟨go,6,false,false,some [.agg (KY.map vi)]⟩)]⟩ S)
   (Q:aP→SS→Prop)
   (hQ: ∀ (a:Nat) (cs:List Int),cs.length=6→Q (.exit 0) ⟨[(5,dM second),(6,dM dk),(7,.ptr 672 gd 0 0),(8,aM w),(9,aM h),(10,.ptr 176 go 0 0)],[(672,⟨gd,2,false,false,some [cz first a]⟩),(176,⟨go,6,false,false,some [.agg (cs.map vi)]⟩)]⟩):
   a9 E u7 S Q:=by
 have n5:=fun a=>bI hl 5 (a:=a) (by omega) (by omega)
 refine a9.HV ?_
 refine a9.by (fun ((i,cs,a):Nat×List Int×Nat)=> ⟨[(5,dM second),(6,dM dk),(7,.ptr 672 gd 0 0),(8,aM w),(9,aM h),(10,.ptr 176 go 0 0),(11,aM i)],[(672,⟨gd,2,false,false,some [cz first a]⟩),(176,⟨go,6,false,false,some [.agg (cs.map vi)]⟩)]⟩)
   (fun (i,cs,_)=>i≤w∧cs.length=6) (fun (i,_)=>w - i) (0,KY,a0) hS ⟨by simp,h6⟩ ?_
 rintro⟨i,cs,a⟩ ⟨hi,jc⟩
 try dsimp only at hi jc
 by_cases bJ:i<w
 · (conv =>whnf);repeat' ((first| intro g| refine st ?_| (refine bd.bo ?_;intro s) | (first| refine b1 ?_ ?_| refine b2 ?_ ?_| refine Br.mk ?_ ?_) <;>intro hc| exact rfl) <;>conv=>whnf)
   refine a9.by (fun ((j,cs,a):Nat×List Int×Nat)=> ⟨[(5,dM second),(6,dM dk),(7,.ptr 672 gd 0 0),(8,aM w),(9,aM h),(10,.ptr 176 go 0 0),(11,aM i),(12,aM j)],[(672,⟨gd,2,false,false,some [cz first a]⟩),(176,⟨go,6,false,false,some [.agg (cs.map vi)]⟩)]⟩)
     (fun (j,cs,_)=>j≤h∧cs.length=6) (fun (j,_)=>h - j) (0,cs,a) (by(refine⟨?_,?_⟩ <;>repeat' (first| exact True.intro| refine ai ?_| refine And.intro ?_ ?_))) ⟨by simp,jc⟩ ?_
   rintro⟨j,cs,a⟩ ⟨hj,jc⟩
   try dsimp only at hj jc
   by_cases YQ:j<h
   · match cs,jc with
     | [x0,x1,x2,x3,x4,x5],_=>
       rcases(by omega:i=0∨i=1∨i=2) with rfl| rfl| rfl<;>rcases(by omega:j=0∨j=1) with rfl| rfl
       all_goals
         (conv=>whnf);repeat' ((first| intro g| refine ep.mk (⟨by decide,by decide⟩) ?_| refine ak.mk _ (n5 _) ?_| refine st ?_| (refine bd.bo ?_;intro s) | (first| refine b1 ?_ ?_| refine b2 ?_ ?_| refine Br.mk ?_ ?_) <;>intro hc| exact rfl) <;>conv=>whnf)
         all_goals first
          | exact br.mk (1,[_,_,_,_,_,_],_) (by first| omega| (dsimp only;omega)) ⟨(by first| omega| (dsimp only;omega)),rfl⟩ (by(refine⟨?_,?_⟩ <;>repeat' (first| exact True.intro| refine ai ?_| refine And.intro ?_ ?_)))
          | exact br.mk (2,[_,_,_,_,_,_],_) (by first| omega| (dsimp only;omega)) ⟨(by first| omega| (dsimp only;omega)),rfl⟩ (by(refine⟨?_,?_⟩ <;>repeat' (first| exact True.intro| refine ai ?_| refine And.intro ?_ ?_)))
          | trace_state
   · (conv=>whnf);repeat' ((first| intro g| refine st ?_| (refine bd.bo ?_;intro s) | (first| refine b1 ?_ ?_| refine b2 ?_ ?_| refine Br.mk ?_ ?_) <;>intro hc| exact rfl) <;>conv=>whnf)
     exact br.mk (i+1,cs,a) (by first| omega| (dsimp only;omega)) ⟨(by first| omega| (dsimp only;omega)),jc⟩ (by(refine⟨?_,?_⟩ <;>repeat' (first| exact True.intro| refine ai ?_| refine And.intro ?_ ?_)))
 · (conv=>whnf);repeat' ((first| intro g| refine st ?_| (refine bd.bo ?_;intro s) | (first| refine b1 ?_ ?_| refine b2 ?_ ?_| refine Br.mk ?_ ?_) <;>intro hc| exact rfl) <;>conv=>whnf)
   refine⟨_,?_,hQ a cs jc⟩
   (refine⟨?_,?_⟩ <;>repeat' (first| exact True.intro| refine ai ?_| refine And.intro ?_ ?_))
end Go.AM
set_option maxRecDepth 20000
namespace Go.AM
abbrev Ha (second dk:List Int) (gd w h go ge:Nat) (x0 x1 x2 x3 x4 x5:Int) (first:List Int) (ad ae:Nat) (es:List Edge) (g7:Nat) (more:List (Nat×V)):SS:=
 ⟨more++[(5,dM second),(7,.ptr 672 gd 0 0),(8,aM w),(9,aM h),(10,.ptr 176 go 0 0),(13,.ptr 1712 ge 0 0),(14,.sl 241 g7 0 es.length)],
   [(672,⟨gd,2,false,false,some [cz first ad]⟩),(176,⟨go,6,false,false,some [.agg [vi x0,vi x1,vi x2,vi x3,vi x4,vi x5]]⟩),(1712,⟨ge,2,false,false,some [cz dk ae]⟩),(241,⟨g7,4,true,false,some (es.map Edge.v)⟩)]⟩
section
variable {second dk first:List Int} (h2:second.length< 9223372036854775808) (h3:dk.length< 9223372036854775808) {w h:Nat} (hw:w≤3) (hh:h≤2) {gd go ge ad:Nat} {x0 x1 x2 x3 x4 x5:Int}
include h2 h3 hw hh
set_option maxHeartbeats 4000000 in
theorem QM (S:SS) (QN:Nat) (g0:Nat) (hS:SS.Sub (Ha second dk gd w h go ge x0 x1 x2 x3 x4 x5 first ad QN [] g0 [(15,aM 0)]) S) (Q:aP→SS→Prop)
   (hQ: ∀ (es:List Edge) (ae g7:Nat),fB es 9→Q (.exit 4) (Ha second dk gd w h go ge x0 x1 x2 x3 x4 x5 first ad ae es g7 [])):a9 E CG S Q:=by
 refine a9.HV ?_
 refine a9.by (fun ((j,es,ae,g7):Nat×List Edge×Nat×Nat)=>Ha second dk gd w h go ge x0 x1 x2 x3 x4 x5 first ad ae es g7 [(15,aM j)])
   (fun (j,es,_,_)=>j≤h+1∧fB es (3*j)) (fun (j,_)=>h+1 - j) (0,[],QN,g0) hS ⟨by simp,⟨by simp,by simp,by simp,by simp⟩⟩ ?_
 rintro⟨j,es,ae,g7⟩ ⟨hj,he⟩
 try dsimp only at hj he
 by_cases bJ:j≤h
 · (conv=>whnf);repeat' ((first| intro g| refine st ?_| (refine bd.bo ?_;intro s) | (first| refine b1 ?_ ?_| refine b2 ?_ ?_| refine Br.mk ?_ ?_) <;>intro hc| exact rfl) <;>conv=>whnf)
   refine a9.by (fun ((i,es,ae,g7):Nat×List Edge×Nat×Nat)=>Ha second dk gd w h go ge x0 x1 x2 x3 x4 x5 first ad ae es g7 [(15,aM j),(16,aM i)])
     (fun (i,es,_,_)=>i≤w∧fB es (3*j+i)) (fun (i,_)=>w - i) (0,es,ae,g7) (by(refine⟨?_,?_⟩ <;>repeat' (first| exact True.intro| refine ai ?_| refine And.intro ?_ ?_))) ⟨by simp,he⟩ ?_
   rintro⟨i,es,ae,g7⟩ ⟨hi,he⟩
   try dsimp only at hi he
   have oV:=he.1
   by_cases Vq:i<w
   · have YR:IntKind.i64.wrap ((i:Int)+1)=((i+1:Nat):Int):=(wrap64 (by omega) (by omega)).trans (by omega)
     obtain⟨p1,yK,Vr⟩:=qS h2 (i:=i) (j:=j) (by omega) (by omega)
     obtain⟨p2,s7,Hb⟩:=qS h2 (i:=i+1) (j:=j) (by omega) (by omega)
     have KZ:Ev E 115 [.lit 1 (second.map vi),vi (IntKind.i64.wrap ((i:Int)+1)),aM j] ⟨p2.v,[]⟩:=by rw[YR];exact Hb
     obtain⟨ps,a1,l1,l2,l3,K0⟩:=tK h3 p1 p2 yK s7 ae
     obtain⟨c1,s8⟩:=qT (cs:=[x0,x1,x2,x3,x4,x5]) rfl hw hh (i:Int) (j:Int)
     obtain⟨c2,s9⟩:=qT (cs:=[x0,x1,x2,x3,x4,x5]) rfl hw hh (i:Int) (IntKind.i64.wrap ((j:Int) - 1))
     obtain⟨es',a2,b,fk,nV⟩:=yF h3 he (by omega) (ps:=ps) ⟨l1,l2⟩ l3 c1 c2 a1
     (conv=>whnf);repeat' ((first| intro g| refine ak.mk _ (Vr) ?_| refine ak.mk _ (KZ) ?_| refine ak.mk _ (K0) ?_| refine ak.mk _ (s8) ?_| refine ak.mk _ (s9) ?_| refine ak.mk _ (nV) ?_| refine st ?_| (refine bd.bo ?_;intro s) | (first| refine b1 ?_ ?_| refine b2 ?_ ?_| refine Br.mk ?_ ?_) <;>intro hc| exact rfl) <;>conv=>whnf)
     exact br.mk (i+1,es',a2,_) (by first| omega| (dsimp only;omega)) ⟨(by first| omega| (dsimp only;omega)),fk⟩ (by(refine⟨?_,?_⟩ <;>repeat' (first| exact True.intro| refine ai ?_| refine And.intro ?_ ?_)))
   · obtain rfl:i=w:=by omega
     (conv=>whnf);repeat' ((first| intro g| refine st ?_| (refine bd.bo ?_;intro s) | (first| refine b1 ?_ ?_| refine b2 ?_ ?_| refine Br.mk ?_ ?_) <;>intro hc| exact rfl) <;>conv=>whnf)
     exact br.mk (j+1,es,ae,g7) (by first| omega| (dsimp only;omega)) ⟨(by first| omega| (dsimp only;omega)),he.mono (by omega)⟩ (by(refine⟨?_,?_⟩ <;>repeat' (first| exact True.intro| refine ai ?_| refine And.intro ?_ ?_)))
 · (conv=>whnf);repeat' ((first| intro g| refine st ?_| (refine bd.bo ?_;intro s) | (first| refine b1 ?_ ?_| refine b2 ?_ ?_| refine Br.mk ?_ ?_) <;>intro hc| exact rfl) <;>conv=>whnf)
   refine⟨_,?_,hQ es ae g7 (he.mono (by omega))⟩
   (refine⟨?_,?_⟩ <;>repeat' (first| exact True.intro| refine ai ?_| refine And.intro ?_ ?_))
set_option maxHeartbeats 4000000 in
theorem QO (S:SS) (kG:List Edge) (YS:fB kG 9) (QN:Nat) (g0:Nat) (hS:SS.Sub (Ha second dk gd w h go ge x0 x1 x2 x3 x4 x5 first ad QN kG g0 [(17,aM 0)]) S) (Q:aP→SS→Prop)
   (hQ: ∀ (es:List Edge) (ae g7:Nat),fB es 17→Q (.exit 8) (Ha second dk gd w h go ge x0 x1 x2 x3 x4 x5 first ad ae es g7 [])):a9 E CH S Q:=by
 refine a9.HV ?_
 refine a9.by (fun ((j,es,ae,g7):Nat×List Edge×Nat×Nat)=>Ha second dk gd w h go ge x0 x1 x2 x3 x4 x5 first ad ae es g7 [(17,aM j)])
   (fun (j,es,_,_)=>j≤h∧fB es (9+4*j)) (fun (j,_)=>h - j) (0,kG,QN,g0) hS ⟨by simp,YS⟩ ?_
 rintro⟨j,es,ae,g7⟩ ⟨hj,he⟩
 try dsimp only at hj he
 by_cases bJ:j<h
 · (conv=>whnf);repeat' ((first| intro g| refine st ?_| (refine bd.bo ?_;intro s) | (first| refine b1 ?_ ?_| refine b2 ?_ ?_| refine Br.mk ?_ ?_) <;>intro hc| exact rfl) <;>conv=>whnf)
   refine a9.by (fun ((i,es,ae,g7):Nat×List Edge×Nat×Nat)=>Ha second dk gd w h go ge x0 x1 x2 x3 x4 x5 first ad ae es g7 [(17,aM j),(18,aM i)])
     (fun (i,es,_,_)=>i≤w+1∧fB es (9+4*j+i)) (fun (i,_)=>w+1 - i) (0,es,ae,g7) (by(refine⟨?_,?_⟩ <;>repeat' (first| exact True.intro| refine ai ?_| refine And.intro ?_ ?_))) ⟨by simp,he⟩ ?_
   rintro⟨i,es,ae,g7⟩ ⟨hi,he⟩
   try dsimp only at hi he
   have oV:=he.1
   by_cases Vq:i≤w
   · have AT:IntKind.i64.wrap ((j:Int)+1)=((j+1:Nat):Int):=(wrap64 (by omega) (by omega)).trans (by omega)
     obtain⟨p1,yK,Vr⟩:=qS h2 (i:=i) (j:=j) (by omega) (by omega)
     obtain⟨p2,s7,Hb⟩:=qS h2 (i:=i) (j:=j+1) (by omega) (by omega)
     have KZ:Ev E 115 [.lit 1 (second.map vi),aM i,vi (IntKind.i64.wrap ((j:Int)+1))] ⟨p2.v,[]⟩:=by rw[AT];exact Hb
     obtain⟨ps,a1,l1,l2,l3,K0⟩:=tK h3 p1 p2 yK s7 ae
     obtain⟨c1,s8⟩:=qT (cs:=[x0,x1,x2,x3,x4,x5]) rfl hw hh (IntKind.i64.wrap ((i:Int) - 1)) (j:Int)
     obtain⟨c2,s9⟩:=qT (cs:=[x0,x1,x2,x3,x4,x5]) rfl hw hh (i:Int) (j:Int)
     obtain⟨es',a2,b,fk,nV⟩:=yF h3 he (by omega) (ps:=ps) ⟨l1,l2⟩ l3 c1 c2 a1
     (conv=>whnf);repeat' ((first| intro g| refine ak.mk _ (Vr) ?_| refine ak.mk _ (KZ) ?_| refine ak.mk _ (K0) ?_| refine ak.mk _ (s8) ?_| refine ak.mk _ (s9) ?_| refine ak.mk _ (nV) ?_| refine st ?_| (refine bd.bo ?_;intro s) | (first| refine b1 ?_ ?_| refine b2 ?_ ?_| refine Br.mk ?_ ?_) <;>intro hc| exact rfl) <;>conv=>whnf)
     exact br.mk (i+1,es',a2,_) (by first| omega| (dsimp only;omega)) ⟨(by first| omega| (dsimp only;omega)),fk⟩ (by(refine⟨?_,?_⟩ <;>repeat' (first| exact True.intro| refine ai ?_| refine And.intro ?_ ?_)))
   · obtain rfl:i=w+1:=by omega
     (conv=>whnf);repeat' ((first| intro g| refine st ?_| (refine bd.bo ?_;intro s) | (first| refine b1 ?_ ?_| refine b2 ?_ ?_| refine Br.mk ?_ ?_) <;>intro hc| exact rfl) <;>conv=>whnf)
     exact br.mk (j+1,es,ae,g7) (by first| omega| (dsimp only;omega)) ⟨(by first| omega| (dsimp only;omega)),he.mono (by omega)⟩ (by(refine⟨?_,?_⟩ <;>repeat' (first| exact True.intro| refine ai ?_| refine And.intro ?_ ?_)))
 · (conv=>whnf);repeat' ((first| intro g| refine st ?_| (refine bd.bo ?_;intro s) | (first| refine b1 ?_ ?_| refine b2 ?_ ?_| refine Br.mk ?_ ?_) <;>intro hc| exact rfl) <;>conv=>whnf)
   refine⟨_,?_,hQ es ae g7 (he.mono (by omega))⟩
   (refine⟨?_,?_⟩ <;>repeat' (first| exact True.intro| refine ai ?_| refine And.intro ?_ ?_))
end
end Go.AM
