/-
  Texts of the proof, joined by program: SMadeE, SMadeF, SMadeG. Own work.
-/
import Derived.Test.YtgkdgapmmkkcaaaGreatMa
set_option linter.unusedSimpArgs false
set_option linter.unusedVariables false
set_option maxRecDepth 20000
namespace Go.AM
theorem ag.ex {E:Env} {f:Nat} {as:List V} {q P:fh→Prop} (h: ∃res,Ev E f as res∧P res) (k: ∀res,P res→q res):ag E f as q:=by
 obtain⟨res,h1,h2⟩:=h
 exact⟨res,h1,k res h2⟩
theorem CB {l:List Int} (hl:l.length< 9223372036854775808) {es:List Edge} {n:Nat} (he:gz es n) (hn:n< 1000) {ps:List Pt} (tK:gR ps) (left right:Int) (a0:Nat):
  ∃res,Ev E 113 [.msl 4 (es.map Edge.v) 0 es.length,wB ps,vi left,vi right,.mptr 2 [cT l a0] 0 0] res∧ ∃ (es':List Edge) (a b:Nat),gz es' (n+1)∧res=⟨.sl 0 b 0 es'.length,[(b,es'.map Edge.v),(0,[cT l a])]⟩:=by
 obtain⟨es',a,b,h1,h2⟩:=yA hl he hn tK left right a0
 exact⟨_,h2,es',a,b,h1,rfl⟩
theorem vA {l:List Int} (hl:l.length< 1000000) (n:Int): ∃res,Ev E 162 [.lit 1 (l.map vi),vi n] res∧ ∃l':List Int,l'.length≤l.length+1∧(res=⟨.lit 1 (l'.map vi),[]⟩∨res=⟨.own 1 (l'.map vi),[]⟩):=by
 obtain⟨l',h1,h2| h2⟩:=Kz hl n
 · exact⟨_,h2,l',h1,.inl rfl⟩
 · exact⟨_,h2,l',h1,.inr rfl⟩
set_option maxHeartbeats 1000000 in
theorem AX {l:List Int} (hl:l.length< 9223372036854775808) {es:List Edge} {n:Nat} (he:gz es n) (hn:n< 1000) (c:Pt) (KA:Int) (a0:Nat):
   ∃res,Ev E 117 [.msl 4 (es.map Edge.v) 0 es.length,c.v,vi KA,.mptr 2 [cT l a0] 0 0] res∧ ∃ (es':List Edge) (a b:Nat),gz es' (n+1)∧res=⟨.sl 0 b 0 es'.length,[(b,es'.map Edge.v),(0,[cT l a])]⟩:=by
 refine Ev.cQ Pa (Pb _) rfl ?_
 have n8:=fun a=>b0 hl 8 (a:=a) (by omega) (by omega)
 have n2:=fun a=>b0 hl 2 (a:=a) (by omega) (by omega)
 have f4: ∀a b c d:Pt,gR [a,b,c,d]:=fun a b c d=> ⟨by simp,by simp⟩
 have f5: ∀a b c d e:Pt,gR [a,b,c,d,e]:=fun a b c d e=> ⟨by simp,by simp⟩
 have qO:=he.1
 (conv=>whnf);repeat' ((first| intro g| refine aL.mk _ (wC rfl) ?_| refine ag.mk _ (n8 _) ?_| refine ag.mk _ (n2 _) ?_| refine st ?_| (refine aL.bK ?_;intro s) | (first| refine b1 ?_ ?_| refine b2 ?_ ?_| refine Br.mk ?_ ?_) <;>intro hc| exact rfl) <;>conv=>whnf)
 · have o7: ∀x1 y1 x2 y2 x3 y3 x4 y4 x5 y5 le ri a,∃res,Ev E 113 [.msl 4 (es.map Edge.v) 0 es.length,.lit 2 [.agg [vi x1,vi y1],.agg [vi x2,vi y2],.agg [vi x3,vi y3],.agg [vi x4,vi y4],.agg [vi x5,vi y5]],vi le,vi ri,.mptr 2 [cT l a] 0 0] res∧ ∃ (es':List Edge) (a b:Nat),gz es' (n+1)∧res=⟨.sl 0 b 0 es'.length,[(b,es'.map Edge.v),(0,[cT l a])]⟩:=
    fun x1 y1 x2 y2 x3 y3 x4 y4 x5 y5 le ri a=>CB hl he hn (f5 ⟨x1,y1⟩ ⟨x2,y2⟩ ⟨x3,y3⟩ ⟨x4,y4⟩ ⟨x5,y5⟩) le ri a
   refine ag.ex (o7 _ _ _ _ _ _ _ _ _ _ _ _ _) ?_
   rintro _ ⟨es',a,b,h1,rfl⟩
   (conv=>whnf);repeat' ((first| intro g| refine st ?_| (refine aL.bK ?_;intro s) | (first| refine b1 ?_ ?_| refine b2 ?_ ?_| refine Br.mk ?_ ?_) <;>intro hc| exact rfl) <;>conv=>whnf)
   exact⟨es',a,_,h1,rfl⟩
 · have o7: ∀x1 y1 x2 y2 x3 y3 x4 y4 le ri a,∃res,Ev E 113 [.msl 4 (es.map Edge.v) 0 es.length,.lit 2 [.agg [vi x1,vi y1],.agg [vi x2,vi y2],.agg [vi x3,vi y3],.agg [vi x4,vi y4]],vi le,vi ri,.mptr 2 [cT l a] 0 0] res∧ ∃ (es':List Edge) (a b:Nat),gz es' (n+1)∧res=⟨.sl 0 b 0 es'.length,[(b,es'.map Edge.v),(0,[cT l a])]⟩:=
    fun x1 y1 x2 y2 x3 y3 x4 y4 le ri a=>CB hl he hn (f4 ⟨x1,y1⟩ ⟨x2,y2⟩ ⟨x3,y3⟩ ⟨x4,y4⟩) le ri a
   refine ag.ex (o7 _ _ _ _ _ _ _ _ _ _ _) ?_
   rintro _ ⟨es',a,b,h1,rfl⟩
   (conv=>whnf);repeat' ((first| intro g| refine st ?_| (refine aL.bK ?_;intro s) | (first| refine b1 ?_ ?_| refine b2 ?_ ?_| refine Br.mk ?_ ?_) <;>intro hc| exact rfl) <;>conv=>whnf)
   exact⟨es',a,_,h1,rfl⟩
set_option maxHeartbeats 1000000 in
theorem wF {es:List Edge} (he:es.length< 10000): ∃res,Ev E 118 [.lit 4 (es.map Edge.v)] res∧ ∃fs:List aK,fs.length≤2*es.length∧res=⟨.own 5 (fs.map aK.v),[]⟩:=by
 refine Ev.cQ Pc (Pd _) rfl ?_
 (conv=>whnf);repeat' ((first| intro g| refine st ?_| (refine aL.bK ?_;intro s) | (first| refine b1 ?_ ?_| refine b2 ?_ ?_| refine Br.mk ?_ ?_) <;>intro hc| exact rfl) <;>conv=>whnf)
 refine ba.by (fun ((k,ids):Nat×List Int)=> ⟨[(0,.lit 4 (es.map Edge.v)),(3,.lit 1 (ids.map vi)),(4,aT k)],[]⟩) (fun (k,ids)=>k≤es.length∧ids.length≤2*k) (fun (k,_)=>es.length - k) (0,[]) (by(refine⟨?_,?_⟩ <;>repeat' (first| exact True.intro| refine ai ?_| refine And.intro ?_ ?_))) ⟨by simp,by simp⟩ ?_
 rintro⟨k,ids⟩ ⟨hk,hi⟩
 try dsimp only at hk hi
 by_cases bA:k<es.length
 · obtain⟨e,mW⟩: ∃e,es[k]? =some e:=⟨_,aJ bA⟩
   by_cases h1:e.left=0 <;>by_cases h2:e.right=0
   · (conv=>whnf);repeat' ((first| intro g| refine aL.mk _ (au mW rfl) ?_| refine st ?_| (refine aL.bK ?_;intro s) | (first| refine b1 ?_ ?_| refine b2 ?_ ?_| refine Br.mk ?_ ?_) <;>intro hc| exact rfl) <;>conv=>whnf)
     exact bI.mk (k+1,ids) (by first| omega| (dsimp only;omega)) ⟨(by first| omega| (dsimp only;omega)),(by first| omega| (dsimp only;omega))⟩ (by(refine⟨?_,?_⟩ <;>repeat' (first| exact True.intro| refine ai ?_| refine And.intro ?_ ?_)))
   · (conv=>whnf);repeat' ((first| intro g| refine aL.mk _ (au mW rfl) ?_| refine st ?_| (refine aL.bK ?_;intro s) | (first| refine b1 ?_ ?_| refine b2 ?_ ?_| refine Br.mk ?_ ?_) <;>intro hc| exact rfl) <;>conv=>whnf)
     refine ag.ex (vA (by omega) _) ?_
     rintro _ ⟨l',vB,rfl| rfl⟩
     all_goals
       (conv=>whnf);repeat' ((first| intro g| refine aL.mk _ (au mW rfl) ?_| refine st ?_| (refine aL.bK ?_;intro s) | (first| refine b1 ?_ ?_| refine b2 ?_ ?_| refine Br.mk ?_ ?_) <;>intro hc| exact rfl) <;>conv=>whnf)
       exact bI.mk (k+1,l') (by first| omega| (dsimp only;omega)) ⟨(by first| omega| (dsimp only;omega)),(by first| omega| (dsimp only;omega))⟩ (by(refine⟨?_,?_⟩ <;>repeat' (first| exact True.intro| refine ai ?_| refine And.intro ?_ ?_)))
   · (conv=>whnf);repeat' ((first| intro g| refine aL.mk _ (au mW rfl) ?_| refine st ?_| (refine aL.bK ?_;intro s) | (first| refine b1 ?_ ?_| refine b2 ?_ ?_| refine Br.mk ?_ ?_) <;>intro hc| exact rfl) <;>conv=>whnf)
     refine ag.ex (vA (by omega) _) ?_
     rintro _ ⟨l',vB,rfl| rfl⟩
     all_goals
       (conv=>whnf);repeat' ((first| intro g| refine aL.mk _ (au mW rfl) ?_| refine st ?_| (refine aL.bK ?_;intro s) | (first| refine b1 ?_ ?_| refine b2 ?_ ?_| refine Br.mk ?_ ?_) <;>intro hc| exact rfl) <;>conv=>whnf)
       exact bI.mk (k+1,l') (by first| omega| (dsimp only;omega)) ⟨(by first| omega| (dsimp only;omega)),(by first| omega| (dsimp only;omega))⟩ (by(refine⟨?_,?_⟩ <;>repeat' (first| exact True.intro| refine ai ?_| refine And.intro ?_ ?_)))
   · (conv=>whnf);repeat' ((first| intro g| refine aL.mk _ (au mW rfl) ?_| refine st ?_| (refine aL.bK ?_;intro s) | (first| refine b1 ?_ ?_| refine b2 ?_ ?_| refine Br.mk ?_ ?_) <;>intro hc| exact rfl) <;>conv=>whnf)
     refine ag.ex (vA (by omega) _) ?_
     rintro _ ⟨l',vB,rfl| rfl⟩
     all_goals
       (conv=>whnf);repeat' ((first| intro g| refine aL.mk _ (au mW rfl) ?_| refine st ?_| (refine aL.bK ?_;intro s) | (first| refine b1 ?_ ?_| refine b2 ?_ ?_| refine Br.mk ?_ ?_) <;>intro hc| exact rfl) <;>conv=>whnf)
       refine ag.ex (vA (by omega) _) ?_
       rintro _ ⟨l2,zJ,rfl| rfl⟩
       all_goals
        (conv=>whnf);repeat' ((first| intro g| refine aL.mk _ (au mW rfl) ?_| refine st ?_| (refine aL.bK ?_;intro s) | (first| refine b1 ?_ ?_| refine b2 ?_ ?_| refine Br.mk ?_ ?_) <;>intro hc| exact rfl) <;>conv=>whnf)
        exact bI.mk (k+1,l2) (by first| omega| (dsimp only;omega)) ⟨(by first| omega| (dsimp only;omega)),(by first| omega| (dsimp only;omega))⟩ (by(refine⟨?_,?_⟩ <;>repeat' (first| exact True.intro| refine ai ?_| refine And.intro ?_ ?_)))
 obtain rfl:k=es.length:=by omega
 (conv=>whnf);repeat' ((first| intro g| refine st ?_| (refine aL.bK ?_;intro s) | (first| refine b1 ?_ ?_| refine b2 ?_ ?_| refine Br.mk ?_ ?_) <;>intro hc| exact rfl) <;>conv=>whnf)
 refine ba.by (fun ((j,fs,g):Nat×List aK×Nat)=> ⟨[(3,.lit 1 (ids.map vi)),(5,.sl 97 g 0 fs.length),(6,aT j)],[(97,⟨g,5,true,false,some (fs.map aK.v)⟩)]⟩) (fun (j,fs,_)=>j≤ids.length∧fs.length=j) (fun (j,_)=>ids.length - j) (0,[],g) (by(refine⟨?_,?_⟩ <;>repeat' (first| exact True.intro| refine ai ?_| refine And.intro ?_ ?_))) ⟨by simp,by simp⟩ ?_
 rintro⟨j,fs,g⟩ ⟨hj,hf⟩
 try dsimp only at hj hf
 by_cases bA:j<ids.length
 · obtain⟨x,hx⟩: ∃x,ids[j]? =some x:=⟨_,aJ bA⟩
   (conv=>whnf);repeat' ((first| intro g| refine aL.mk _ (au hx rfl) ?_| refine st ?_| (refine aL.bK ?_;intro s) | (first| refine b1 ?_ ?_| refine b2 ?_ ?_| refine Br.mk ?_ ?_) <;>intro hc| exact rfl) <;>conv=>whnf)
   exact bI.mk (j+1,fs++[⟨x,[],[],0,0⟩],g) (by first| omega| (dsimp only;omega)) ⟨(by first| omega| (dsimp only;omega)),by simp;omega⟩ (by(refine⟨?_,?_⟩ <;>repeat' (first| exact True.intro| refine ai ?_| refine And.intro ?_ ?_)))
 · (conv=>whnf);repeat' ((first| intro g| refine st ?_| (refine aL.bK ?_;intro s) | (first| refine b1 ?_ ?_| refine b2 ?_ ?_| refine Br.mk ?_ ?_) <;>intro hc| exact rfl) <;>conv=>whnf)
   exact⟨fs,by omega,rfl⟩
end Go.AM
set_option maxRecDepth 20000
namespace Go.AM
def yB:al→Nat→al
 | .seq _ b,n+1=>yB b n
 | c,_=>c
def eD (l:List Int):V:= .lit 1 (l.map vi)
def fR (ls:List (List Int)):V:= .lit 1 (ls.map eD)
set_option maxHeartbeats 4000000 in
theorem Qe {first second dO:List Int} (hl:first.length< 9223372036854775808) {w h:Nat} (hw:w≤3) (hh:h≤2) (S:SS) (gd go a0:Nat) (KB:List Int) (h6:KB.length=6)
   (hS:SS.Sub ⟨[(5,eD second),(6,eD dO),(7,.ptr 672 gd 0 0),(8,aT w),(9,aT h),(10,.ptr 176 go 0 0),(11,aT 0)],[(672,⟨gd,2,false,false,some [cT first a0]⟩),(176,⟨go,6,false,false,some [.agg (KB.map vi)]⟩)]⟩ S)
   (Q:aY→SS→Prop)
   (hQ: ∀ (a:Nat) (cs:List Int),cs.length=6→Q (.exit 0) ⟨[(5,eD second),(6,eD dO),(7,.ptr 672 gd 0 0),(8,aT w),(9,aT h),(10,.ptr 176 go 0 0)],[(672,⟨gd,2,false,false,some [cT first a]⟩),(176,⟨go,6,false,false,some [.agg (cs.map vi)]⟩)]⟩):
   ba E vz S Q:=by
 have n5:=fun a=>b0 hl 5 (a:=a) (by omega) (by omega)
 refine ba.Hn ?_
 refine ba.by (fun ((i,cs,a):Nat×List Int×Nat)=> ⟨[(5,eD second),(6,eD dO),(7,.ptr 672 gd 0 0),(8,aT w),(9,aT h),(10,.ptr 176 go 0 0),(11,aT i)],[(672,⟨gd,2,false,false,some [cT first a]⟩),(176,⟨go,6,false,false,some [.agg (cs.map vi)]⟩)]⟩)
   (fun (i,cs,_)=>i≤w∧cs.length=6) (fun (i,_)=>w - i) (0,KB,a0) hS ⟨by simp,h6⟩ ?_
 rintro⟨i,cs,a⟩ ⟨hi,c7⟩
 try dsimp only at hi c7
 by_cases bA:i<w
 · (conv =>whnf);repeat' ((first| intro g| refine st ?_| (refine aL.bK ?_;intro s) | (first| refine b1 ?_ ?_| refine b2 ?_ ?_| refine Br.mk ?_ ?_) <;>intro hc| exact rfl) <;>conv=>whnf)
   refine ba.by (fun ((j,cs,a):Nat×List Int×Nat)=> ⟨[(5,eD second),(6,eD dO),(7,.ptr 672 gd 0 0),(8,aT w),(9,aT h),(10,.ptr 176 go 0 0),(11,aT i),(12,aT j)],[(672,⟨gd,2,false,false,some [cT first a]⟩),(176,⟨go,6,false,false,some [.agg (cs.map vi)]⟩)]⟩)
     (fun (j,cs,_)=>j≤h∧cs.length=6) (fun (j,_)=>h - j) (0,cs,a) (by(refine⟨?_,?_⟩ <;>repeat' (first| exact True.intro| refine ai ?_| refine And.intro ?_ ?_))) ⟨by simp,c7⟩ ?_
   rintro⟨j,cs,a⟩ ⟨hj,c7⟩
   try dsimp only at hj c7
   by_cases Yh:j<h
   · match cs,c7 with
     | [x0,x1,x2,x3,x4,x5],_=>
       rcases(by omega:i=0∨i=1∨i=2) with rfl| rfl| rfl<;>rcases(by omega:j=0∨j=1) with rfl| rfl
       all_goals
         (conv=>whnf);repeat' ((first| intro g| refine dC.mk (⟨by decide,by decide⟩) ?_| refine ag.mk _ (n5 _) ?_| refine st ?_| (refine aL.bK ?_;intro s) | (first| refine b1 ?_ ?_| refine b2 ?_ ?_| refine Br.mk ?_ ?_) <;>intro hc| exact rfl) <;>conv=>whnf)
         all_goals first
          | exact bI.mk (1,[_,_,_,_,_,_],_) (by first| omega| (dsimp only;omega)) ⟨(by first| omega| (dsimp only;omega)),rfl⟩ (by(refine⟨?_,?_⟩ <;>repeat' (first| exact True.intro| refine ai ?_| refine And.intro ?_ ?_)))
          | exact bI.mk (2,[_,_,_,_,_,_],_) (by first| omega| (dsimp only;omega)) ⟨(by first| omega| (dsimp only;omega)),rfl⟩ (by(refine⟨?_,?_⟩ <;>repeat' (first| exact True.intro| refine ai ?_| refine And.intro ?_ ?_)))
          | trace_state
   · (conv=>whnf);repeat' ((first| intro g| refine st ?_| (refine aL.bK ?_;intro s) | (first| refine b1 ?_ ?_| refine b2 ?_ ?_| refine Br.mk ?_ ?_) <;>intro hc| exact rfl) <;>conv=>whnf)
     exact bI.mk (i+1,cs,a) (by first| omega| (dsimp only;omega)) ⟨(by first| omega| (dsimp only;omega)),c7⟩ (by(refine⟨?_,?_⟩ <;>repeat' (first| exact True.intro| refine ai ?_| refine And.intro ?_ ?_)))
 · (conv=>whnf);repeat' ((first| intro g| refine st ?_| (refine aL.bK ?_;intro s) | (first| refine b1 ?_ ?_| refine b2 ?_ ?_| refine Br.mk ?_ ?_) <;>intro hc| exact rfl) <;>conv=>whnf)
   refine⟨_,?_,hQ a cs c7⟩
   (refine⟨?_,?_⟩ <;>repeat' (first| exact True.intro| refine ai ?_| refine And.intro ?_ ?_))
end Go.AM
set_option maxRecDepth 20000
namespace Go.AM
abbrev Gz (second dO:List Int) (gd w h go ge:Nat) (x0 x1 x2 x3 x4 x5:Int) (first:List Int) (ad ae:Nat) (es:List Edge) (g7:Nat) (more:List (Nat×V)):SS:=
 ⟨more++[(5,eD second),(7,.ptr 672 gd 0 0),(8,aT w),(9,aT h),(10,.ptr 176 go 0 0),(13,.ptr 1712 ge 0 0),(14,.sl 241 g7 0 es.length)],
   [(672,⟨gd,2,false,false,some [cT first ad]⟩),(176,⟨go,6,false,false,some [.agg [vi x0,vi x1,vi x2,vi x3,vi x4,vi x5]]⟩),(1712,⟨ge,2,false,false,some [cT dO ae]⟩),(241,⟨g7,4,true,false,some (es.map Edge.v)⟩)]⟩
section
variable {second dO first:List Int} (h2:second.length< 9223372036854775808) (h3:dO.length< 9223372036854775808) {w h:Nat} (hw:w≤3) (hh:h≤2) {gd go ge ad:Nat} {x0 x1 x2 x3 x4 x5:Int}
include h2 h3 hw hh
set_option maxHeartbeats 4000000 in
theorem Qf (S:SS) (Qg:Nat) (g0:Nat) (hS:SS.Sub (Gz second dO gd w h go ge x0 x1 x2 x3 x4 x5 first ad Qg [] g0 [(15,aT 0)]) S) (Q:aY→SS→Prop)
   (hQ: ∀ (es:List Edge) (ae g7:Nat),gz es 9→Q (.exit 4) (Gz second dO gd w h go ge x0 x1 x2 x3 x4 x5 first ad ae es g7 [])):ba E Ct S Q:=by
 refine ba.Hn ?_
 refine ba.by (fun ((j,es,ae,g7):Nat×List Edge×Nat×Nat)=>Gz second dO gd w h go ge x0 x1 x2 x3 x4 x5 first ad ae es g7 [(15,aT j)])
   (fun (j,es,_,_)=>j≤h+1∧gz es (3*j)) (fun (j,_)=>h+1 - j) (0,[],Qg,g0) hS ⟨by simp,⟨by simp,by simp⟩⟩ ?_
 rintro⟨j,es,ae,g7⟩ ⟨hj,he⟩
 try dsimp only at hj he
 by_cases bA:j≤h
 · (conv=>whnf);repeat' ((first| intro g| refine st ?_| (refine aL.bK ?_;intro s) | (first| refine b1 ?_ ?_| refine b2 ?_ ?_| refine Br.mk ?_ ?_) <;>intro hc| exact rfl) <;>conv=>whnf)
   refine ba.by (fun ((i,es,ae,g7):Nat×List Edge×Nat×Nat)=>Gz second dO gd w h go ge x0 x1 x2 x3 x4 x5 first ad ae es g7 [(15,aT j),(16,aT i)])
     (fun (i,es,_,_)=>i≤w∧gz es (3*j+i)) (fun (i,_)=>w - i) (0,es,ae,g7) (by(refine⟨?_,?_⟩ <;>repeat' (first| exact True.intro| refine ai ?_| refine And.intro ?_ ?_))) ⟨by simp,he⟩ ?_
   rintro⟨i,es,ae,g7⟩ ⟨hi,he⟩
   try dsimp only at hi he
   have qO:=he.1
   by_cases KC:i<w
   · have Yi:IntKind.i64.wrap ((i:Int)+1)=((i+1:Nat):Int):=(wrap64 (by omega) (by omega)).trans (by omega)
     obtain⟨p1,Fo⟩:=rU h2 (i:=i) (j:=j) (by omega) (by omega)
     obtain⟨p2,Fq⟩:=rU h2 (i:=i+1) (j:=j) (by omega) (by omega)
     have KD:Ev E 115 [.lit 1 (second.map vi),vi (IntKind.i64.wrap ((i:Int)+1)),aT j] ⟨p2.v,[]⟩:=by rw[Yi];exact Fq
     obtain⟨ps,a1,l1,l2,KE⟩:=uC h3 p1 p2 ae
     obtain⟨c1,wG⟩:=rV (cs:=[x0,x1,x2,x3,x4,x5]) rfl hw hh (i:Int) (j:Int)
     obtain⟨c2,yb⟩:=rV (cs:=[x0,x1,x2,x3,x4,x5]) rfl hw hh (i:Int) (IntKind.i64.wrap ((j:Int) - 1))
     obtain⟨es',a2,b,gl,o7⟩:=yA h3 he (by omega) (ps:=ps) ⟨l1,l2⟩ c1 c2 a1
     (conv=>whnf);repeat' ((first| intro g| refine ag.mk _ (Fo) ?_| refine ag.mk _ (KD) ?_| refine ag.mk _ (KE) ?_| refine ag.mk _ (wG) ?_| refine ag.mk _ (yb) ?_| refine ag.mk _ (o7) ?_| refine st ?_| (refine aL.bK ?_;intro s) | (first| refine b1 ?_ ?_| refine b2 ?_ ?_| refine Br.mk ?_ ?_) <;>intro hc| exact rfl) <;>conv=>whnf)
     exact bI.mk (i+1,es',a2,_) (by first| omega| (dsimp only;omega)) ⟨(by first| omega| (dsimp only;omega)),gl⟩ (by(refine⟨?_,?_⟩ <;>repeat' (first| exact True.intro| refine ai ?_| refine And.intro ?_ ?_)))
   · obtain rfl:i=w:=by omega
     (conv=>whnf);repeat' ((first| intro g| refine st ?_| (refine aL.bK ?_;intro s) | (first| refine b1 ?_ ?_| refine b2 ?_ ?_| refine Br.mk ?_ ?_) <;>intro hc| exact rfl) <;>conv=>whnf)
     exact bI.mk (j+1,es,ae,g7) (by first| omega| (dsimp only;omega)) ⟨(by first| omega| (dsimp only;omega)),he.mono (by omega)⟩ (by(refine⟨?_,?_⟩ <;>repeat' (first| exact True.intro| refine ai ?_| refine And.intro ?_ ?_)))
 · (conv=>whnf);repeat' ((first| intro g| refine st ?_| (refine aL.bK ?_;intro s) | (first| refine b1 ?_ ?_| refine b2 ?_ ?_| refine Br.mk ?_ ?_) <;>intro hc| exact rfl) <;>conv=>whnf)
   refine⟨_,?_,hQ es ae g7 (he.mono (by omega))⟩
   (refine⟨?_,?_⟩ <;>repeat' (first| exact True.intro| refine ai ?_| refine And.intro ?_ ?_))
set_option maxHeartbeats 4000000 in
theorem Qh (S:SS) (mX:List Edge) (Yj:gz mX 9) (Qg:Nat) (g0:Nat) (hS:SS.Sub (Gz second dO gd w h go ge x0 x1 x2 x3 x4 x5 first ad Qg mX g0 [(17,aT 0)]) S) (Q:aY→SS→Prop)
   (hQ: ∀ (es:List Edge) (ae g7:Nat),gz es 17→Q (.exit 8) (Gz second dO gd w h go ge x0 x1 x2 x3 x4 x5 first ad ae es g7 [])):ba E Cu S Q:=by
 refine ba.Hn ?_
 refine ba.by (fun ((j,es,ae,g7):Nat×List Edge×Nat×Nat)=>Gz second dO gd w h go ge x0 x1 x2 x3 x4 x5 first ad ae es g7 [(17,aT j)])
   (fun (j,es,_,_)=>j≤h∧gz es (9+4*j)) (fun (j,_)=>h - j) (0,mX,Qg,g0) hS ⟨by simp,Yj⟩ ?_
 rintro⟨j,es,ae,g7⟩ ⟨hj,he⟩
 try dsimp only at hj he
 by_cases bA:j<h
 · (conv=>whnf);repeat' ((first| intro g| refine st ?_| (refine aL.bK ?_;intro s) | (first| refine b1 ?_ ?_| refine b2 ?_ ?_| refine Br.mk ?_ ?_) <;>intro hc| exact rfl) <;>conv=>whnf)
   refine ba.by (fun ((i,es,ae,g7):Nat×List Edge×Nat×Nat)=>Gz second dO gd w h go ge x0 x1 x2 x3 x4 x5 first ad ae es g7 [(17,aT j),(18,aT i)])
     (fun (i,es,_,_)=>i≤w+1∧gz es (9+4*j+i)) (fun (i,_)=>w+1 - i) (0,es,ae,g7) (by(refine⟨?_,?_⟩ <;>repeat' (first| exact True.intro| refine ai ?_| refine And.intro ?_ ?_))) ⟨by simp,he⟩ ?_
   rintro⟨i,es,ae,g7⟩ ⟨hi,he⟩
   try dsimp only at hi he
   have qO:=he.1
   by_cases KC:i≤w
   · have Gy:IntKind.i64.wrap ((j:Int)+1)=((j+1:Nat):Int):=(wrap64 (by omega) (by omega)).trans (by omega)
     obtain⟨p1,Fo⟩:=rU h2 (i:=i) (j:=j) (by omega) (by omega)
     obtain⟨p2,Fq⟩:=rU h2 (i:=i) (j:=j+1) (by omega) (by omega)
     have KD:Ev E 115 [.lit 1 (second.map vi),aT i,vi (IntKind.i64.wrap ((j:Int)+1))] ⟨p2.v,[]⟩:=by rw[Gy];exact Fq
     obtain⟨ps,a1,l1,l2,KE⟩:=uC h3 p1 p2 ae
     obtain⟨c1,wG⟩:=rV (cs:=[x0,x1,x2,x3,x4,x5]) rfl hw hh (IntKind.i64.wrap ((i:Int) - 1)) (j:Int)
     obtain⟨c2,yb⟩:=rV (cs:=[x0,x1,x2,x3,x4,x5]) rfl hw hh (i:Int) (j:Int)
     obtain⟨es',a2,b,gl,o7⟩:=yA h3 he (by omega) (ps:=ps) ⟨l1,l2⟩ c1 c2 a1
     (conv=>whnf);repeat' ((first| intro g| refine ag.mk _ (Fo) ?_| refine ag.mk _ (KD) ?_| refine ag.mk _ (KE) ?_| refine ag.mk _ (wG) ?_| refine ag.mk _ (yb) ?_| refine ag.mk _ (o7) ?_| refine st ?_| (refine aL.bK ?_;intro s) | (first| refine b1 ?_ ?_| refine b2 ?_ ?_| refine Br.mk ?_ ?_) <;>intro hc| exact rfl) <;>conv=>whnf)
     exact bI.mk (i+1,es',a2,_) (by first| omega| (dsimp only;omega)) ⟨(by first| omega| (dsimp only;omega)),gl⟩ (by(refine⟨?_,?_⟩ <;>repeat' (first| exact True.intro| refine ai ?_| refine And.intro ?_ ?_)))
   · obtain rfl:i=w+1:=by omega
     (conv=>whnf);repeat' ((first| intro g| refine st ?_| (refine aL.bK ?_;intro s) | (first| refine b1 ?_ ?_| refine b2 ?_ ?_| refine Br.mk ?_ ?_) <;>intro hc| exact rfl) <;>conv=>whnf)
     exact bI.mk (j+1,es,ae,g7) (by first| omega| (dsimp only;omega)) ⟨(by first| omega| (dsimp only;omega)),he.mono (by omega)⟩ (by(refine⟨?_,?_⟩ <;>repeat' (first| exact True.intro| refine ai ?_| refine And.intro ?_ ?_)))
 · (conv=>whnf);repeat' ((first| intro g| refine st ?_| (refine aL.bK ?_;intro s) | (first| refine b1 ?_ ?_| refine b2 ?_ ?_| refine Br.mk ?_ ?_) <;>intro hc| exact rfl) <;>conv=>whnf)
   refine⟨_,?_,hQ es ae g7 (he.mono (by omega))⟩
   (refine⟨?_,?_⟩ <;>repeat' (first| exact True.intro| refine ai ?_| refine And.intro ?_ ?_))
end
end Go.AM
