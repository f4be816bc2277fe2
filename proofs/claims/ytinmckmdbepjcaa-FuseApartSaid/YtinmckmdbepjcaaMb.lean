/-
  Texts of the proof, joined by program: SMadeE, SMadeF, SMadeG. Own work.
-/
import Derived.Test.YtinmckmdbepjcaaMa
import Derived.Test.YtinmckmdbepjcaaPu
set_option linter.unusedSimpArgs false
set_option linter.unusedVariables false
set_option maxRecDepth 20000
namespace Go.AM
theorem ag.ex {E:Env} {f:Nat} {as:List V} {q P:fK→Prop} (h: ∃res,Ev E f as res∧P res) (k: ∀res,P res→q res):ag E f as q:=by
 obtain⟨res,h1,h2⟩:=h
 exact⟨res,h1,k res h2⟩
theorem E8 {l:List Int} (hl:l.length< 9223372036854775808) {es:List Edge} {n:Nat} (he:hG es n) (hn:n< 1000) {ps:List Pt} (ve:iw ps) (left right:Int) (a0:Nat):
  ∃res,Ev E 113 [.msl 4 (es.map Edge.v) 0 es.length,iP ps,vi left,vi right,.mptr 2 [de l a0] 0 0] res∧ ∃ (es':List Edge) (a b:Nat),(hG es' (n+1)∧(Has es∨(left=21∧right=0)→Has es'))∧res=⟨.sl 0 b 0 es'.length,[(b,es'.map Edge.v),(0,[de l a])]⟩:=by
 obtain⟨es',a,b,h1,h2⟩:=AB hl he hn ve left right a0
 exact⟨_,h2,es',a,b,h1,rfl⟩
set_option maxHeartbeats 1000000 in
theorem C8 {l:List Int} (hl:l.length< 9223372036854775808) {es:List Edge} {n:Nat} (he:hG es n) (hn:n< 1000) (c:Pt) (Lz:Int) (a0:Nat):
   ∃res,Ev E 117 [.msl 4 (es.map Edge.v) 0 es.length,c.v,vi Lz,.mptr 2 [de l a0] 0 0] res∧ ∃ (es':List Edge) (a b:Nat),(hG es' (n+1)∧(Has es→Has es'))∧res=⟨.sl 0 b 0 es'.length,[(b,es'.map Edge.v),(0,[de l a])]⟩:=by
 refine Ev.cQ Om (Oo _) rfl ?_
 have n8:=fun a=>cg hl 8 (a:=a) (by omega) (by omega)
 have n2:=fun a=>cg hl 2 (a:=a) (by omega) (by omega)
 have f4: ∀a b c d:Pt,iw [a,b,c,d]:=fun a b c d=> ⟨by simp,by simp⟩
 have f5: ∀a b c d e:Pt,iw [a,b,c,d,e]:=fun a b c d e=> ⟨by simp,by simp⟩
 have sm:=he.1
 (conv=>whnf);repeat' ((first| intro g| refine aH.mk _ (dU rfl) ?_| refine ag.mk _ (n8 _) ?_| refine ag.mk _ (n2 _) ?_| refine st ?_| (refine aH.bR ?_;intro s) | (first| refine b1 ?_ ?_| refine b2 ?_ ?_| refine Br.mk ?_ ?_) <;>intro hc| exact rfl) <;>conv=>whnf)
 · have qx: ∀x1 y1 x2 y2 x3 y3 x4 y4 x5 y5 le ri a,∃res,Ev E 113 [.msl 4 (es.map Edge.v) 0 es.length,.lit 2 [.agg [vi x1,vi y1],.agg [vi x2,vi y2],.agg [vi x3,vi y3],.agg [vi x4,vi y4],.agg [vi x5,vi y5]],vi le,vi ri,.mptr 2 [de l a] 0 0] res∧ ∃ (es':List Edge) (a b:Nat),(hG es' (n+1)∧(Has es∨(le=21∧ri=0)→Has es'))∧res=⟨.sl 0 b 0 es'.length,[(b,es'.map Edge.v),(0,[de l a])]⟩:=
    fun x1 y1 x2 y2 x3 y3 x4 y4 x5 y5 le ri a=>E8 hl he hn (f5 ⟨x1,y1⟩ ⟨x2,y2⟩ ⟨x3,y3⟩ ⟨x4,y4⟩ ⟨x5,y5⟩) le ri a
   refine ag.ex (qx _ _ _ _ _ _ _ _ _ _ _ _ _) ?_
   rintro _ ⟨es',a,b,h1,rfl⟩
   (conv=>whnf);repeat' ((first| intro g| refine st ?_| (refine aH.bR ?_;intro s) | (first| refine b1 ?_ ?_| refine b2 ?_ ?_| refine Br.mk ?_ ?_) <;>intro hc| exact rfl) <;>conv=>whnf)
   exact⟨es',a,_,⟨h1.1,fun h=>h1.2 (.inl h)⟩,rfl⟩
 · have qx: ∀x1 y1 x2 y2 x3 y3 x4 y4 le ri a,∃res,Ev E 113 [.msl 4 (es.map Edge.v) 0 es.length,.lit 2 [.agg [vi x1,vi y1],.agg [vi x2,vi y2],.agg [vi x3,vi y3],.agg [vi x4,vi y4]],vi le,vi ri,.mptr 2 [de l a] 0 0] res∧ ∃ (es':List Edge) (a b:Nat),(hG es' (n+1)∧(Has es∨(le=21∧ri=0)→Has es'))∧res=⟨.sl 0 b 0 es'.length,[(b,es'.map Edge.v),(0,[de l a])]⟩:=
    fun x1 y1 x2 y2 x3 y3 x4 y4 le ri a=>E8 hl he hn (f4 ⟨x1,y1⟩ ⟨x2,y2⟩ ⟨x3,y3⟩ ⟨x4,y4⟩) le ri a
   refine ag.ex (qx _ _ _ _ _ _ _ _ _ _ _) ?_
   rintro _ ⟨es',a,b,h1,rfl⟩
   (conv=>whnf);repeat' ((first| intro g| refine st ?_| (refine aH.bR ?_;intro s) | (first| refine b1 ?_ ?_| refine b2 ?_ ?_| refine Br.mk ?_ ?_) <;>intro hc| exact rfl) <;>conv=>whnf)
   exact⟨es',a,_,⟨h1.1,fun h=>h1.2 (.inl h)⟩,rfl⟩
def YX (fs:List ar):Prop:=fs.Pairwise fun a b=>a.id<b.id
theorem Zs {l:List Int} (hl:l.length< 1000000) (hs:l.Pairwise (· < ·)) (n:Int): ∃res,Ev E 162 [.lit 1 (l.map vi),vi n] res∧ ∃l':List Int,(l'.length≤l.length+1∧l'.Pairwise (· < ·)∧0 <l'.length)∧(res=⟨.lit 1 (l'.map vi),[]⟩∨res=⟨.own 1 (l'.map vi),[]⟩):=by
 have h:=Hz hl n
 have h2:=ZZ hs n
 have h3:=E1 l n
 have h4:0 < (Az l n).length:=List.length_pos_of_mem ((aaN l n n).2 (.inr rfl))
 unfold Az at h2 h3 h4
 cases hh:C2 l n<;>rw[hh] at h h2 h3 h4
 · exact⟨_,h,C3 l n,⟨by simpa using h3,by simpa using h2,by simpa using h4⟩,.inr rfl⟩
 · exact⟨_,h,l,⟨by omega,hs,by simpa using h4⟩,.inl rfl⟩
set_option maxHeartbeats 1000000 in
theorem yB {es:List Edge} (he:es.length< 10000): ∃res,Ev E 118 [.lit 4 (es.map Edge.v)] res∧ ∃fs:List ar,fs.length≤2*es.length∧(YX fs∧(Has es→0 <fs.length))∧res=⟨.own 5 (fs.map ar.v),[]⟩:=by
 refine Ev.cQ Oq (Ot _) rfl ?_
 (conv=>whnf);repeat' ((first| intro g| refine st ?_| (refine aH.bR ?_;intro s) | (first| refine b1 ?_ ?_| refine b2 ?_ ?_| refine Br.mk ?_ ?_) <;>intro hc| exact rfl) <;>conv=>whnf)
 refine ba.by (fun ((k,ids):Nat×List Int)=> ⟨[(0,.lit 4 (es.map Edge.v)),(3,.lit 1 (ids.map vi)),(4,aF k)],[]⟩) (fun (k,ids)=>k≤es.length∧ids.length≤2*k∧ids.Pairwise (· < ·)∧((∃ (i:Nat) (e:Edge),i<k∧es[i]? =some e∧(e.left=21∨e.right=21))→0 <ids.length)) (fun (k,_)=>es.length - k) (0,[]) (by(refine⟨?_,?_⟩ <;>repeat' (first| exact True.intro| refine ai ?_| refine And.intro ?_ ?_))) ⟨by simp,by simp,by simp,by rintro⟨i,e,h,_⟩;omega⟩ ?_
 rintro⟨k,ids⟩ ⟨hk,hi,hs,hh⟩
 try dsimp only at hk hi hs hh
 by_cases bk:k<es.length
 · obtain⟨e,vd⟩: ∃e,es[k]? =some e:=⟨_,aL bk⟩
   by_cases h1:e.left=0 <;>by_cases h2:e.right=0
   · (conv=>whnf);repeat' ((first| intro g| refine aH.mk _ (aC vd rfl) ?_| refine st ?_| (refine aH.bR ?_;intro s) | (first| refine b1 ?_ ?_| refine b2 ?_ ?_| refine Br.mk ?_ ?_) <;>intro hc| exact rfl) <;>conv=>whnf)
     refine bc.mk (k+1,ids) (by first| omega| (dsimp only;omega)) ⟨(by first| omega| (dsimp only;omega)),(by first| omega| (dsimp only;omega)),hs,fun ⟨i,x,q1,q2,q3⟩=>hh ⟨i,x,?_,q2,q3⟩⟩ (by(refine⟨?_,?_⟩ <;>repeat' (first| exact True.intro| refine ai ?_| refine And.intro ?_ ?_)))
     have q1':i<k+1:=q1
     by_cases vz:i=k
     · subst vz;rw[vd] at q2;obtain rfl:=Option.some.inj q2;omega
     · omega
   · (conv=>whnf);repeat' ((first| intro g| refine aH.mk _ (aC vd rfl) ?_| refine st ?_| (refine aH.bR ?_;intro s) | (first| refine b1 ?_ ?_| refine b2 ?_ ?_| refine Br.mk ?_ ?_) <;>intro hc| exact rfl) <;>conv=>whnf)
     refine ag.ex (Zs (by omega) hs _) ?_
     rintro _ ⟨l',⟨xd,dg,zQ⟩,rfl| rfl⟩
     all_goals
       (conv=>whnf);repeat' ((first| intro g| refine aH.mk _ (aC vd rfl) ?_| refine st ?_| (refine aH.bR ?_;intro s) | (first| refine b1 ?_ ?_| refine b2 ?_ ?_| refine Br.mk ?_ ?_) <;>intro hc| exact rfl) <;>conv=>whnf)
       exact bc.mk (k+1,l') (by first| omega| (dsimp only;omega)) ⟨(by first| omega| (dsimp only;omega)),(by first| omega| (dsimp only;omega)),dg,fun _=>zQ⟩ (by(refine⟨?_,?_⟩ <;>repeat' (first| exact True.intro| refine ai ?_| refine And.intro ?_ ?_)))
   · (conv=>whnf);repeat' ((first| intro g| refine aH.mk _ (aC vd rfl) ?_| refine st ?_| (refine aH.bR ?_;intro s) | (first| refine b1 ?_ ?_| refine b2 ?_ ?_| refine Br.mk ?_ ?_) <;>intro hc| exact rfl) <;>conv=>whnf)
     refine ag.ex (Zs (by omega) hs _) ?_
     rintro _ ⟨l',⟨xd,dg,zQ⟩,rfl| rfl⟩
     all_goals
       (conv=>whnf);repeat' ((first| intro g| refine aH.mk _ (aC vd rfl) ?_| refine st ?_| (refine aH.bR ?_;intro s) | (first| refine b1 ?_ ?_| refine b2 ?_ ?_| refine Br.mk ?_ ?_) <;>intro hc| exact rfl) <;>conv=>whnf)
       exact bc.mk (k+1,l') (by first| omega| (dsimp only;omega)) ⟨(by first| omega| (dsimp only;omega)),(by first| omega| (dsimp only;omega)),dg,fun _=>zQ⟩ (by(refine⟨?_,?_⟩ <;>repeat' (first| exact True.intro| refine ai ?_| refine And.intro ?_ ?_)))
   · (conv=>whnf);repeat' ((first| intro g| refine aH.mk _ (aC vd rfl) ?_| refine st ?_| (refine aH.bR ?_;intro s) | (first| refine b1 ?_ ?_| refine b2 ?_ ?_| refine Br.mk ?_ ?_) <;>intro hc| exact rfl) <;>conv=>whnf)
     refine ag.ex (Zs (by omega) hs _) ?_
     rintro _ ⟨l',⟨xd,dg,zQ⟩,rfl| rfl⟩
     all_goals
       (conv=>whnf);repeat' ((first| intro g| refine aH.mk _ (aC vd rfl) ?_| refine st ?_| (refine aH.bR ?_;intro s) | (first| refine b1 ?_ ?_| refine b2 ?_ ?_| refine Br.mk ?_ ?_) <;>intro hc| exact rfl) <;>conv=>whnf)
       refine ag.ex (Zs (by omega) dg _) ?_
       rintro _ ⟨l2,⟨C9,DA,Lv⟩,rfl| rfl⟩
       all_goals
        (conv=>whnf);repeat' ((first| intro g| refine aH.mk _ (aC vd rfl) ?_| refine st ?_| (refine aH.bR ?_;intro s) | (first| refine b1 ?_ ?_| refine b2 ?_ ?_| refine Br.mk ?_ ?_) <;>intro hc| exact rfl) <;>conv=>whnf)
        exact bc.mk (k+1,l2) (by first| omega| (dsimp only;omega)) ⟨(by first| omega| (dsimp only;omega)),(by first| omega| (dsimp only;omega)),DA,fun _=>Lv⟩ (by(refine⟨?_,?_⟩ <;>repeat' (first| exact True.intro| refine ai ?_| refine And.intro ?_ ?_)))
 obtain rfl:k=es.length:=by omega
 (conv=>whnf);repeat' ((first| intro g| refine st ?_| (refine aH.bR ?_;intro s) | (first| refine b1 ?_ ?_| refine b2 ?_ ?_| refine Br.mk ?_ ?_) <;>intro hc| exact rfl) <;>conv=>whnf)
 refine ba.by (fun ((j,fs,g):Nat×List ar×Nat)=> ⟨[(3,.lit 1 (ids.map vi)),(5,.sl 97 g 0 fs.length),(6,aF j)],[(97,⟨g,5,true,false,some (fs.map ar.v)⟩)]⟩) (fun (j,fs,_)=>j≤ids.length∧fs.length=j∧fs.map (·.id)=ids.take j) (fun (j,_)=>ids.length - j) (0,[],g) (by(refine⟨?_,?_⟩ <;>repeat' (first| exact True.intro| refine ai ?_| refine And.intro ?_ ?_))) ⟨by simp,by simp,by simp⟩ ?_
 rintro⟨j,fs,g⟩ ⟨hj,hf,hm⟩
 try dsimp only at hj hf hm
 by_cases bk:j<ids.length
 · obtain⟨x,hx⟩: ∃x,ids[j]? =some x:=⟨_,aL bk⟩
   (conv=>whnf);repeat' ((first| intro g| refine aH.mk _ (aC hx rfl) ?_| refine st ?_| (refine aH.bR ?_;intro s) | (first| refine b1 ?_ ?_| refine b2 ?_ ?_| refine Br.mk ?_ ?_) <;>intro hc| exact rfl) <;>conv=>whnf)
   exact bc.mk (j+1,fs++[⟨x,[],[],0,0⟩],g) (by first| omega| (dsimp only;omega)) ⟨(by first| omega| (dsimp only;omega)),by simp;omega,by simp[List.take_add_one,hx,hm]⟩ (by(refine⟨?_,?_⟩ <;>repeat' (first| exact True.intro| refine ai ?_| refine And.intro ?_ ?_)))
 · (conv=>whnf);repeat' ((first| intro g| refine st ?_| (refine aH.bR ?_;intro s) | (first| refine b1 ?_ ?_| refine b2 ?_ ?_| refine Br.mk ?_ ?_) <;>intro hc| exact rfl) <;>conv=>whnf)
   obtain rfl:j=ids.length:=by omega
   refine⟨fs,by omega,⟨?_,fun ⟨x,hx,hy⟩=> ?_⟩,rfl⟩
   case refine_2=>
     obtain⟨i,va⟩:=List.getElem?_of_mem hx
     have:=hh ⟨i,x,(List.getElem?_eq_some_iff.1 va).1,va,hy⟩
     omega
   rw[List.take_length] at hm
   unfold YX
   rw[←hm,List.pairwise_map] at hs
   exact hs
end Go.AM
set_option maxRecDepth 20000
namespace Go.AM
def AD:az→Nat→az
 | .seq _ b,n+1=>AD b n
 | c,_=>c
def eV (l:List Int):V:= .lit 1 (l.map vi)
def fU (ls:List (List Int)):V:= .lit 1 (ls.map eV)
set_option maxHeartbeats 4000000 in
theorem PB {first second ej:List Int} (hl:first.length< 9223372036854775808) {w h:Nat} (hw:w≤3) (hh:h≤2) (S:SS) (gd go a0:Nat) (LA:List Int) (h6:LA.length=6)
   (hS:SS.Sub ⟨[(5,eV second),(6,eV ej),(7,.ptr 672 gd 0 0),(8,aF w),(9,aF h),(10,.ptr 176 go 0 0),(11,aF 0)],[(672,⟨gd,2,false,false,some [de first a0]⟩),(176,⟨go,6,false,false,some [.agg (LA.map vi)]⟩)]⟩ S)
   (Q:aW→SS→Prop)
   (hQ: ∀ (a:Nat) (cs:List Int),cs.length=6→(1≤w→1≤h→cs[0]? =some 21)→Q (.exit 0) ⟨[(5,eV second),(6,eV ej),(7,.ptr 672 gd 0 0),(8,aF w),(9,aF h),(10,.ptr 176 go 0 0)],[(672,⟨gd,2,false,false,some [de first a]⟩),(176,⟨go,6,false,false,some [.agg (cs.map vi)]⟩)]⟩):
   ba E w7 S Q:=by
 have n5:=fun a=>cg hl 5 (a:=a) (by omega) (by omega)
 refine ba.Jt ?_
 refine ba.by (fun ((i,cs,a):Nat×List Int×Nat)=> ⟨[(5,eV second),(6,eV ej),(7,.ptr 672 gd 0 0),(8,aF w),(9,aF h),(10,.ptr 176 go 0 0),(11,aF i)],[(672,⟨gd,2,false,false,some [de first a]⟩),(176,⟨go,6,false,false,some [.agg (cs.map vi)]⟩)]⟩)
   (fun (i,cs,_)=>i≤w∧cs.length=6∧(1≤i→1≤h→cs[0]? =some 21)) (fun (i,_)=>w - i) (0,LA,a0) hS ⟨by simp,h6,by simp⟩ ?_
 rintro⟨i,cs,a⟩ ⟨hi,dk,hz⟩
 try dsimp only at hi dk hz
 by_cases bk:i<w
 · (conv =>whnf);repeat' ((first| intro g| refine st ?_| (refine aH.bR ?_;intro s) | (first| refine b1 ?_ ?_| refine b2 ?_ ?_| refine Br.mk ?_ ?_) <;>intro hc| exact rfl) <;>conv=>whnf)
   refine ba.by (fun ((j,cs,a):Nat×List Int×Nat)=> ⟨[(5,eV second),(6,eV ej),(7,.ptr 672 gd 0 0),(8,aF w),(9,aF h),(10,.ptr 176 go 0 0),(11,aF i),(12,aF j)],[(672,⟨gd,2,false,false,some [de first a]⟩),(176,⟨go,6,false,false,some [.agg (cs.map vi)]⟩)]⟩)
     (fun (j,cs,_)=>j≤h∧cs.length=6∧(1≤i∨1≤j→1≤h→cs[0]? =some 21)) (fun (j,_)=>h - j) (0,cs,a) (by(refine⟨?_,?_⟩ <;>repeat' (first| exact True.intro| refine ai ?_| refine And.intro ?_ ?_))) ⟨by simp,dk,fun h=>hz (by omega)⟩ ?_
   clear hz
   rintro⟨j,cs,a⟩ ⟨hj,dk,hz⟩
   try dsimp only at hj dk hz
   by_cases Wb:j<h
   · match cs,dk with
     | [x0,x1,x2,x3,x4,x5],_=>
       rcases(by omega:i=0∨i=1∨i=2) with rfl| rfl| rfl<;>rcases(by omega:j=0∨j=1) with rfl| rfl
       all_goals
         (conv=>whnf);repeat' ((first| intro g| refine eY.mk (⟨by decide,by decide⟩) ?_| refine ag.mk _ (n5 _) ?_| refine st ?_| (refine aH.bR ?_;intro s) | (first| refine b1 ?_ ?_| refine b2 ?_ ?_| refine Br.mk ?_ ?_) <;>intro hc| exact rfl) <;>conv=>whnf)
         all_goals first
          | (refine bc.mk (1,[_,_,_,_,_,_],_) (by first| omega| (dsimp only;omega)) ⟨(by first| omega| (dsimp only;omega)),rfl,fun _ X6=> ?_⟩ (by(refine⟨?_,?_⟩ <;>repeat' (first| exact True.intro| refine ai ?_| refine And.intro ?_ ?_)));first| exact hz (by omega) X6| simp[IntKind.wrap,IntKind.bits,IntKind.signed] | trace_state)
          | (refine bc.mk (2,[_,_,_,_,_,_],_) (by first| omega| (dsimp only;omega)) ⟨(by first| omega| (dsimp only;omega)),rfl,fun _ X6=> ?_⟩ (by(refine⟨?_,?_⟩ <;>repeat' (first| exact True.intro| refine ai ?_| refine And.intro ?_ ?_)));exact hz (by omega) X6)
          | trace_state
   · (conv=>whnf);repeat' ((first| intro g| refine st ?_| (refine aH.bR ?_;intro s) | (first| refine b1 ?_ ?_| refine b2 ?_ ?_| refine Br.mk ?_ ?_) <;>intro hc| exact rfl) <;>conv=>whnf)
     exact bc.mk (i+1,cs,a) (by first| omega| (dsimp only;omega)) ⟨(by first| omega| (dsimp only;omega)),dk,fun _ X6=>hz (by omega) X6⟩ (by(refine⟨?_,?_⟩ <;>repeat' (first| exact True.intro| refine ai ?_| refine And.intro ?_ ?_)))
 · (conv=>whnf);repeat' ((first| intro g| refine st ?_| (refine aH.bR ?_;intro s) | (first| refine b1 ?_ ?_| refine b2 ?_ ?_| refine Br.mk ?_ ?_) <;>intro hc| exact rfl) <;>conv=>whnf)
   refine⟨_,?_,hQ a cs dk (fun h1 h2=>hz (by omega) h2)⟩
   (refine⟨?_,?_⟩ <;>repeat' (first| exact True.intro| refine ai ?_| refine And.intro ?_ ?_))
end Go.AM
set_option maxRecDepth 20000
namespace Go.AM
abbrev IJ (second ej:List Int) (gd w h go ge:Nat) (x0 x1 x2 x3 x4 x5:Int) (first:List Int) (ad ae:Nat) (es:List Edge) (g7:Nat) (more:List (Nat×V)):SS:=
 ⟨more++[(5,eV second),(7,.ptr 672 gd 0 0),(8,aF w),(9,aF h),(10,.ptr 176 go 0 0),(13,.ptr 1712 ge 0 0),(14,.sl 241 g7 0 es.length)],
   [(672,⟨gd,2,false,false,some [de first ad]⟩),(176,⟨go,6,false,false,some [.agg [vi x0,vi x1,vi x2,vi x3,vi x4,vi x5]]⟩),(1712,⟨ge,2,false,false,some [de ej ae]⟩),(241,⟨g7,4,true,false,some (es.map Edge.v)⟩)]⟩
section
variable {second ej first:List Int} (h2:second.length< 9223372036854775808) (h3:ej.length< 9223372036854775808) {w h:Nat} (hw:w≤3) (hh:h≤2) {gd go ge ad:Nat} {x0 x1 x2 x3 x4 x5:Int}
include h2 h3 hw hh
set_option maxHeartbeats 4000000 in
theorem PC (hx0:x0=21) (Ps:1≤w) (X6:1≤h) (S:SS) (PD:Nat) (g0:Nat) (hS:SS.Sub (IJ second ej gd w h go ge x0 x1 x2 x3 x4 x5 first ad PD [] g0 [(15,aF 0)]) S) (Q:aW→SS→Prop)
   (hQ: ∀ (es:List Edge) (ae g7:Nat),hG es 9→Has es→Q (.exit 4) (IJ second ej gd w h go ge x0 x1 x2 x3 x4 x5 first ad ae es g7 [])):ba E EJ S Q:=by
 refine ba.Jt ?_
 refine ba.by (fun ((j,es,ae,g7):Nat×List Edge×Nat×Nat)=>IJ second ej gd w h go ge x0 x1 x2 x3 x4 x5 first ad ae es g7 [(15,aF j)])
   (fun (j,es,_,_)=>j≤h+1∧hG es (3*j)∧(1≤j→Has es)) (fun (j,_)=>h+1 - j) (0,[],PD,g0) hS ⟨by simp,⟨by simp,by simp,by simp⟩,by simp⟩ ?_
 rintro⟨j,es,ae,g7⟩ ⟨hj,he,Zr⟩
 try dsimp only at hj he Zr
 by_cases bk:j≤h
 · (conv=> whnf);repeat' ((first| intro g| refine st ?_| (refine aH.bR ?_;intro s) | (first| refine b1 ?_ ?_| refine b2 ?_ ?_| refine Br.mk ?_ ?_) <;>intro hc| exact rfl) <;>conv=>whnf)
   refine ba.by (fun ((i,es,ae,g7):Nat×List Edge×Nat×Nat)=>IJ second ej gd w h go ge x0 x1 x2 x3 x4 x5 first ad ae es g7 [(15,aF j),(16,aF i)])
     (fun (i,es,_,_)=>i≤w∧hG es (3*j+i)∧(1≤j∨1≤i→Has es)) (fun (i,_)=>w - i) (0,es,ae,g7) (by(refine⟨?_,?_⟩ <;>repeat' (first| exact True.intro| refine ai ?_| refine And.intro ?_ ?_))) ⟨by simp,he,fun h=>Zr (by omega)⟩ ?_
   clear Zr
   rintro⟨i,es,ae,g7⟩ ⟨hi,he,Zr⟩
   try dsimp only at hi he Zr
   have sm:=he.1
   by_cases S6:i<w
   · have Wc:IntKind.i64.wrap ((i:Int)+1)=((i+1:Nat):Int):=(wrap64 (by omega) (by omega)).trans (by omega)
     obtain⟨p1,Lu⟩:=tu h2 (i:=i) (j:=j) (by omega) (by omega)
     obtain⟨p2,Lv⟩:=tu h2 (i:=i+1) (j:=j) (by omega) (by omega)
     have LB:Ev E 115 [.lit 1 (second.map vi),vi (IntKind.i64.wrap ((i:Int)+1)),aF j] ⟨p2.v,[]⟩:=by rw[Wc];exact Lv
     obtain⟨ps,a1,l1,l2,LC⟩:=v7 h3 p1 p2 ae
     obtain⟨c1,vu,AE⟩:=tw (cs:=[x0,x1,x2,x3,x4,x5]) rfl hw hh (i:Int) (j:Int)
     obtain⟨c2,IK,BK⟩:=tw (cs:=[x0,x1,x2,x3,x4,x5]) rfl hw hh (i:Int) (IntKind.i64.wrap ((j:Int) - 1))
     obtain⟨es',a2,b,gO,qx⟩:=AB h3 he (by omega) (ps:=ps) ⟨l1,l2⟩ c1 c2 a1
     have aaO:Has es':=gO.2 (by
      by_cases hq:1≤j∨1≤i
      · exact .inl (Zr hq)
      · obtain rfl:j=0:=by omega
        obtain rfl:i=0:=by omega
        refine .inr ⟨?_,IK.2 ?_⟩
        · have:=vu.1 ⟨rfl,rfl⟩ Ps X6
          simp at this;omega
        · rw[wrap64 (by omega) (by omega)];omega)
     clear vu IK
     (conv=>whnf);repeat' ((first| intro g| refine ag.mk _ (Lu) ?_| refine ag.mk _ (LB) ?_| refine ag.mk _ (LC) ?_| refine ag.mk _ (AE) ?_| refine ag.mk _ (BK) ?_| refine ag.mk _ (qx) ?_| refine st ?_| (refine aH.bR ?_;intro s) | (first| refine b1 ?_ ?_| refine b2 ?_ ?_| refine Br.mk ?_ ?_) <;>intro hc| exact rfl) <;>conv=>whnf)
     exact bc.mk (i+1,es',a2,_) (by first| omega| (dsimp only;omega)) ⟨(by first| omega| (dsimp only;omega)),gO.1,fun _=>aaO⟩ (by(refine⟨?_,?_⟩ <;>repeat' (first| exact True.intro| refine ai ?_| refine And.intro ?_ ?_)))
   · obtain rfl:i=w:=by omega
     (conv=>whnf);repeat' ((first| intro g| refine st ?_| (refine aH.bR ?_;intro s) | (first| refine b1 ?_ ?_| refine b2 ?_ ?_| refine Br.mk ?_ ?_) <;>intro hc| exact rfl) <;>conv=>whnf)
     exact bc.mk (j+1,es,ae,g7) (by first| omega| (dsimp only;omega)) ⟨(by first| omega| (dsimp only;omega)),he.mono (by omega),fun _=>Zr (by omega)⟩ (by(refine⟨?_,?_⟩ <;>repeat' (first| exact True.intro| refine ai ?_| refine And.intro ?_ ?_)))
 · (conv=>whnf);repeat' ((first| intro g| refine st ?_| (refine aH.bR ?_;intro s) | (first| refine b1 ?_ ?_| refine b2 ?_ ?_| refine Br.mk ?_ ?_) <;>intro hc| exact rfl) <;>conv=>whnf)
   refine⟨_,?_,hQ es ae g7 (he.mono (by omega)) (Zr (by omega))⟩
   (refine⟨?_,?_⟩ <;>repeat' (first| exact True.intro| refine ai ?_| refine And.intro ?_ ?_))
set_option maxHeartbeats 4000000 in
theorem PE (S:SS) (mC:List Edge) (MO:hG mC 9) (acK:Has mC) (PD:Nat) (g0:Nat) (hS:SS.Sub (IJ second ej gd w h go ge x0 x1 x2 x3 x4 x5 first ad PD mC g0 [(17,aF 0)]) S) (Q:aW→SS→Prop)
   (hQ: ∀ (es:List Edge) (ae g7:Nat),hG es 17→Has es→Q (.exit 8) (IJ second ej gd w h go ge x0 x1 x2 x3 x4 x5 first ad ae es g7 [])):ba E EK S Q:=by
 refine ba.Jt ?_
 refine ba.by (fun ((j,es,ae,g7):Nat×List Edge×Nat×Nat)=>IJ second ej gd w h go ge x0 x1 x2 x3 x4 x5 first ad ae es g7 [(17,aF j)])
   (fun (j,es,_,_)=>j≤h∧hG es (9+4*j)∧Has es) (fun (j,_)=>h - j) (0,mC,PD,g0) hS ⟨by simp,MO,acK⟩ ?_
 rintro⟨j,es,ae,g7⟩ ⟨hj,he,Zr⟩
 try dsimp only at hj he Zr
 by_cases bk:j<h
 · (conv=>whnf);repeat' ((first| intro g| refine st ?_| (refine aH.bR ?_;intro s) | (first| refine b1 ?_ ?_| refine b2 ?_ ?_| refine Br.mk ?_ ?_) <;>intro hc| exact rfl) <;>conv=>whnf)
   refine ba.by (fun ((i,es,ae,g7):Nat×List Edge×Nat×Nat)=>IJ second ej gd w h go ge x0 x1 x2 x3 x4 x5 first ad ae es g7 [(17,aF j),(18,aF i)])
     (fun (i,es,_,_)=>i≤w+1∧hG es (9+4*j+i)∧Has es) (fun (i,_)=>w+1 - i) (0,es,ae,g7) (by(refine⟨?_,?_⟩ <;>repeat' (first| exact True.intro| refine ai ?_| refine And.intro ?_ ?_))) ⟨by simp,he,Zr⟩ ?_
   clear Zr
   rintro⟨i,es,ae,g7⟩ ⟨hi,he,Zr⟩
   try dsimp only at hi he Zr
   have sm:=he.1
   by_cases S6:i≤w
   · have II:IntKind.i64.wrap ((j:Int)+1)=((j+1:Nat):Int):=(wrap64 (by omega) (by omega)).trans (by omega)
     obtain⟨p1,Lu⟩:=tu h2 (i:=i) (j:=j) (by omega) (by omega)
     obtain⟨p2,Lv⟩:=tu h2 (i:=i) (j:=j+1) (by omega) (by omega)
     have LB:Ev E 115 [.lit 1 (second.map vi),aF i,vi (IntKind.i64.wrap ((j:Int)+1))] ⟨p2.v,[]⟩:=by rw[II];exact Lv
     obtain⟨ps,a1,l1,l2,LC⟩:=v7 h3 p1 p2 ae
     obtain⟨c1,_,AE⟩:=tw (cs:=[x0,x1,x2,x3,x4,x5]) rfl hw hh (IntKind.i64.wrap ((i:Int) - 1)) (j:Int)
     obtain⟨c2,_,BK⟩:=tw (cs:=[x0,x1,x2,x3,x4,x5]) rfl hw hh (i:Int) (j:Int)
     obtain⟨es',a2,b,gO,qx⟩:=AB h3 he (by omega) (ps:=ps) ⟨l1,l2⟩ c1 c2 a1
     have aaO:Has es':=gO.2 (.inl Zr)
     (conv=>whnf);repeat' ((first| intro g| refine ag.mk _ (Lu) ?_| refine ag.mk _ (LB) ?_| refine ag.mk _ (LC) ?_| refine ag.mk _ (AE) ?_| refine ag.mk _ (BK) ?_| refine ag.mk _ (qx) ?_| refine st ?_| (refine aH.bR ?_;intro s) | (first| refine b1 ?_ ?_| refine b2 ?_ ?_| refine Br.mk ?_ ?_) <;>intro hc| exact rfl) <;>conv=>whnf)
     exact bc.mk (i+1,es',a2,_) (by first| omega| (dsimp only;omega)) ⟨(by first| omega| (dsimp only;omega)),gO.1,aaO⟩ (by(refine⟨?_,?_⟩ <;>repeat' (first| exact True.intro| refine ai ?_| refine And.intro ?_ ?_)))
   · obtain rfl:i=w+1:=by omega
     (conv=>whnf);repeat' ((first| intro g| refine st ?_| (refine aH.bR ?_;intro s) | (first| refine b1 ?_ ?_| refine b2 ?_ ?_| refine Br.mk ?_ ?_) <;>intro hc| exact rfl) <;>conv=>whnf)
     exact bc.mk (j+1,es,ae,g7) (by first| omega| (dsimp only;omega)) ⟨(by first| omega| (dsimp only;omega)),he.mono (by omega),Zr⟩ (by(refine⟨?_,?_⟩ <;>repeat' (first| exact True.intro| refine ai ?_| refine And.intro ?_ ?_)))
 · (conv=>whnf);repeat' ((first| intro g| refine st ?_| (refine aH.bR ?_;intro s) | (first| refine b1 ?_ ?_| refine b2 ?_ ?_| refine Br.mk ?_ ?_) <;>intro hc| exact rfl) <;>conv=>whnf)
   refine⟨_,?_,hQ es ae g7 (he.mono (by omega)) Zr⟩
   (refine⟨?_,?_⟩ <;>repeat' (first| exact True.intro| refine ai ?_| refine And.intro ?_ ?_))
end
end Go.AM
