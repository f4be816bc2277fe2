/-
  Texts of the proof: PGenG.
-/
import Derived.Test.YtjmcpijpclfakaaGreatRa
import Derived.Test.YtjmcpijpclfakaaGreatGa
set_option maxRecDepth 20000
set_option maxHeartbeats 4000000
set_option linter.unusedSimpArgs false
set_option linter.unusedVariables false
namespace Go.AM
theorem XL {raw:List bH} (hl:raw.length< 9223372036854775808) (MM: ∀k ∈ raw,k.texts.length< 9223372036854775808∧ ∀s ∈ k.texts,s.length< 9223372036854775808): ∃ks:List bH,ks.length≤9∧(∀k ∈ ks,zJ k)∧Ev E 316 [.lit 4 (raw.map bH.v)] ⟨.own 4 (ks.map bH.v),[]⟩:=by
 have key:=Ev.jC (R:=fun r=> ∃ks:List bH,ks.length≤9∧(∀k ∈ ks,zJ k)∧r=⟨.own 4 (ks.map bH.v),[]⟩) aaA (aaB [.lit 4 (raw.map bH.v)]) rfl ?_
 · obtain⟨r,h1,ks,h2,h3,rfl⟩:=key
   exact⟨ks,h2,h3,h1⟩
 have lm: (raw.map bH.v).length=raw.length:=List.length_map ..
 (conv=>whnf);repeat' ((first| intro g| refine st ?_| (first| refine b1 ?_ ?_| refine b2 ?_ ?_| refine Br.mk ?_ ?_) <;>intro hc| exact rfl) <;>conv=>whnf)
 rename_i _
 refine bj.by (fun ((k,ks,R4):Nat×List bH×Nat)=> ⟨[(0,.lit 4 (raw.map bH.v)),(3,.sl 65 R4 0 ks.length),(4,aO k)],
     [(65,⟨R4,4,true,false,some (ks.map bH.v)⟩)]⟩)
   (fun (k,ks,_)=>k≤6∧ks.length=k∧ ∀k ∈ ks,zJ k) (fun (k,_,_)=>6 - k) (0,[],g) (by(refine⟨?_,?_⟩ <;>repeat' (first| exact True.intro| refine ai ?_| refine And.intro ?_ ?_))) ⟨by simp,by simp,by simp⟩ ?_
 rintro⟨k,ks,R4⟩ ⟨hk6,Nw,Fo⟩
 try dsimp only at hk6 Nw Fo
 have lmk: (ks.map bH.v).length=ks.length:=List.length_map ..
 have Kd:V.ae (ks.map bH.v)=true:=AM.bq bH.pure ks
 have hKl:0+ks.length≤(ks.map bH.v).length:=by omega
 by_cases bY:k<raw.length∧k< 6
 rotate_left
 · by_cases h1:k<raw.length
   · have h2: ¬k< 6:=fun h=>bY ⟨h1,h⟩
     (conv=>whnf);repeat' ((first| intro g| refine bU.mk (⟨hKl,Kd⟩) ?_| refine st ?_| (first| refine b1 ?_ ?_| refine b2 ?_ ?_| refine Br.mk ?_ ?_) <;>intro hc| exact rfl) <;>conv=>whnf)
     exact⟨ks,by omega,Fo,rfl⟩
   · (conv=>whnf);repeat' ((first| intro g| refine bU.mk (⟨hKl,Kd⟩) ?_| refine st ?_| (first| refine b1 ?_ ?_| refine b2 ?_ ?_| refine Br.mk ?_ ?_) <;>intro hc| exact rfl) <;>conv=>whnf)
     exact⟨ks,by omega,Fo,rfl⟩
 obtain⟨h1,h2⟩:=bY
 have hx:raw[k]? =some raw[k]:=bp h1
 generalize raw[k]=x at hx
 have hxr:=MM x (List.mem_of_getElem? hx)
 obtain⟨t,gD,ht⟩:=x.na
 have lmt: (x.texts.map V.str).length=x.texts.length:=List.length_map ..
 rcases ht with rfl| ⟨e0,rfl⟩
 rotate_left
 · (conv=>whnf);repeat' ((first| intro g| refine bD.mk _ (aA hx gD rfl) ?_| refine st ?_| (first| refine b1 ?_ ?_| refine b2 ?_ ?_| refine Br.mk ?_ ?_) <;>intro hc| exact rfl) <;>conv=>whnf)
   refine bj.by (fun (i:Nat)=> ⟨[(0,.lit 4 (raw.map bH.v)),(3,.sl 65 R4 0 ks.length),(4,aO k),(5,.ptr 96 g 0 0),(6,vi 0)],
       [(65,⟨R4,4,true,false,some (ks.map bH.v)⟩),(96,⟨g,4,false,false,some [.agg [vi x.var,vi x.lo,vi x.hi,.nils]]⟩)]⟩) (fun i=>i=0) (fun i=>0) 0 (by(refine⟨?_,?_⟩ <;>repeat' (first| exact True.intro| refine ai ?_| refine And.intro ?_ ?_))) rfl ?_
   rintro i rfl
   (conv=>whnf);repeat' ((first| intro g| refine bD.mk _ (aA hx gD rfl) ?_| refine st ?_| (first| refine b1 ?_ ?_| refine b2 ?_ ?_| refine Br.mk ?_ ?_) <;>intro hc| exact rfl) <;>conv=>whnf)
   refine bk.mk (k+1,ks++[⟨x.var,x.lo,x.hi,true,[]⟩],g) (by first| omega| (dsimp only;omega)) ⟨by omega,by simp;omega,?_⟩ (by(refine⟨?_,?_⟩ <;>repeat' (first| exact True.intro| refine ai ?_| refine And.intro ?_ ?_)))
   intro y hy
   rcases List.mem_append.1 hy with h| h
   · exact Fo y h
   · simp at h;subst h;exact⟨by simp,by simp⟩
 (conv=>whnf);repeat' ((first| intro g| refine bD.mk _ (aA hx gD rfl) ?_| refine st ?_| (first| refine b1 ?_ ?_| refine b2 ?_ ?_| refine Br.mk ?_ ?_) <;>intro hc| exact rfl) <;>conv=>whnf)
 obtain⟨Fj,yI⟩: ∃x,x=g:=⟨_,rfl⟩
 rw[←yI];clear yI
 refine bj.by (fun ((i,L,ce):Nat×List dE×Option Nat)=> ⟨[(0,.lit 4 (raw.map bH.v)),(3,.sl 65 R4 0 ks.length),(4,aO k),(5,.ptr 96 Fj 0 0),(6,aO i)],
     match ce with
     | none=> [(65,⟨R4,4,true,false,some (ks.map bH.v)⟩),(96,⟨Fj,4,false,false,some [.agg [vi x.var,vi x.lo,vi x.hi,.nils]]⟩)]
     | some MN=> [(65,⟨R4,4,true,false,some (ks.map bH.v)⟩),(96,⟨Fj,4,false,false,some [.agg [vi x.var,vi x.lo,vi x.hi,.sl 101 MN 0 L.length]]⟩),(101,⟨MN,1,true,false,some (L.map V.str)⟩)]⟩)
   (fun (i,L,ce)=>i≤5∧L.length=i∧(∀s ∈ L,s.length< 4611686018427387904)∧(ce=none→L=[])∧(L=[]→ce=none)) (fun (i,_,_)=>5 - i) (0,[],none) (by(refine⟨?_,?_⟩ <;>repeat' (first| exact True.intro| refine ai ?_| refine And.intro ?_ ?_))) ⟨by simp,by simp,by simp,by simp,by simp⟩ ?_
 rintro⟨i,L,ce⟩ ⟨hi5,DN,hLs,oZ,vJ⟩
 try dsimp only at hi5 DN hLs oZ vJ
 have sU: (L.map V.str).length=L.length:=List.length_map ..
 by_cases sG:i<x.texts.length∧i< 5
 · obtain⟨j1,j2⟩:=sG
   have hs:x.texts[i]? =some x.texts[i]:=bp j1
   generalize x.texts[i]=s at hs
   have Xq:=hxr.2 s (List.mem_of_getElem? hs)
   have NB:0≤(if (30:Int) < ((s.length:Nat):Int) then(30:Int) else((s.length:Nat):Int)):=by split<;>omega
   have DE: (if (30:Int) < ((s.length:Nat):Int) then(30:Int) else((s.length:Nat):Int)).toNat≤s.length:=by split<;>omega
   have hWl: (List.take ((if (30:Int) < ((s.length:Nat):Int) then(30:Int) else((s.length:Nat):Int)).toNat - 0) (List.drop 0 s)).length< 4611686018427387904:=by simp;omega
   have b1: ((i:Nat):Int) < ((x.texts.map V.str).length:Nat):=by omega
   cases ce with
   | none=>
     obtain rfl:=oZ rfl
     (conv=>whnf);repeat' ((first| intro g| refine bU.mk (NB) ?_| refine bU.mk (⟨Nat.zero_le _,DE⟩) ?_| refine bD.mk _ (aA hx gD rfl) ?_| refine bD.mk _ (aA hs rfl rfl) ?_| refine st ?_| (first| refine b1 ?_ ?_| refine b2 ?_ ?_| refine Br.mk ?_ ?_) <;>intro hc| exact rfl) <;>conv=>whnf)
     exact bk.mk (i+1,[(List.take ((if (30:Int) < ((s.length:Nat):Int) then(30:Int) else((s.length:Nat):Int)).toNat - 0) (List.drop 0 s))],some g) (by first| omega| (dsimp only;omega)) ⟨by omega,by simp at DN ⊢;omega,by intro u hu;simp only[List.mem_singleton] at hu;subst hu;exact hWl,by simp,by simp⟩ (by(refine⟨?_,?_⟩ <;>repeat' (first| exact True.intro| refine ai ?_| refine And.intro ?_ ?_)))
   | some MN=>
     (conv=>whnf);repeat' ((first| intro g| refine bU.mk (NB) ?_| refine bU.mk (⟨Nat.zero_le _,DE⟩) ?_| refine bD.mk _ (aA hx gD rfl) ?_| refine bD.mk _ (aA hs rfl rfl) ?_| refine st ?_| (first| refine b1 ?_ ?_| refine b2 ?_ ?_| refine Br.mk ?_ ?_) <;>intro hc| exact rfl) <;>conv=>whnf)
     exact bk.mk (i+1,L++[(List.take ((if (30:Int) < ((s.length:Nat):Int) then(30:Int) else((s.length:Nat):Int)).toNat - 0) (List.drop 0 s))],some g) (by first| omega| (dsimp only;omega)) ⟨by omega,by simp only[List.length_append,List.length_cons,List.length_nil];omega,by intro u hu;rcases List.mem_append.1 hu with h| h;exact hLs u h;simp only[List.mem_singleton] at h;subst h;exact hWl,by simp,by simp⟩ (by(refine⟨?_,?_⟩ <;>repeat' (first| exact True.intro| refine ai ?_| refine And.intro ?_ ?_)))
 · by_cases j1:i<x.texts.length
   · have j2: ¬i< 5:=fun h=>sG ⟨j1,h⟩
     cases ce with
     | none=>
       obtain rfl:=oZ rfl
       simp at DN;omega
     | some MN=>
       (conv=>whnf);repeat' ((first| intro g| refine bD.mk _ (aA hx gD rfl) ?_| refine st ?_| (first| refine b1 ?_ ?_| refine b2 ?_ ?_| refine Br.mk ?_ ?_) <;>intro hc| exact rfl) <;>conv=>whnf)
       refine bk.mk (k+1,ks++[⟨x.var,x.lo,x.hi,false,L⟩],g) (by first| omega| (dsimp only;omega)) ⟨by omega,by simp;omega,?_⟩ (by simp only[List.map_append,List.map_cons,List.map_nil,bH.v,vG]; (refine⟨?_,?_⟩ <;>repeat' (first| exact True.intro| refine ai ?_| refine And.intro ?_ ?_)))
       intro y hy
       rcases List.mem_append.1 hy with h| h
       · exact Fo y h
       · simp at h;subst h;exact⟨by dsimp only;omega,hLs⟩
   · cases ce with
     | none=>
       obtain rfl:=oZ rfl
       (conv=>whnf);repeat' ((first| intro g| refine bD.mk _ (aA hx gD rfl) ?_| refine st ?_| (first| refine b1 ?_ ?_| refine b2 ?_ ?_| refine Br.mk ?_ ?_) <;>intro hc| exact rfl) <;>conv=>whnf)
       refine bk.mk (k+1,ks++[⟨x.var,x.lo,x.hi,true,[]⟩],g) (by first| omega| (dsimp only;omega)) ⟨by omega,by simp;omega,?_⟩ (by(refine⟨?_,?_⟩ <;>repeat' (first| exact True.intro| refine ai ?_| refine And.intro ?_ ?_)))
       intro y hy
       rcases List.mem_append.1 hy with h| h
       · exact Fo y h
       · simp at h;subst h;exact⟨by simp,by simp⟩
     | some MN=>
       (conv=>whnf);repeat' ((first| intro g| refine bD.mk _ (aA hx gD rfl) ?_| refine st ?_| (first| refine b1 ?_ ?_| refine b2 ?_ ?_| refine Br.mk ?_ ?_) <;>intro hc| exact rfl) <;>conv=>whnf)
       refine bk.mk (k+1,ks++[⟨x.var,x.lo,x.hi,false,L⟩],g) (by first| omega| (dsimp only;omega)) ⟨by omega,by simp;omega,?_⟩ (by simp only[List.map_append,List.map_cons,List.map_nil,bH.v,vG]; (refine⟨?_,?_⟩ <;>repeat' (first| exact True.intro| refine ai ?_| refine And.intro ?_ ?_)))
       intro y hy
       rcases List.mem_append.1 hy with h| h
       · exact Fo y h
       · simp at h;subst h;exact⟨by dsimp only;omega,hLs⟩
end Go.AM
