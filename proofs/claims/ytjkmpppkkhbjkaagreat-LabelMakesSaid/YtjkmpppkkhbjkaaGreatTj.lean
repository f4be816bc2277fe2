/-
  Texts of the proof: LtR, LtS.
-/
import Derived.Test.YtjkmpppkkhbjkaaGreatTi
import Derived.Test.YtjkmpppkkhbjkaaGreatDa
set_option maxRecDepth 20000
set_option linter.unusedSimpArgs false
set_option linter.unusedVariables false
set_option maxHeartbeats 4000000
namespace Go.AM
theorem Cl {m:bk} (h:m.Sm) (d:Int): ∃ (l:List Event) (v:V),l.length≤200∧Ev E 614 [m.v,vi d] ⟨v,[]⟩∧Yu v (bI.mk d l).v:=by
 suffices hh: ∃res,Ev E 614 [m.v,vi d] res∧ ∃ (l:List Event) (ev:V),l.length≤200∧v8 5 (l.map Event.v) ev∧res=⟨.agg [vi d,ev],[]⟩ by
   obtain⟨_,h1,l,ev,h2,h3,rfl⟩:=hh
   refine⟨l,_,h2,h1,?_⟩
   rcases h3 with rfl| rfl
   all_goals exact fun _ _=>rfl
 refine Ev.bz UN (UO _) rfl ?_
 (conv=>whnf);repeat' ((first| intro g| refine st ?_| (first| refine b1 ?_ ?_| refine b2 ?_ ?_| refine Br.mk ?_ ?_) <;>intro hc| exact rfl) <;>conv=>whnf)
 rename_i fc Bv
 obtain⟨I5,hg⟩: ∃x,x=g:=⟨_,rfl⟩
 rw[←hg];clear hg
 refine aI.by (fun ((M,l,b,ce):bk×List Event×Int×Option Nat)=> ⟨[(1,vi d),(2,.ptr 48 fc 0 0),(4,.ptr 80 Bv 0 0),(5,.ptr 96 I5 0 0),(6,vi b)],
   match ce with
   | none=> [(48,⟨fc,4,false,false,some [M.v]⟩),(80,⟨Bv,2,false,false,some [.agg [vi 0,.lit 5 []]]⟩),(96,⟨I5,2,false,false,some [.agg [vi d,.nils]]⟩)]
   | some ge=> [(48,⟨fc,4,false,false,some [M.v]⟩),(80,⟨Bv,2,false,false,some [.agg [vi 0,.lit 5 []]]⟩),(96,⟨I5,2,false,false,some [.agg [vi d,.sl 99 ge 0 l.length]]⟩),(99,⟨ge,5,true,false,some (l.map Event.v)⟩)]⟩)
   (fun (M,l,_,ce)=>M.Sm∧l.length≤200∧(ce=none→l=[])) (fun (_,l,_,_)=>200 - l.length) (m,[],0,none) (by(refine⟨?_,?_⟩ <;>repeat' (first| exact True.intro| refine ai ?_| refine And.intro ?_ ?_))) ⟨h,by simp,by simp⟩ ?_
 rintro⟨m2,l,b,ce⟩ ⟨h9,hl,vz⟩
 try dsimp only at h9 hl vz
 obtain⟨e,ok,h1⟩:=Cj h9 d b
 obtain⟨M,c,hM,h2⟩:=AN h9 e
 by_cases bp:l.length< 200
 case neg=>
   cases ce with
   | none=>exact absurd (by rw[vz rfl];simp) bp
   | some ge=>
     (conv=>whnf);repeat' ((first| intro g| refine st ?_| (first| refine b1 ?_ ?_| refine b2 ?_ ?_| refine Br.mk ?_ ?_) <;>intro hc| exact rfl) <;>conv=>whnf)
     exact⟨l,_,hl,.inl rfl,rfl⟩
 cases ce with
 | none=>
   obtain rfl:=vz rfl
   cases ok with
   | false=>
     (conv=>whnf);repeat' ((first| intro g| refine ah.mk _ (h1) ?_| refine st ?_| (first| refine b1 ?_ ?_| refine b2 ?_ ?_| refine Br.mk ?_ ?_) <;>intro hc| exact rfl) <;>conv=>whnf)
     exact⟨[],_,by simp,.inr rfl,rfl⟩
   | true=>
     by_cases eB:c=0
     · subst eB
       (conv=>whnf);repeat' ((first| intro g| refine ah.mk _ (h1) ?_| refine ah.mk _ (h2) ?_| refine st ?_| (first| refine b1 ?_ ?_| refine b2 ?_ ?_| refine Br.mk ?_ ?_) <;>intro hc| exact rfl) <;>conv=>whnf)
       exact aE.mk (M,[e],e.at_,some g) (by simp) ⟨hM,by simp,by simp⟩ (by(refine⟨?_,?_⟩ <;>repeat' (first| exact True.intro| refine ai ?_| refine And.intro ?_ ?_)))
     · (conv=>whnf);repeat' ((first| contradiction| intro g| refine ah.mk _ (h1) ?_| refine ah.mk _ (h2) ?_| refine st ?_| (first| refine b1 ?_ ?_| refine b2 ?_ ?_| refine Br.mk ?_ ?_) <;>intro hc| exact rfl) <;>conv=>whnf)
       exact⟨[],_,by simp,.inr rfl,rfl⟩
 | some ge=>
   cases ok with
   | false=>
     (conv=>whnf);repeat' ((first| intro g| refine ah.mk _ (h1) ?_| refine st ?_| (first| refine b1 ?_ ?_| refine b2 ?_ ?_| refine Br.mk ?_ ?_) <;>intro hc| exact rfl) <;>conv=>whnf)
     exact⟨l,_,hl,.inl rfl,rfl⟩
   | true=>
     by_cases eB:c=0
     · subst eB
       (conv=>whnf);repeat' ((first| intro g| refine ah.mk _ (h1) ?_| refine ah.mk _ (h2) ?_| refine st ?_| (first| refine b1 ?_ ?_| refine b2 ?_ ?_| refine Br.mk ?_ ?_) <;>intro hc| exact rfl) <;>conv=>whnf)
       exact aE.mk (M,l++[e],e.at_,some g) (by simp;omega) ⟨hM,by simp;omega,by simp⟩ (by(refine⟨?_,?_⟩ <;>repeat' (first| exact True.intro| refine ai ?_| refine And.intro ?_ ?_)))
     · (conv=>whnf);repeat' ((first| contradiction| intro g| refine ah.mk _ (h1) ?_| refine ah.mk _ (h2) ?_| refine st ?_| (first| refine b1 ?_ ?_| refine b2 ?_ ?_| refine Br.mk ?_ ?_) <;>intro hc| exact rfl) <;>conv=>whnf)
       exact⟨l,_,hl,.inl rfl,rfl⟩
end Go.AM
set_option maxHeartbeats 4000000
namespace Go.AM
theorem v9 {m:bk} (h:m.Sm): ∃l:List Int,l.length< 4000∧Ev E 613 [m.v] ⟨.lit 1 (l.map vi),[]⟩:=by
 suffices hh: ∃res,Ev E 613 [m.v] res∧ ∃l:List Int,l.length< 4000∧res=⟨.lit 1 (l.map vi),[]⟩ by
   obtain⟨_,h1,l,h2,rfl⟩:=hh
   exact⟨l,h2,h1⟩
 have e1:=h.f
 have e2:=h.w
 have e3:=h.p
 have hm:c6 E 162=[]:=rfl
 have hp: ∀ (L:List Int) x,V.aq [.lit 1 (L.map vi),vi x]=true:=fun _ _=>rfl
 refine Ev.bz UL (UM _) rfl ?_
 (conv=>whnf);repeat' ((first| intro g| refine st ?_| (first| refine b1 ?_ ?_| refine b2 ?_ ?_| refine Br.mk ?_ ?_) <;>intro hc| exact rfl) <;>conv=>whnf)
 obtain⟨dn,hg⟩: ∃x,x=g:=⟨_,rfl⟩
 rw[←hg];clear hg
 refine aI.by (fun ((k,L):Nat×List Int)=> ⟨[(1,.ptr 32 dn 0 0),(3,.lit 1 (L.map vi)),(4,aC k)],[(32,⟨dn,4,false,false,some [m.v]⟩)]⟩) (fun (k,L)=>k≤m.ba.length∧L.length≤k) (fun (k,_)=>m.ba.length - k) (0,[]) (by(refine⟨?_,?_⟩ <;>repeat' (first| exact True.intro| refine ai ?_| refine And.intro ?_ ?_))) ⟨by simp,by simp⟩ ?_
 rintro⟨k,L⟩ ⟨hk,hL⟩
 try dsimp only at hk hL
 by_cases bp:k<m.ba.length
 · obtain⟨x,hx⟩: ∃x,m.ba[k]? =some x:=⟨_,aD bp⟩
   obtain⟨L',v,h1,h2,h3⟩:=qI (l:=L) (by omega) x.eM
   (conv=>whnf);repeat' ((first| refine er hm (hp _ _) h2 h3 ?_| intro g| refine aN.mk _ (al hx rfl) ?_| refine st ?_| (first| refine b1 ?_ ?_| refine b2 ?_ ?_| refine Br.mk ?_ ?_) <;>intro hc| exact rfl) <;>conv=>whnf)
   exact aE.mk (k+1,L') (by first| omega| (dsimp only;omega)) ⟨by omega,by omega⟩ (by(refine⟨?_,?_⟩ <;>repeat' (first| exact True.intro| refine ai ?_| refine And.intro ?_ ?_)))
 obtain⟨n1,Jd⟩: ∃n,L.length=n:=⟨_,rfl⟩
 have aaT:n1< 1000:=by omega
 (conv=>whnf);repeat' ((first| intro g| refine st ?_| (first| refine b1 ?_ ?_| refine b2 ?_ ?_| refine Br.mk ?_ ?_) <;>intro hc| exact rfl) <;>conv=>whnf)
 refine aI.by (fun ((k,L):Nat×List Int)=> ⟨[(1,.ptr 32 dn 0 0),(3,.lit 1 (L.map vi)),(5,aC k)],[(32,⟨dn,4,false,false,some [m.v]⟩)]⟩) (fun (k,L)=>k≤m.ways.length∧L.length≤1000+k) (fun (k,_)=>m.ways.length - k) (0,L) (by(refine⟨?_,?_⟩ <;>repeat' (first| exact True.intro| refine ai ?_| refine And.intro ?_ ?_))) ⟨by simp,by omega⟩ ?_
 clear hk hL bp k Jd aaT n1 L
 rintro⟨k,L⟩ ⟨hk,hL⟩
 try dsimp only at hk hL
 by_cases bp:k<m.ways.length
 · obtain⟨x,hx⟩: ∃x,m.ways[k]? =some x:=⟨_,aD bp⟩
   obtain⟨L',v,h1,h2,h3⟩:=qI (l:=L) (by omega) x.eM
   (conv=>whnf);repeat' ((first| refine er hm (hp _ _) h2 h3 ?_| intro g| refine aN.mk _ (al hx rfl) ?_| refine st ?_| (first| refine b1 ?_ ?_| refine b2 ?_ ?_| refine Br.mk ?_ ?_) <;>intro hc| exact rfl) <;>conv=>whnf)
   exact aE.mk (k+1,L') (by first| omega| (dsimp only;omega)) ⟨by omega,by omega⟩ (by(refine⟨?_,?_⟩ <;>repeat' (first| exact True.intro| refine ai ?_| refine And.intro ?_ ?_)))
 (conv=>whnf);repeat' ((first| intro g| refine st ?_| (first| refine b1 ?_ ?_| refine b2 ?_ ?_| refine Br.mk ?_ ?_) <;>intro hc| exact rfl) <;>conv=>whnf)
 refine aI.by (fun ((k,L):Nat×List Int)=> ⟨[(1,.ptr 32 dn 0 0),(3,.lit 1 (L.map vi)),(6,aC k)],[(32,⟨dn,4,false,false,some [m.v]⟩)]⟩) (fun (k,L)=>k≤m.au.length∧L.length≤2000+k) (fun (k,_)=>m.au.length - k) (0,L) (by(refine⟨?_,?_⟩ <;>repeat' (first| exact True.intro| refine ai ?_| refine And.intro ?_ ?_))) ⟨by simp,by omega⟩ ?_
 rintro⟨k2,L2⟩ ⟨IZ,hL2⟩
 try dsimp only at IZ hL2
 by_cases kl:k2<m.au.length
 · obtain⟨x,hx⟩: ∃x,m.au[k2]? =some x:=⟨_,aD kl⟩
   obtain⟨L',v,h1,h2,h3⟩:=qI (l:=L2) (by omega) x.eM
   (conv=>whnf);repeat' ((first| refine er hm (hp _ _) h2 h3 ?_| intro g| refine aN.mk _ (al hx rfl) ?_| refine st ?_| (first| refine b1 ?_ ?_| refine b2 ?_ ?_| refine Br.mk ?_ ?_) <;>intro hc| exact rfl) <;>conv=>whnf)
   exact aE.mk (k2+1,L') (by first| omega| (dsimp only;omega)) ⟨by omega,by omega⟩ (by(refine⟨?_,?_⟩ <;>repeat' (first| exact True.intro| refine ai ?_| refine And.intro ?_ ?_)))
 (conv=>whnf);repeat' ((first| intro g| refine st ?_| (first| refine b1 ?_ ?_| refine b2 ?_ ?_| refine Br.mk ?_ ?_) <;>intro hc| exact rfl) <;>conv=>whnf)
 exact⟨L2,by omega,rfl⟩
theorem ER {m:bk} (h:m.Sm): ∃l:List bI,l.length< 4000∧(∀x ∈ l,x.fg.length≤200)∧Ev E 594 [m.v] ⟨.own 2 (l.map bI.v),[]⟩:=by
 suffices hh: ∃res,Ev E 594 [m.v] res∧ ∃l:List bI,l.length< 4000∧(∀x ∈ l,x.fg.length≤200)∧res=⟨.own 2 (l.map bI.v),[]⟩ by
   obtain⟨_,h1,l,h2,h3,rfl⟩:=hh
   exact⟨l,h2,h3,h1⟩
 obtain⟨ds,hd,h1⟩:=v9 h
 have hm:c6 E 614=[]:=rfl
 have hp: ∀x,V.aq [m.v,vi x]=true:=fun _=>rfl
 refine Ev.bz Ul (Um _) rfl ?_
 (conv=>whnf);repeat' ((first| intro g| refine ah.mk _ (h1) ?_| refine st ?_| (first| refine b1 ?_ ?_| refine b2 ?_ ?_| refine Br.mk ?_ ?_) <;>intro hc| exact rfl) <;>conv=>whnf)
 rename_i dn _
 refine aI.by (fun ((k,l,gl):Nat×List bI×Nat)=> ⟨[(1,.ptr 32 dn 0 0),(3,.sl 65 gl 0 l.length),(4,.lit 1 (ds.map vi)),(5,aC k)],[(32,⟨dn,4,false,false,some [m.v]⟩),(65,⟨gl,2,true,false,some (l.map bI.v)⟩)]⟩) (fun (k,l,_)=>k≤ds.length∧l.length≤k∧ ∀x ∈ l,x.fg.length≤200) (fun (k,_)=>ds.length - k) (0,[],g) (by(refine⟨?_,?_⟩ <;>repeat' (first| exact True.intro| refine ai ?_| refine And.intro ?_ ?_))) ⟨by simp,by simp,by simp⟩ ?_
 clear g
 rintro⟨k,l,gl⟩ ⟨hk,hl,oU⟩
 try dsimp only at hk hl oU
 by_cases bp:k<ds.length
 · obtain⟨x,hx⟩: ∃x,ds[k]? =some x:=⟨_,aD bp⟩
   obtain⟨es,v,h2,h3,h4⟩:=Cl h x
   have aaU: ∀y ∈ l++[bI.mk x es],y.fg.length≤200:=fun y hy=>by
    rcases List.mem_append.1 hy with hy| hy
    · exact oU y hy
    · rw[List.mem_singleton.1 hy];exact h2
   (conv=>whnf);repeat' ((first| refine er hm (hp _) h3 h4 ?_| intro g| refine aN.mk _ (al hx rfl) ?_| refine st ?_| (first| refine b1 ?_ ?_| refine b2 ?_ ?_| refine Br.mk ?_ ?_) <;>intro hc| exact rfl) <;>conv=>whnf)
   exact aE.mk (k+1,l++[bI.mk x es],g) (by first| omega| (dsimp only;omega)) ⟨by omega,by simp;omega,aaU⟩ (by(refine⟨?_,?_⟩ <;>repeat' (first| exact True.intro| refine ai ?_| refine And.intro ?_ ?_)))
 · (conv=>whnf);repeat' ((first| intro g| refine st ?_| (first| refine b1 ?_ ?_| refine b2 ?_ ?_| refine Br.mk ?_ ?_) <;>intro hc| exact rfl) <;>conv=>whnf)
   exact⟨l,by omega,oU,rfl⟩
end Go.AM
