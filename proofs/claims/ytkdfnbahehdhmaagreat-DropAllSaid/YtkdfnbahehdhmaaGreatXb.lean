/-
  Texts of the proof, joined by program: DcC, DcD. Own work.
-/
import Derived.Test.YtkdfnbahehdhmaaGreatXa
set_option linter.unusedSimpArgs false
set_option linter.unusedVariables false
set_option maxRecDepth 20000
set_option maxHeartbeats 4000000
namespace Go.AM
theorem oA {α:Type} (p:α→Bool) (l:List α):decide (0≤firstIdx p l)=l.any p:=by
 rcases jN p l with⟨h,k⟩ | ⟨i,x,h,k,hp⟩
 · rw[h]
   symm
   rw[show decide ((0:Int)≤ -1)=false from rfl,List.any_eq_false]
   intro x hx
   obtain⟨i,hi,rfl⟩:=List.getElem_of_mem hx
   simp[k i _ (aE hi)]
 · rw[h]
   symm
   rw[decide_eq_true (by omega),List.any_eq_true]
   exact⟨x,List.mem_of_getElem? k,hp⟩
theorem aat {n:Int} (h0:0≤n) (h1:n≤1152921504606846976) (x:Int):Ev E 260 [vi x,.eptr (vi n) 0] ⟨.bool (decide (x< -n∨n<x)),[]⟩:=by
 have hw:IntKind.i64.wrap (0 - n)= -n:=(wrap64 (by omega) (by omega)).trans (by omega)
 refine Ev.aG Ws (Wt _) rfl ?_
 (conv=>whnf);repeat' ((first| intro g| refine st ?_| (first| refine b1 ?_ ?_| refine b2 ?_ ?_| refine Br.mk ?_ ?_) <;>intro hc| exact rfl) <;>conv=>whnf)
 · rw[hw] at hc
   rw[decide_eq_true (Or.inl hc)]
 · rw[hw] at hc
   simp[hc]
theorem xB {n:Int} (h0:0≤n) (h1:n≤1152921504606846976) (x y:Int):Ev E 227 [vi n,.lit 1 [vi x,vi y]] ⟨.bool (decide ((-n≤x∧x≤n)∧ -n≤y∧y≤n)),[]⟩:=by
 have h:Ev E 259 [.lit 1 [vi x,vi y],.fn 260 [.eptr (vi n) 0]] ⟨_,[]⟩:=Ik (l:=[x,y]) (caps:=[.eptr (vi n) 0]) rfl (by simp) (aat h0 h1) rfl
 rw[oA] at h
 have e: (!([x,y].any fun x=>decide (x< -n∨n<x)))=decide ((-n≤x∧x≤n)∧ -n≤y∧y≤n):=by
  rw[Bool.eq_iff_iff]
  simp only[List.any_cons,List.any_nil,Bool.or_false,Bool.not_eq_true',Bool.or_eq_false_iff,decide_eq_false_iff_not,decide_eq_true_eq]
  omega
 refine Ev.aG VW (VX _) rfl ?_
 rw[←e]
 (conv=>whnf);repeat' ((first| intro g| refine ag.mk _ (h) ?_| refine st ?_| (first| refine b1 ?_ ?_| refine b2 ?_ ?_| refine Br.mk ?_ ?_) <;>intro hc| exact rfl) <;>conv=>whnf)
def Fj (p:Pt):Prop:=(-1152921504606846976≤p.x∧p.x≤1152921504606846976)∧ -1152921504606846976≤p.y∧p.y≤1152921504606846976
instance (p:Pt):Decidable (Fj p):=by unfold Fj;infer_instance
theorem eb.big {p:Pt} (h:eb p):Fj p:=by unfold eb Fj at*;omega
theorem aau (p:Pt):Ev E 276 [p.v] ⟨.bool (!decide (Fj p)),[]⟩:=by
 have h:=xB (n:=1152921504606846976) (by omega) (by omega) p.x p.y
 refine Ev.aG Wu (Wv _) rfl ?_
 (conv=>whnf);repeat' ((first| intro g| refine ag.mk _ (h) ?_| refine st ?_| (first| refine b1 ?_ ?_| refine b2 ?_ ?_| refine Br.mk ?_ ?_) <;>intro hc| exact rfl) <;>conv=>whnf)
theorem Ip {l:List Pt} (hl:l.length< 1000) (hk: ∀p ∈ l,eb p):Ev E 251 [.lit 2 (l.map Pt.v)] ⟨.bool true,[]⟩:=by
 have h:=AL (l:=l) (caps:=[]) rfl (by omega) aau rfl
 rw[oA] at h
 have e: (l.any fun p=> !decide (Fj p))=false:=by
  rw[List.any_eq_false]
  intro p hp;simp[(hk p hp).big]
 rw[e] at h
 refine Ev.aG VY (VZ _) rfl ?_
 (conv=>whnf);repeat' ((first| intro g| refine ag.mk _ (h) ?_| refine st ?_| (first| refine b1 ?_ ?_| refine b2 ?_ ?_| refine Br.mk ?_ ?_) <;>intro hc| exact rfl) <;>conv=>whnf)
theorem Cr (p:Pt):Ev E 189 [p.v] ⟨.bool (decide (eb p)),[]⟩:=by
 have h:=xB (n:=16384) (by omega) (by omega) p.x p.y
 refine Ev.aG Vy (Vz _) rfl ?_
 (conv=>whnf);repeat' ((first| intro g| refine ag.mk _ (h) ?_| refine st ?_| (first| refine b1 ?_ ?_| refine b2 ?_ ?_| refine Br.mk ?_ ?_) <;>intro hc| exact rfl) <;>conv=>whnf)
theorem aav (p:Pt):Ev E 220 [p.v] ⟨.bool (!decide (eb p)),[]⟩:=by
 refine Ev.aG Vw (Vx _) rfl ?_
 (conv=>whnf);repeat' ((first| intro g| refine ag.mk _ (Cr _) ?_| refine st ?_| (first| refine b1 ?_ ?_| refine b2 ?_ ?_| refine Br.mk ?_ ?_) <;>intro hc| exact rfl) <;>conv=>whnf)
def du (l:List Pt):Bool:=l.all fun p=>decide (eb p)
theorem vJ {l:List Pt} (hl:l.length< 1000000):Ev E 181 [.lit 2 (l.map Pt.v)] ⟨.bool (du l),[]⟩:=by
 have h:=AL (l:=l) (caps:=[]) rfl (by omega) aav rfl
 rw[oA] at h
 have e: (!(l.any fun p=> !decide (eb p)))=du l:=by
  unfold du
  rw[List.all_eq_not_any_not]
 refine Ev.aG UR (US _) rfl ?_
 rw[←e]
 (conv=>whnf);repeat' ((first| intro g| refine ag.mk _ (h) ?_| refine st ?_| (first| refine b1 ?_ ?_| refine b2 ?_ ?_| refine Br.mk ?_ ?_) <;>intro hc| exact rfl) <;>conv=>whnf)
theorem Cs (a b:Pt):Ev E 37 [a.v,b.v] ⟨(Pt.mk (wb (a.x - b.x)) (wb (a.y - b.y))).v,[]⟩:=by
 refine Ev.aG aa0 (aa1 _) rfl ?_
 (conv=>whnf);repeat' ((first| intro g| refine st ?_| (first| refine b1 ?_ ?_| refine b2 ?_ ?_| refine Br.mk ?_ ?_) <;>intro hc| exact rfl) <;>conv=>whnf)
theorem DE {a b:Pt} (ha:eb a) (hb:eb b):Ev E 37 [a.v,b.v] ⟨(Pt.mk (a.x - b.x) (a.y - b.y)).v,[]⟩:=by
 have h:=Cs a b
 unfold eb at ha hb
 rwa [uD (by omega) (by omega),uD (by omega) (by omega)] at h
theorem kB {a b p:Pt} (ha:eb a) (hb:eb b) (hp:eb p):Ev E 252 [a.v,b.v,p.v] ⟨vi (dL a b p),[]⟩:=by
 have Ry:Ev E 251 [.lit 2 [a.v,b.v,p.v]] ⟨.bool true,[]⟩:=Ip (l:=[a,b,p]) (by simp) (by simp;exact⟨ha,hb,hp⟩)
 have s1:=DE hb ha
 have s2:=DE hp ha
 have haa:=sq a p
 unfold eb at ha hb hp
 have hs:=Fg (a:=b.x - a.x) (b:=p.y - a.y) (c:=b.y - a.y) (d:=p.x - a.x) (by omega) (by omega) (by omega) (by omega) (by omega) (by omega) (by omega) (by omega)
 refine Ev.aG V0 (V1 _) rfl ?_
 (conv=>whnf);repeat' ((first| intro g| refine ag.mk _ (Ry) ?_| refine ag.mk _ (s1) ?_| refine ag.mk _ (s2) ?_| refine ag.mk _ (hs) ?_| refine st ?_| (first| refine b1 ?_ ?_| refine b2 ?_ ?_| refine Br.mk ?_ ?_) <;>intro hc| exact rfl) <;>conv=>whnf)
 have e:a.x=b.x∧a.y=b.y:=by simpa using hc
 obtain rfl:=yP e.1 e.2
 rw[haa]
def sx (a b:Pt):Int:=I4 (kh a.x b.x) (kh a.y b.y)
theorem oB (a b:Pt):sx a b= -1∧lx a b∨sx a b=1∧lx b a∨sx a b=0∧a=b:=by
 by_cases h:lx a b
 · left;refine⟨?_,h⟩
   unfold sx I4 kh lx at*;repeat' split
   all_goals omega
 · by_cases k:lx b a
   · right;left;refine⟨?_,k⟩
     unfold sx I4 kh lx at*;repeat' split
     all_goals omega
   · have:=su h k
     subst this
     right;right;refine⟨?_,rfl⟩
     unfold sx I4 kh;repeat' split
     all_goals omega
theorem kC (a b:Pt):Ev E 254 [a.v,b.v] ⟨vi (sx a b),[]⟩:=by
 refine Ev.aG V4 (V5 _) rfl ?_
 (conv=>whnf);repeat' ((first| intro g| refine ag.mk _ (vF _ _) ?_| refine ag.mk _ (Su _ _) ?_| refine st ?_| (first| refine b1 ?_ ?_| refine b2 ?_ ?_| refine Br.mk ?_ ?_) <;>intro hc| exact rfl) <;>conv=>whnf)
theorem K5:Ij sx where
 tr:=by
  intro a b d
  unfold sx I4 kh
  repeat' split
  all_goals omega
 as0:=by
  intro a b
  unfold sx I4 kh
  repeat' split
  all_goals omega
section
variable {c:Pt→Pt→Int} {g:Nat}
set_option maxHeartbeats 1000000 in
theorem Ct (ho:Ij c) (hm:df E g=[]) (acJ: ∀a b:Pt,Ev E g [a.v,b.v] ⟨vi (c a b),[]⟩) {l0:List Pt} (hlen:l0.length< 1000000):
   ∃l':List Pt,l'.Perm l0∧l'.Pairwise (gS c)∧Ev E 290 [.msl 2 (l0.map Pt.v) 0 l0.length,vi 0,aD l0.length,.fn g []] ⟨.tuple [],[(0,l'.map Pt.v)]⟩:=by
 have key:=Ev.cO (R:=fun r=> ∃l':List Pt,l'.Perm l0∧l'.Pairwise (gS c)∧r=⟨.tuple [],[(0,l'.map Pt.v)]⟩) WQ (WR [.msl 2 (l0.map Pt.v) 0 l0.length,vi 0,aD l0.length,.fn g []]) rfl ?_
 · obtain⟨res,h1,l',h2,h3,rfl⟩:=key
   exact⟨l',h2,h3,h1⟩
 (conv=>whnf);repeat' ((first| intro g| refine st ?_| (first| refine b1 ?_ ?_| refine b2 ?_ ?_| refine Br.mk ?_ ?_) <;>intro hc| exact rfl) <;>conv=>whnf)
 refine aV.by (fun ((i,L):Nat×List Pt)=> ⟨[(0,.sl 0 0 0 l0.length),(1,vi 0),(2,aD l0.length),(3,.fn g []),(8,aD (i+1))],[(0,⟨0,2,true,false,some (L.map Pt.v)⟩)]⟩)
   (fun p=>p.1≤l0.length∧p.2.Perm l0∧(p.2.take (p.1+1)).Pairwise (gS c)) (fun p=>l0.length - p.1) (0,l0) ?_ ?_ ?_
 · (refine⟨?_,?_⟩ <;>repeat' (first| exact True.intro| refine ai ?_| refine And.intro ?_ ?_))
 · refine⟨by simp,.refl _,?_⟩
   cases l0<;>simp
 rintro⟨i,L⟩ ⟨h1,h2,h3⟩
 dsimp only at h1 h2 h3
 have hl:=h2.length_eq
 (conv=>whnf);repeat' ((first| intro g| refine dI.mk (⟨rfl,rfl,Pt.bZ _⟩) ?_| refine st ?_| (first| refine b1 ?_ ?_| refine b2 ?_ ?_| refine Br.mk ?_ ?_) <;>intro hc| exact rfl) <;>conv=>whnf)
 · have Ta:i+1 <L.length:=by omega
   refine aV.by (fun ((j,L):Nat×List Pt)=> ⟨[(0,.sl 0 0 0 l0.length),(1,vi 0),(2,aD l0.length),(3,.fn g []),(8,aD (i+1)),(9,aD j)],[(0,⟨0,2,true,false,some (L.map Pt.v)⟩)]⟩)
     (fun p=> ∃pre x mid post,nR c l0 (i+1) p.1 p.2 pre x mid post) (fun p=>p.1) (i+1,L) ?_ ⟨_,_,_,_,nR.start h2 h3 Ta⟩ ?_
   · (refine⟨?_,?_⟩ <;>repeat' (first| exact True.intro| refine ai ?_| refine And.intro ?_ ?_))
   rintro⟨j,L'⟩ ⟨pre,x,mid,post,hs⟩
   dsimp only at hs
   have wQ:=hs.len
   have hlj:=hs.hj
   have gu:=hs.hi
   have hx:=hs.acH
   cases j with
   | zero=>
     (conv=>whnf);repeat' ((first| intro g| refine st ?_| (first| refine b1 ?_ ?_| refine b2 ?_ ?_| refine Br.mk ?_ ?_) <;>intro hc| exact rfl) <;>conv=>whnf)
     refine a9.mk (i+1,L') (by dsimp only;omega) ⟨by dsimp only;omega,hs.perm,hs.stop ho (.inl (by simpa using hlj))⟩ (by(refine⟨?_,?_⟩ <;>repeat' (first| exact True.intro| refine ai ?_| refine And.intro ?_ ?_)))
   | succ j=>
     obtain⟨ru,y,rfl⟩:=hs.snoc
     have hy:=hs.acI
     have Ej:IntKind.i64.wrap (((j+1:Nat):Int) - 1)=(j:Int):=(wrap64 (by omega) (by omega)).trans (by omega)
     have hy2: ((L'.map Pt.v).set ((j+1:Nat):Int).toNat y.v)[(IntKind.i64.wrap (((j+1:Nat):Int) - 1)).toNat]? =some y.v:=by
       rw[Ej];simp[hy]
     (conv=>whnf);repeat' ((first| intro g| refine aL.mk _ (aq hx rfl) ?_| refine aL.mk _ (aq hy Ej) ?_| refine aL.mk _ (hy2) ?_| refine gG (by assumption) (by first| assumption| rfl| (simp only[V.an,V.aC,Bool.and_self,Bool.true_and,Bool.and_true, *])) (acJ _ _) rfl ?_| refine st ?_| (first| refine b1 ?_ ?_| refine b2 ?_ ?_| refine Br.mk ?_ ?_) <;>intro hc| exact rfl) <;>conv=>whnf)
     · refine a9.mk (j,(L'.set (j+1) y).set j x) (by dsimp only;omega) ⟨_,_,_,_,hs.step hc⟩ ?_
       have e1:V.int .i64 (IntKind.i64.wrap (((j+1:Nat):Int) - 1))=aD j:=by rw[Ej]
       have e2: (⟨0,2,true,false,some (((L'.map Pt.v).set ((j+1:Nat):Int).toNat y.v).set (IntKind.i64.wrap (((j+1:Nat):Int) - 1)).toNat x.v)⟩:Obj)=⟨0,2,true,false,some (((L'.set (j+1) y).set j x).map Pt.v)⟩:=by
        rw[Ej,List.map_set,List.map_set];rfl
       (refine⟨?_,?_⟩ <;>repeat' (first| exact True.intro| refine And.intro (e1) ?_| refine And.intro (e2) ?_| refine ai ?_| refine And.intro ?_ ?_))
     · refine a9.mk (i+1,L') (by dsimp only;omega) ⟨by dsimp only;omega,hs.perm,hs.stop ho (.inr ⟨ru,y,rfl,hc⟩)⟩ (by(refine⟨?_,?_⟩ <;>repeat' (first| exact True.intro| refine ai ?_| refine And.intro ?_ ?_)))
 · exact⟨L,h2,by rw[List.take_of_length_le (by omega)] at h3;exact h3,rfl⟩
end
theorem K6 {l:List Pt} (h12:l.length≤12) (k:Int): ∃l':List Pt,l'.Perm l∧l'.Pairwise (gS sx)∧Ev E 278 [.msl 2 (l.map Pt.v) 0 l.length,vi 0,aD l.length,vi k,.fn 254 []] ⟨.tuple [],[(0,l'.map Pt.v)]⟩:=by
 obtain⟨l',h1,h2,h3⟩:=Ct (c:=sx) K5 rfl kC (l0:=l) (by omega)
 refine⟨l',h1,h2,?_⟩
 have e0:IntKind.i64.wrap ((l.length:Int) - 0)=l.length:=(wrap64 (by omega) (by omega)).trans (by omega)
 refine Ev.aG Ww (Wx _) rfl ?_
 (conv=>whnf);repeat' ((first| intro g| refine st ?_| (first| refine b1 ?_ ?_| refine b2 ?_ ?_| refine Br.mk ?_ ?_) <;>intro hc| exact rfl) <;>conv=>whnf)
 refine aV.by (fun (_:Unit)=> ⟨[(0,.sl 0 0 0 l.length),(1,vi 0),(2,aD l.length),(3,vi k),(4,.fn 254 []),(10,.bool true),(11,.bool true)],[(0,⟨0,2,true,false,some (l.map Pt.v)⟩)]⟩)
  (fun _=>True) (fun _=>0) () (by(refine⟨?_,?_⟩ <;>repeat' (first| exact True.intro| refine ai ?_| refine And.intro ?_ ?_))) trivial ?_
 rintro _ _
 (conv=>whnf);repeat' ((first| intro g| refine dI.mk (⟨rfl,rfl,rfl,by simp,Pt.bZ _⟩) ?_| refine dI.mk (⟨rfl,rfl,Pt.bZ _⟩) ?_| refine ag.mk _ (h3) ?_| refine st ?_| (first| refine b1 ?_ ?_| refine b2 ?_ ?_| refine Br.mk ?_ ?_) <;>intro hc| exact rfl) <;>conv=>whnf)
theorem K7:Ev E 40 [.int .u64 2] ⟨vi 2,[]⟩:=⟨100,by kernel_rfl⟩
theorem AO (a b:Pt):Ev E 253 [.msl 2 [a.v,b.v] 0 2,.fn 254 []] ⟨.tuple [],[(0,[(pg a b).v,(mR a b).v])]⟩:=by
 obtain⟨l',h1,h2,h3⟩:=K6 (l:=[a,b]) (by simp) 2
 have hl:=h1.length_eq
 match l',hl with
 | [p,q],_=>
   have Rx:p=pg a b∧q=mR a b:=by
     have hn:gS sx p q:=(List.pairwise_cons.1 h2).1 q (by simp)
     have hc:=oB q p
     have hs: (p=a∧q=b)∨(p=b∧q=a):=by
       have hm:=(h1.mem_iff (a:=p)).1 (by simp)
       simp only[List.mem_cons,List.not_mem_nil,or_false] at hm
       rcases hm with rfl| rfl
       · have:=(List.perm_cons p).1 h1
         exact .inl ⟨rfl,by simpa using this⟩
       · have:=(List.perm_cons p).1 (h1.trans (List.Perm.swap _ _ _))
         exact .inr ⟨rfl,by simpa using this⟩
     unfold gS at hn
     unfold pg mR
     rcases hs with⟨rfl,rfl⟩ | ⟨rfl,rfl⟩
     · by_cases h:lx q p
       · exfalso
         rcases hc with⟨e,_⟩ | ⟨_,k⟩ | ⟨_,k⟩
         · omega
         · unfold lx at*;omega
         · subst k;exact my _ h
       · rw[if_neg h,if_neg h];exact⟨rfl,rfl⟩
     · by_cases h:lx p q
       · rw[if_pos h,if_pos h];exact⟨rfl,rfl⟩
       · rw[if_neg h,if_neg h]
         have:p=q:=by
          rcases hc with⟨_,k⟩ | ⟨_,k⟩ | ⟨_,k⟩
          · exfalso;omega
          · exact absurd k h
          · exact k.symm
         exact⟨this,this.symm⟩
   obtain⟨rfl,rfl⟩:=Rx
   have I1:Ev E 278 [.msl 2 [a.v,b.v] 0 2,vi 0,vi 2,vi 2,.fn 254 []] ⟨.tuple [],[(0,[(pg a b).v,(mR a b).v])]⟩:=h3
   refine Ev.aG V2 (V3 _) rfl ?_
   (conv=>whnf);repeat' ((first| intro g| refine dI.mk (⟨rfl,rfl,rfl,by simp,Pt.bZ [a,b]⟩) ?_| refine dI.mk (⟨rfl,rfl,Pt.bZ [a,b]⟩) ?_| refine ag.mk _ (K7) ?_| refine ag.mk _ (I1) ?_| refine st ?_| (first| refine b1 ?_ ?_| refine b2 ?_ ?_| refine Br.mk ?_ ?_) <;>intro hc| exact rfl) <;>conv=>whnf)
theorem K8 (p q:Pt):Ev E 255 [.lit 2 [p.v,q.v],.fn 254 []] ⟨(if lx p q then q else p).v,[]⟩:=by
 have hc:=oB p q
 have qC:=oB q p
 refine Ev.aG V6 (V7 _) rfl ?_
 have hm:df E 254=[]:=rfl
 (conv=>whnf);repeat' ((first| intro g| refine st ?_| (first| refine b1 ?_ ?_| refine b2 ?_ ?_| refine Br.mk ?_ ?_) <;>intro hc| exact rfl) <;>conv=>whnf)
 rename_i g1
 refine aV.by (fun ((i,r):Nat×Pt)=> ⟨[(0,.lit 2 [p.v,q.v]),(1,.fn 254 []),(4,.ptr 80 g1 0 0),(5,.ptr 96 g 0 0),(6,aD (i+1))],[(80,⟨g1,2,false,false,some [.agg [vi 0,vi 0]]⟩),(96,⟨g,2,false,false,some [r.v]⟩)]⟩)
   (fun (i,r)=>i≤1∧(i=0→r=p)∧(i=1→r=if lx p q then q else p)) (fun (i,_)=>1 - i) (0,p) (by(refine⟨?_,?_⟩ <;>repeat' (first| exact True.intro| refine ai ?_| refine And.intro ?_ ?_))) ⟨by simp,by simp,by simp⟩ ?_
 rintro⟨i,r⟩ ⟨hi,Ky,HF⟩
 try dsimp only at hi Ky HF
 rcases(by omega:i=0∨i=1) with rfl| rfl
 · obtain rfl:=Ky rfl
   (conv=>whnf);repeat' ((first| intro g| refine gG (by assumption) (by first| assumption| rfl| (simp only[V.an,V.aC,Bool.and_self,Bool.true_and,Bool.and_true, *])) (kC _ _) rfl ?_| refine st ?_| (first| refine b1 ?_ ?_| refine b2 ?_ ?_| refine Br.mk ?_ ?_) <;>intro hc| exact rfl) <;>conv=>whnf)
   · refine a9.mk (1,q) (by first| omega| (dsimp only;omega)) ⟨by simp,by simp,fun _=> ?_⟩ (by(refine⟨?_,?_⟩ <;>repeat' (first| exact True.intro| refine ai ?_| refine And.intro ?_ ?_)))
     rw[if_pos]
     rcases qC with⟨e,k⟩ | ⟨e,k⟩ | ⟨e,k⟩
     · first| exact k| omega
     · first| exact k| omega
     · omega
   · refine a9.mk (1,r) (by first| omega| (dsimp only;omega)) ⟨by simp,by simp,fun _=> ?_⟩ (by(refine⟨?_,?_⟩ <;>repeat' (first| exact True.intro| refine ai ?_| refine And.intro ?_ ?_)))
     rw[if_neg]
     intro h
     rcases qC with⟨e,k⟩ | ⟨e,k⟩ | ⟨e,k⟩
     · first| omega| (unfold lx at*;omega)
     · first| omega| (unfold lx at*;omega)
     · subst k;exact my _ h
 · obtain rfl:=HF rfl
   (conv=>whnf);repeat' ((first| intro g| refine st ?_| (first| refine b1 ?_ ?_| refine b2 ?_ ?_| refine Br.mk ?_ ?_) <;>intro hc| exact rfl) <;>conv=>whnf)
theorem K9 (p q:Pt):Ev E 175 [.lit 2 [p.v,q.v],.fn 254 []] ⟨(if lx q p then q else p).v,[]⟩:=by
 have hc:=oB p q
 have qC:=oB q p
 refine Ev.aG V8 (V9 _) rfl ?_
 have hm:df E 254=[]:=rfl
 (conv=>whnf);repeat' ((first| intro g| refine st ?_| (first| refine b1 ?_ ?_| refine b2 ?_ ?_| refine Br.mk ?_ ?_) <;>intro hc| exact rfl) <;>conv=>whnf)
 rename_i g1
 refine aV.by (fun ((i,r):Nat×Pt)=> ⟨[(0,.lit 2 [p.v,q.v]),(1,.fn 254 []),(4,.ptr 80 g1 0 0),(5,.ptr 96 g 0 0),(6,aD (i+1))],[(80,⟨g1,2,false,false,some [.agg [vi 0,vi 0]]⟩),(96,⟨g,2,false,false,some [r.v]⟩)]⟩)
   (fun (i,r)=>i≤1∧(i=0→r=p)∧(i=1→r=if lx q p then q else p)) (fun (i,_)=>1 - i) (0,p) (by(refine⟨?_,?_⟩ <;>repeat' (first| exact True.intro| refine ai ?_| refine And.intro ?_ ?_))) ⟨by simp,by simp,by simp⟩ ?_
 rintro⟨i,r⟩ ⟨hi,Ky,HF⟩
 try dsimp only at hi Ky HF
 rcases(by omega:i=0∨i=1) with rfl| rfl
 · obtain rfl:=Ky rfl
   (conv=>whnf);repeat' ((first| intro g| refine gG (by assumption) (by first| assumption| rfl| (simp only[V.an,V.aC,Bool.and_self,Bool.true_and,Bool.and_true, *])) (kC _ _) rfl ?_| refine st ?_| (first| refine b1 ?_ ?_| refine b2 ?_ ?_| refine Br.mk ?_ ?_) <;>intro hc| exact rfl) <;>conv=>whnf)
   · refine a9.mk (1,q) (by first| omega| (dsimp only;omega)) ⟨by simp,by simp,fun _=> ?_⟩ (by(refine⟨?_,?_⟩ <;>repeat' (first| exact True.intro| refine ai ?_| refine And.intro ?_ ?_)))
     rw[if_pos]
     rcases qC with⟨e,k⟩ | ⟨e,k⟩ | ⟨e,k⟩
     · first| exact k| omega
     · first| exact k| omega
     · omega
   · refine a9.mk (1,r) (by first| omega| (dsimp only;omega)) ⟨by simp,by simp,fun _=> ?_⟩ (by(refine⟨?_,?_⟩ <;>repeat' (first| exact True.intro| refine ai ?_| refine And.intro ?_ ?_)))
     rw[if_neg]
     intro h
     rcases qC with⟨e,k⟩ | ⟨e,k⟩ | ⟨e,k⟩
     · first| omega| (unfold lx at*;omega)
     · first| omega| (unfold lx at*;omega)
     · subst k;exact my _ h
 · obtain rfl:=HF rfl
   (conv=>whnf);repeat' ((first| intro g| refine st ?_| (first| refine b1 ?_ ?_| refine b2 ?_ ?_| refine Br.mk ?_ ?_) <;>intro hc| exact rfl) <;>conv=>whnf)
end Go.AM
set_option maxRecDepth 20000
set_option maxHeartbeats 4000000
namespace Go.AM
section
variable {a b c d p:Pt} (ha:eb a) (hb:eb b) (hc:eb c) (hd:eb d) (hp:eb p)
include ha hb hc hd in
theorem DF:Ev E 222 [a.v,b.v,c.v,d.v] ⟨vi (eC a b c d),[]⟩:=by
 have Ry:Ev E 251 [.lit 2 [a.v,b.v,c.v,d.v]] ⟨.bool true,[]⟩:=Ip (l:=[a,b,c,d]) (by simp) (by simp;exact⟨ha,hb,hc,hd⟩)
 have s1:=kB ha hb hc
 have s2:=kB ha hb hd
 have s3:=kB hc hd ha
 have s4:=kB hc hd hb
 have r1:=cV (yO a b c);have r2:=cV (yO a b d);have r3:=cV (yO c d a);have r4:=cV (yO c d b)
 have w1:IntKind.i64.wrap (dL a b c*dL a b d)=dL a b c*dL a b d:=by unfold dL;rw[tB,rq]
 have w2:IntKind.i64.wrap (dL c d a*dL c d b)=dL c d a*dL c d b:=by unfold dL;rw[tB,rq]
 have h1:=AO a b
 have h2:=AO c d
 refine Ev.aG VA (VB _) rfl ?_
 by_cases hf:jm a b c d
 · have hm:eC a b c d=if lx (toP a b c d) (iW a b c d) then 0 else if toP a b c d=iW a b c d then 1 else 2:=by unfold eC;rw[if_pos hf]
   rw[hm]
   obtain⟨f1,f2,f3,f4⟩:=hf
   rw[f1] at s1;rw[f2] at s2;rw[f3] at s3;rw[f4] at s4
   have FP:Ev E 255 [.lit 2 [(pg a b).v,(pg c d).v],.fn 254 []] ⟨(iW a b c d).v,[]⟩:=K8 _ _
   have hmn:Ev E 175 [.lit 2 [(mR a b).v,(mR c d).v],.fn 254 []] ⟨(toP a b c d).v,[]⟩:=K9 _ _
   have Th:=kC (toP a b c d) (iW a b c d)
   have hl:=oB (toP a b c d) (iW a b c d)
   (conv=>whnf);repeat' ((first| intro g| refine dI.mk (⟨rfl,rfl,rfl⟩) ?_| refine ag.mk _ (Ry) ?_| refine ag.mk _ (s1) ?_| refine ag.mk _ (s2) ?_| refine ag.mk _ (s3) ?_| refine ag.mk _ (s4) ?_| refine ag.mk _ (h1) ?_| refine ag.mk _ (h2) ?_| refine ag.mk _ (FP) ?_| refine ag.mk _ (hmn) ?_| refine ag.mk _ (Th) ?_| refine st ?_| (first| refine b1 ?_ ?_| refine b2 ?_ ?_| refine Br.mk ?_ ?_) <;>intro hc| exact rfl) <;>conv=>whnf)
   rcases hl with⟨e,k⟩ | ⟨e,k⟩ | ⟨e,k⟩
   · rw[e,if_pos k];rfl
   · have k1: ¬lx (toP a b c d) (iW a b c d):=fun h=>by unfold lx at*;omega
     have k2:toP a b c d≠iW a b c d:=fun h=>by rw[h] at k;exact my _ k
     rw[e,if_neg k1,if_neg k2];rfl
   · rw[e,k,if_neg (my _),if_pos rfl];rfl
 · have hm:eC a b c d=if 0 <dL a b c*dL a b d∨0 <dL c d a*dL c d b then 0 else 1:=by unfold eC;rw[if_neg hf]
   rw[hm]
   (conv=>whnf);repeat' ((first| intro g| refine dI.mk (⟨rfl,rfl,rfl⟩) ?_| refine ag.mk _ (Ry) ?_| refine ag.mk _ (s1) ?_| refine ag.mk _ (s2) ?_| refine ag.mk _ (s3) ?_| refine ag.mk _ (s4) ?_| refine ag.mk _ (h1) ?_| refine ag.mk _ (h2) ?_| refine st ?_| (first| refine b1 ?_ ?_| refine b2 ?_ ?_| refine Br.mk ?_ ?_) <;>intro hc| exact rfl) <;>conv=>whnf)
   all_goals (try simp only[w1,w2] at*)
   · rw[if_pos (by omega)]
   · rw[if_pos (by omega)]
   · rw[if_neg (by omega)]
   · rw[if_pos (by omega)]
   · rw[if_pos (by omega)]
   · rw[if_neg (by omega)]
   · exfalso
     simp only[Bool.and_true,Bool.and_eq_true,beq_iff_eq] at*
     apply hf
     unfold jm
     omega
end
end Go.AM
