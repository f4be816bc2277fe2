/-
  Texts of the proof: LtN, LtP, LtQ.
-/
import Derived.Test.YtjkmpppkkhbjkaaGreatTe
import Derived.Test.YtjkmpppkkhbjkaaGreatTd
import Derived.Test.YtjkmpppkkhbjkaaGreatTh
import Derived.Test.YtjkmpppkkhbjkaaGreatDa
set_option maxRecDepth 20000
set_option linter.unusedSimpArgs false
set_option linter.unusedVariables false
set_option maxHeartbeats 4000000
namespace Go.AM
theorem H3 (a b:Event): ∃c:Bool,Ev E 647 [a.v,b.v] ⟨.bool c,[]⟩:=by
 refine cj (Ev.bz V3 (V4 _) rfl ?_)
 (conv=>whnf);repeat' ((first| intro g| refine st ?_| (first| refine b1 ?_ ?_| refine b2 ?_ ?_| refine Br.mk ?_ ?_) <;>intro hc| exact rfl) <;>conv=>whnf)
 rename_i g1 _
 refine aI.by (fun k:Nat=> ⟨[(5,.sl 97 g1 0 5),(6,.sl 113 g 0 5),(7,aC k)],[(97,⟨g1,1,true,false,some [vi a.at_,vi a.kind,vi a.id,vi a.other,vi a.n]⟩),(113,⟨g,1,true,false,some [vi b.at_,vi b.kind,vi b.id,vi b.other,vi b.n]⟩)]⟩) (fun k=>k≤5) (fun k=>5 - k) 0 (by(refine⟨?_,?_⟩ <;>repeat' (first| exact True.intro| refine ai ?_| refine And.intro ?_ ?_))) (by omega) ?_
 rintro k hk
 rcases(by omega:k=0∨k=1∨k=2∨k=3∨k=4∨k=5) with rfl| rfl| rfl| rfl| rfl| rfl
 · (conv=>whnf);repeat' ((first| intro g| refine st ?_| (first| refine b1 ?_ ?_| refine b2 ?_ ?_| refine Br.mk ?_ ?_) <;>intro hc| exact rfl) <;>conv=>whnf)
   · exact⟨_,rfl⟩
   · exact aE.mk 1 (by first| omega| (dsimp only;omega)) (by omega) (by(refine⟨?_,?_⟩ <;>repeat' (first| exact True.intro| refine ai ?_| refine And.intro ?_ ?_)))
 · (conv=>whnf);repeat' ((first| intro g| refine st ?_| (first| refine b1 ?_ ?_| refine b2 ?_ ?_| refine Br.mk ?_ ?_) <;>intro hc| exact rfl) <;>conv=>whnf)
   · exact⟨_,rfl⟩
   · exact aE.mk 2 (by first| omega| (dsimp only;omega)) (by omega) (by(refine⟨?_,?_⟩ <;>repeat' (first| exact True.intro| refine ai ?_| refine And.intro ?_ ?_)))
 · (conv=>whnf);repeat' ((first| intro g| refine st ?_| (first| refine b1 ?_ ?_| refine b2 ?_ ?_| refine Br.mk ?_ ?_) <;>intro hc| exact rfl) <;>conv=>whnf)
   · exact⟨_,rfl⟩
   · exact aE.mk 3 (by first| omega| (dsimp only;omega)) (by omega) (by(refine⟨?_,?_⟩ <;>repeat' (first| exact True.intro| refine ai ?_| refine And.intro ?_ ?_)))
 · (conv=>whnf);repeat' ((first| intro g| refine st ?_| (first| refine b1 ?_ ?_| refine b2 ?_ ?_| refine Br.mk ?_ ?_) <;>intro hc| exact rfl) <;>conv=>whnf)
   · exact⟨_,rfl⟩
   · exact aE.mk 4 (by first| omega| (dsimp only;omega)) (by omega) (by(refine⟨?_,?_⟩ <;>repeat' (first| exact True.intro| refine ai ?_| refine And.intro ?_ ?_)))
 · (conv=>whnf);repeat' ((first| intro g| refine st ?_| (first| refine b1 ?_ ?_| refine b2 ?_ ?_| refine Br.mk ?_ ?_) <;>intro hc| exact rfl) <;>conv=>whnf)
   · exact⟨_,rfl⟩
   · exact aE.mk 5 (by first| omega| (dsimp only;omega)) (by omega) (by(refine⟨?_,?_⟩ <;>repeat' (first| exact True.intro| refine ai ?_| refine And.intro ?_ ?_)))
 · (conv=>whnf);repeat' ((first| intro g| refine st ?_| (first| refine b1 ?_ ?_| refine b2 ?_ ?_| refine Br.mk ?_ ?_) <;>intro hc| exact rfl) <;>conv=>whnf)
   exact⟨_,rfl⟩
theorem Ng {m:bk} (h:m.Sm) (d:Int): ∃l:List Event,l.length≤1000∧Ev E 91 [m.v,vi d] ⟨.own 5 (l.map Event.v),[]⟩:=by
 have hp:=h.p
 obtain⟨l,h1,_,h2⟩:=IB (m:=m) (by omega) d
 refine⟨l,?_,h2⟩
 have:=h1.length_eq
 have:=uh m.au d m.au.length
 omega
end Go.AM
set_option maxHeartbeats 4000000
namespace Go.AM
theorem H4 {α:Type} {f:α→V} {l:List α} {o n:Nat}:aJ (l.map f) o n=((l.drop o).take n).map f:=by
 unfold aJ;simp[List.map_drop,List.map_take]
theorem aI.sub {E:Env} {b:aW} {S0 S:SS} {Q:aX→SS→Prop} (hs:S0.Sub S) (h:aI E b S0 Q):aI E b S Q:=⟨fun σ ho=>h.h σ (hs.on ho)⟩
theorem AH {out:List Event} {o n:Nat}:aJ (out.map Event.v++[.agg [vi 0,vi 0,vi 0,vi 0,vi 0]]) o n=(((out++[Cr]).drop o).take n).map Event.v:=by
 have:out.map Event.v++[.agg [vi 0,vi 0,vi 0,vi 0,vi 0]]=(out++[Cr]).map Event.v:=by simp[Cr,Event.v]
 rw[this];exact H4
theorem AI {l:List Event} {n:Nat}: ((l.map Event.v).take n).all (aO · 5)=true:=by
 rw[←List.map_take];exact AM.mr (fun _=>rfl) _
def EM (out B:List Event) (x:Event) (o i n:Nat):List Event:=((out++[Cr]).take o++B.take n++(out++[Cr]).drop (o+(B.take n).length)).set i x
theorem H5 {out B:List Event} {x:Event} {o i n:Nat}: ((overwrite (out.map Event.v++[.agg [vi 0,vi 0,vi 0,vi 0,vi 0]]) o ((B.map Event.v).take n)).set i x.v)=(EM out B x o i n).map Event.v:=by
 have:out.map Event.v++[.agg [vi 0,vi 0,vi 0,vi 0,vi 0]]=(out++[Cr]).map Event.v:=by simp[Cr,Event.v]
 rw[this]
 unfold EM overwrite
 simp only[List.map_set,List.map_append,List.map_take,List.map_drop,List.length_take,List.length_map]
theorem AJ {out B:List Event} {x:Event} {o i n:Nat} (h:o+(B.take n).length≤out.length+1): (EM out B x o i n).length=out.length+1:=by
 unfold EM
 simp at h ⊢
 omega
theorem AK {A Y:List V} {o i:Nat} {e:V} (h:A[i]? =some e) (ho:i<o): (overwrite A o Y)[i]? =some e:=by
 have hl:=(List.getElem?_eq_some_iff.1 h).1
 unfold overwrite
 rw[List.append_assoc,List.getElem?_append_left (by simp;omega),List.getElem?_take_of_lt ho,h]
theorem EN {m:bk} (h:m.Sm) (d:Int): ∃l:List Event,l.length≤1003000∧Ev E 639 [m.v,vi d] ⟨.own 5 (l.map Event.v),[]⟩:=by
 suffices hh: ∃res,Ev E 639 [m.v,vi d] res∧ ∃l:List Event,l.length≤1003000∧res=⟨.own 5 (l.map Event.v),[]⟩ by
   obtain⟨_,h1,l,h2,rfl⟩:=hh
   exact⟨l,h2,h1⟩
 obtain⟨l1,k1,h1⟩:=Nd h d
 obtain⟨l2,k2,h2⟩:=Nf h d
 obtain⟨l3,k3,h3⟩:=Nc h d
 obtain⟨l4,k4,h4⟩:=Ng h d
 refine Ev.bz VH (VI _) rfl ?_
 (conv=>whnf);repeat' ((first| intro g| refine ah.mk _ (h1) ?_| refine ah.mk _ (h2) ?_| refine ah.mk _ (h3) ?_| refine ah.mk _ (h4) ?_| refine st ?_| (first| refine b1 ?_ ?_| refine b2 ?_ ?_| refine Br.mk ?_ ?_) <;>intro hc| exact rfl) <;>conv=>whnf)
 rename_i yE _ _ _ _
 refine aI.sub (S0:=⟨[(5,.sl 97 yE 0 0),(6,.sl 113 g 0 (l1++l2++l3++l4).length),(7,vi 0)],[(113,⟨g,5,true,false,some ((l1++l2++l3++l4).map Event.v)⟩),(97,⟨yE,5,true,false,some []⟩)]⟩) (by(refine⟨?_,?_⟩ <;>repeat' (first| exact True.intro| refine ai ?_| refine And.intro ?_ ?_))) ?_
 have hLL: (l1++l2++l3++l4).length≤1003000:=by simp;omega
 generalize l1++l2++l3++l4=L at hLL
 obtain⟨n,hn⟩: ∃n,L.length=n:=⟨_,rfl⟩
 clear h1 h2 h3 h4 k1 k2 k3 k4
 obtain⟨g6,hg6⟩: ∃x,x=g:=⟨_,rfl⟩
 rw[←hg6];clear hg6
 refine aI.by (fun ((k,out,g5):Nat×List Event×Nat)=> ⟨[(5,.sl 97 g5 0 k),(6,.sl 113 g6 0 n),(7,aC k)],[(113,⟨g6,5,true,false,some (L.map Event.v)⟩),(97,⟨g5,5,true,false,some (out.map Event.v)⟩)]⟩) (fun (k,out,_)=>k≤n∧out.length=k) (fun (k,_)=>n - k) (0,[],yE) (by rw[←hn]; (refine⟨?_,?_⟩ <;>repeat' (first| exact True.intro| refine ai ?_| refine And.intro ?_ ?_))) ⟨by simp,by simp⟩ ?_
 rintro⟨k,out,g5⟩ ⟨hk,ho⟩
 try dsimp only at hk ho
 by_cases bp:k<n
 case neg=>
   (conv=>whnf);repeat' ((first| intro g| refine st ?_| (first| refine b1 ?_ ?_| refine b2 ?_ ?_| refine Br.mk ?_ ?_) <;>intro hc| exact rfl) <;>conv=>whnf)
   exact⟨out,by omega,rfl⟩
 obtain⟨x,hx⟩: ∃x,L[k]? =some x:=⟨_,aD (by omega)⟩
 (conv=>whnf);repeat' ((first| intro g| refine st ?_| (first| refine b1 ?_ ?_| refine b2 ?_ ?_| refine Br.mk ?_ ?_) <;>intro hc| exact rfl) <;>conv=>whnf)
 refine aI.by (fun p:Nat=> ⟨[(5,.sl 97 g5 0 k),(6,.sl 113 g6 0 n),(7,aC k),(8,aC p)],[(113,⟨g6,5,true,false,some (L.map Event.v)⟩),(97,⟨g5,5,true,false,some (out.map Event.v)⟩)]⟩) (fun p=>p≤k) (fun p=>p) k (by(refine⟨?_,?_⟩ <;>repeat' (first| exact True.intro| refine ai ?_| refine And.intro ?_ ?_))) (Nat.le_refl _) ?_
 rintro p hp
 have Zf: ∃y,(out++[Cr])[p]? =some y:=⟨_,aD (by simp;omega)⟩
 obtain⟨y,hy⟩:=Zf
 have w2:IntKind.i64.wrap ((p:Int)+1)=((p+1:Nat):Int):=(wrap64 (by omega) (by omega)).trans (by omega)
 have hA: (out.map Event.v++[.agg [vi 0,vi 0,vi 0,vi 0,vi 0]])[p]? =some y.v:=by
   have:out.map Event.v++[.agg [vi 0,vi 0,vi 0,vi 0,vi 0]]=(out++[Cr]).map Event.v:=by simp[Cr,Event.v]
   rw[this,List.getElem?_map,hy];rfl
 by_cases zK:p=0
 · (conv =>whnf);repeat' ((first| ((exfalso;omega)) | intro g| refine eA.mk (⟨rfl,rfl,rfl,rfl,(by simp only[List.length_append,List.length_map,List.length_cons,List.length_nil];rw[w2];omega),AI⟩) ?_| refine aN.mk _ (al hx rfl) ?_| refine aN.mk _ (AH) ?_| refine aN.mk _ (AK hA (by rw[w2];omega)) ?_| refine st ?_| (first| refine b1 ?_ ?_| refine b2 ?_ ?_| refine Br.mk ?_ ?_) <;>intro hc| exact rfl) <;>conv=>whnf)
   refine aE.mk (k+1,EM out _ x _ _ _,g) ?_ ⟨?_,?_⟩ (by(refine⟨?_,?_⟩ <;>repeat' (first| exact True.intro| refine And.intro (congrArg (fun es=>Obj.mk g 5 true false (some es)) H5) ?_| refine ai ?_| refine And.intro ?_ ?_)))
   all_goals first
     | (dsimp only;omega)
     | omega
     | (rw[AJ]; · omega
        · simp only[List.length_take,List.length_cons,List.length_nil];rw[w2];omega)
 have wq:IntKind.i64.wrap ((p:Int) - 1)=((p - 1:Nat):Int):=(wrap64 (by omega) (by omega)).trans (by omega)
 obtain⟨z,hz⟩: ∃z,out[p - 1]? =some z:=⟨_,aD (by omega)⟩
 obtain⟨c,hc⟩:=H3 x z
 cases c with
 | true=>
   (conv=>whnf);repeat' ((first| ((exfalso;omega)) | intro g| refine aN.mk _ (al hx rfl) ?_| refine aN.mk _ (al hz wq) ?_| refine ah.mk _ (hc) ?_| refine st ?_| (first| refine b1 ?_ ?_| refine b2 ?_ ?_| refine Br.mk ?_ ?_) <;>intro hc| exact rfl) <;>conv=>whnf)
   exact aE.mk (p - 1) (by omega) (by omega) (by(refine⟨?_,?_⟩ <;>repeat' (first| exact True.intro| refine ai ?_| refine And.intro ?_ ?_)))
 | false=>
   (conv=>whnf);repeat' ((first| ((exfalso;omega)) | intro g| refine eA.mk (⟨rfl,rfl,rfl,rfl,(by simp only[List.length_append,List.length_map,List.length_cons,List.length_nil];rw[w2];omega),AI⟩) ?_| refine aN.mk _ (al hx rfl) ?_| refine aN.mk _ (al hz wq) ?_| refine aN.mk _ (AH) ?_| refine aN.mk _ (AK hA (by rw[w2];omega)) ?_| refine ah.mk _ (hc) ?_| refine st ?_| (first| refine b1 ?_ ?_| refine b2 ?_ ?_| refine Br.mk ?_ ?_) <;>intro hc| exact rfl) <;>conv=>whnf)
   refine aE.mk (k+1,EM out _ x _ _ _,g) ?_ ⟨?_,?_⟩ (by(refine⟨?_,?_⟩ <;>repeat' (first| exact True.intro| refine And.intro (congrArg (fun es=>Obj.mk g 5 true false (some es)) H5) ?_| refine ai ?_| refine And.intro ?_ ?_)))
   all_goals first
     | (dsimp only;omega)
     | omega
     | (rw[AJ]; · omega
        · simp only[List.length_take,List.length_cons,List.length_nil];rw[w2];omega)
end Go.AM
set_option maxHeartbeats 4000000
namespace Go.AM
theorem Cj {m:bk} (h:m.Sm) (d b:Int): ∃ (e:Event) (ok:Bool),Ev E 628 [m.v,vi d,vi b] ⟨.tuple [e.v,.bool ok],[]⟩:=by
 suffices hh: ∃res,Ev E 628 [m.v,vi d,vi b] res∧ ∃ (x:Event×Bool),res=⟨.tuple [x.1.v,.bool x.2],[]⟩ by
   obtain⟨_,h1,x,rfl⟩:=hh
   exact⟨x.1,x.2,h1⟩
 obtain⟨l,hl,h1⟩:=EN h d
 refine Ev.bz U5 (U6 _) rfl ?_
 by_cases h0:l.length=0
 · (conv=>whnf);repeat' ((first| intro g| refine ah.mk _ (h1) ?_| refine st ?_| (first| refine b1 ?_ ?_| refine b2 ?_ ?_| refine Br.mk ?_ ?_) <;>intro hc| exact rfl) <;>conv=>whnf)
   exact⟨(Cr,false),rfl⟩
 obtain⟨x,hx⟩: ∃x,l[0]? =some x:=⟨_,aD (by omega)⟩
 (conv=>whnf);repeat' ((first| ((exfalso;omega)) | intro g| refine aN.mk _ (al hx rfl) ?_| refine ah.mk _ (h1) ?_| refine st ?_| (first| refine b1 ?_ ?_| refine b2 ?_ ?_| refine Br.mk ?_ ?_) <;>intro hc| exact rfl) <;>conv=>whnf)
 · exact⟨(Cr,false),rfl⟩
 · exact⟨(Cr,false),rfl⟩
 · exact⟨(⟨x.kind,if x.at_<IntKind.i64.wrap (b+1) then IntKind.i64.wrap (b+1) else x.at_,x.id,x.other,x.n⟩,true),rfl⟩
theorem EO (e:Event): ∃b:Bool,Ev E 648 [e.v] ⟨.bool b,[]⟩:=by
 refine cj (Ev.bz V5 (V6 _) rfl ?_)
 (conv=>whnf);repeat' ((first| intro g| refine st ?_| (first| refine b1 ?_ ?_| refine b2 ?_ ?_| refine Br.mk ?_ ?_) <;>intro hc| exact rfl) <;>conv=>whnf)
 all_goals exact⟨_,rfl⟩
theorem Ck {m:bk} (h:m.Sm) (a b:Int): ∃c:Int,Ev E 123 [m.v,vi a,vi b] ⟨vi c,[]⟩:=⟨_,xM (by have:=h.p;omega) a b⟩
theorem AL {m:bk} (h:m.Sm) (a b:Int): ∃c:Int,Ev E 90 [m.v,vi a,vi b] ⟨vi c,[]⟩:=⟨_,zf (by have:=h.p;omega) a b⟩
theorem H6 {m:bk} (h:m.Sm) (e:Event): ∃c:Int,Ev E 649 [m.v,e.v] ⟨vi c,[]⟩:=by
 obtain⟨c1,h1⟩:=vC h e.id e.n
 obtain⟨c2,h2⟩:=pd h e.id e.other
 obtain⟨c3,h3⟩:=Ch h e.id
 obtain⟨c4,h4⟩:=Ck h e.id e.other
 refine cj (g:=vi) (Ev.bz V7 (V8 _) rfl ?_)
 (conv=>whnf);repeat' ((first| intro g| refine ah.mk _ (h1) ?_| refine ah.mk _ (h2) ?_| refine ah.mk _ (h3) ?_| refine ah.mk _ (h4) ?_| refine st ?_| (first| refine b1 ?_ ?_| refine b2 ?_ ?_| refine Br.mk ?_ ?_) <;>intro hc| exact rfl) <;>conv=>whnf)
 all_goals exact⟨_,rfl⟩
theorem H7 {m:bk} (h:m.Sm) (e:Event): ∃c:Int,Ev E 650 [m.v,e.v] ⟨vi c,[]⟩:=by
 obtain⟨c1,h1⟩:=sJ h e.id e.n
 obtain⟨c2,h2⟩:=sL h e.id e.other
 obtain⟨c3,h3⟩:=sH h e.id
 obtain⟨c4,h4⟩:=AL h e.id e.other
 refine cj (g:=vi) (Ev.bz V9 (Wa _) rfl ?_)
 (conv=>whnf);repeat' ((first| intro g| refine ah.mk _ (h1) ?_| refine ah.mk _ (h2) ?_| refine ah.mk _ (h3) ?_| refine ah.mk _ (h4) ?_| refine st ?_| (first| refine b1 ?_ ?_| refine b2 ?_ ?_| refine Br.mk ?_ ?_) <;>intro hc| exact rfl) <;>conv=>whnf)
 all_goals exact⟨_,rfl⟩
theorem EP {m:bk} (h:m.Sm) (e:Event): ∃c:Int,Ev E 640 [m.v,e.v] ⟨vi c,[]⟩:=by
 obtain⟨c1,h1⟩:=H6 h e
 obtain⟨c2,h2⟩:=H7 h e
 obtain⟨b,h3⟩:=EO e
 refine cj (g:=vi) (Ev.bz VJ (VK _) rfl ?_)
 (conv=>whnf);repeat' ((first| intro g| refine ah.mk _ (h1) ?_| refine ah.mk _ (h2) ?_| refine ah.mk _ (h3) ?_| refine st ?_| (first| refine b1 ?_ ?_| refine b2 ?_ ?_| refine Br.mk ?_ ?_) <;>intro hc| exact rfl) <;>conv=>whnf)
 all_goals exact⟨_,rfl⟩
theorem AN {m:bk} (h:m.Sm) (e:Event): ∃ (M:bk) (c:Int),M.Sm∧Ev E 629 [m.v,e.v] ⟨.tuple [M.v,vi c],[]⟩:=by
 suffices hh: ∃res,Ev E 629 [m.v,e.v] res∧ ∃ (M:bk) (c:Int),M.Sm∧res=⟨.tuple [M.v,vi c],[]⟩ by
   obtain⟨_,h1,M,c,h2,rfl⟩:=hh
   exact⟨M,c,h2,h1⟩
 obtain⟨c,h0⟩:=EP h e
 by_cases hz:c=0
 case neg=>
   refine Ev.bz zn (zo _) rfl ?_
   (conv=>whnf);repeat' ((first| contradiction| intro g| refine ah.mk _ (h0) ?_| refine st ?_| (first| refine b1 ?_ ?_| refine b2 ?_ ?_| refine Br.mk ?_ ?_) <;>intro hc| exact rfl) <;>conv=>whnf)
   exact⟨bk.zr,c,xk,rfl⟩
 subst hz
 have p2:V.aq [m.v,vi e.id]=true:=rfl
 have p3: ∀x,V.aq [m.v,vi e.id,vi x]=true:=fun _=>rfl
 by_cases e1:e.kind=1
 · obtain⟨v,M,c,k1,k2,k3⟩:=HX h e.id e.n
   have hm:c6 E 525=[]:=rfl
   refine Ev.bz zn (zo _) rfl ?_
   (conv=>whnf);repeat' ((first| refine er hm (p3 _) k1 k2 ?_| intro g| refine ah.mk _ (h0) ?_| refine st ?_| (first| refine b1 ?_ ?_| refine b2 ?_ ?_| refine Br.mk ?_ ?_) <;>intro hc| exact rfl) <;>conv=>whnf)
   exact⟨M,c,k3,rfl⟩
 by_cases e2:e.kind=2
 · obtain⟨v,M,c,k1,k2,k3⟩:=H2 h e.id e.other
   have hm:c6 E 486=[]:=rfl
   refine Ev.bz zn (zo _) rfl ?_
   (conv=>whnf);repeat' ((first| refine er hm (p3 _) k1 k2 ?_| intro g| refine ah.mk _ (h0) ?_| refine st ?_| (first| refine b1 ?_ ?_| refine b2 ?_ ?_| refine Br.mk ?_ ?_) <;>intro hc| exact rfl) <;>conv=>whnf)
   exact⟨M,c,k3,rfl⟩
 by_cases e3:e.kind=3
 · obtain⟨v,M,c,k1,k2,k3⟩:=HV h e.id
   have hm:c6 E 641=[]:=rfl
   refine Ev.bz zn (zo _) rfl ?_
   (conv=>whnf);repeat' ((first| refine er hm p2 k1 k2 ?_| intro g| refine ah.mk _ (h0) ?_| refine st ?_| (first| refine b1 ?_ ?_| refine b2 ?_ ?_| refine Br.mk ?_ ?_) <;>intro hc| exact rfl) <;>conv=>whnf)
   exact⟨M,c,k3,rfl⟩
 · obtain⟨v,M,c,k1,k2,k3⟩:=H0 h e.id e.other
   have hm:c6 E 88=[]:=rfl
   refine Ev.bz zn (zo _) rfl ?_
   (conv=>whnf);repeat' ((first| refine er hm (p3 _) k1 k2 ?_| intro g| refine ah.mk _ (h0) ?_| refine st ?_| (first| refine b1 ?_ ?_| refine b2 ?_ ?_| refine Br.mk ?_ ?_) <;>intro hc| exact rfl) <;>conv=>whnf)
   exact⟨M,c,k3,rfl⟩
end Go.AM
