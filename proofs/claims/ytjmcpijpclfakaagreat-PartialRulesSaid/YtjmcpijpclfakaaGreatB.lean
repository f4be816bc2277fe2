/-
  Texts of the proof: PCopy, PCopyB.
-/
import Derived.Test.YtjmcpijpclfakaaGreatA
set_option maxRecDepth 20000
set_option linter.unusedSimpArgs false
set_option linter.unusedVariables false
namespace Go.AM
mutual
def Ex.norm:Ex→Ex
 | .mk op var val nl l=> .mk op var val true (Ex.wu l)
def Ex.wu:List Ex→List Ex
 | []=> []
 | e::l=>e.norm::Ex.wu l
end
theorem Ex.dO: ∀l:List Ex,Ex.wu l=l.map Ex.norm
 | []=>by simp[Ex.wu]
 | e::l=>by simp[Ex.wu,Ex.dO l]
def Kn:List V→V
 | []=> .nils
 | x::xs=> .own 7 (x::xs)
def Ex.ov:Ex→V
 | .mk op var val nl l=> .agg [vi op,vi var,vi val.t,vi val.n,.bool val.b,.str val.s,Kn (l.map Ex.v)]
theorem Ex.Ko (x:Ex): ∃a b c d e f,(x.norm.ov= .agg [vi a,vi b,vi c,vi d,.bool e,.str f,.nils]∧x.norm.v= .agg [vi a,vi b,vi c,vi d,.bool e,.str f,.nils])∨
  ∃ys:List Ex,ys≠[]∧x.norm.ov= .agg [vi a,vi b,vi c,vi d,.bool e,.str f,.own 7 (ys.map Ex.v)]∧x.norm.v= .agg [vi a,vi b,vi c,vi d,.bool e,.str f,.lit 7 (ys.map Ex.v)]:=by
 obtain⟨op,var,val,nl,l⟩:=x
 simp only[Ex.norm,Ex.dO,Ex.bN,Ex.ov]
 refine⟨op,var,val.t,val.n,val.b,val.s,?_⟩
 cases l with
 | nil=>exact .inl ⟨rfl,rfl⟩
 | cons y ys=>exact .inr ⟨(y::ys).map Ex.norm,by simp,rfl,rfl⟩
theorem mU: ∀ (k:Nat) (e:Ex),e.size≤k→k< 1000000→Ev E 334 [e.v] ⟨e.norm.ov,[]⟩
 | 0,e,h,_=>by have:=e.size_pos;omega
 | k+1,.mk op var val nl l,h,hk=>by
   have cJ:Ex.bK l≤k:=by simp only[Ex.size] at h;omega
   have ih: ∀x ∈ l,Ev E 334 [x.v] ⟨x.norm.ov,[]⟩:=fun x hx=>mU k x (Nat.le_trans (Ex.eU hx) cJ) (by omega)
   have hlen:=Ex.length_le l
   rw[Ex.bN]
   simp only[Ex.norm,Ex.dO,Ex.ov]
   refine Ev.aG Zg (Zh _) rfl ?_
   cases l with
   | nil=>
     cases nl<;>simp only[List.map_nil,lv,Kn,cond_true,cond_false,Ex.bK]
     all_goals
       (conv=>whnf);repeat' ((first| intro g| refine st ?_| (first| refine b1 ?_ ?_| refine b2 ?_ ?_| refine Br.mk ?_ ?_) <;>intro hc| exact rfl) <;>conv=>whnf)
       rename_i ln ed
       refine bj.by (fun (i:Nat)=> ⟨[(1,.ptr 32 ln 0 0),(2,.ptr 48 ed 0 0),(3,.ptr 64 g 0 0),(4,aO 0)],[(32,⟨ln,7,false,false,some [_]⟩),(48,⟨ed,7,false,false,some [_]⟩),(64,⟨g,7,false,false,some [_]⟩)]⟩) (fun i=>i=0) (fun _=>0) 0 (by(refine⟨?_,?_⟩ <;>repeat' (first| exact True.intro| refine ai ?_| refine And.intro ?_ ?_))) rfl ?_
       rintro i rfl
       (conv=>whnf);repeat' ((first| intro g| refine st ?_| (first| refine b1 ?_ ?_| refine b2 ?_ ?_| refine Br.mk ?_ ?_) <;>intro hc| exact rfl) <;>conv=>whnf)
   | cons y ys=>
     have e1:lv nl ((y::ys).map Ex.v)= .lit 7 ((y::ys).map Ex.v):=rfl
     have e2:Kn (((y::ys).map Ex.norm).map Ex.v)= .own 7 (((y::ys).map Ex.norm).map Ex.v):=rfl
     rw[e1,e2]
     have cu:0 < (y::ys).length:=by simp
     generalize hl:y::ys=l at*
     clear hl
     (conv=>whnf);repeat' ((first| intro g| refine st ?_| (first| refine b1 ?_ ?_| refine b2 ?_ ?_| refine Br.mk ?_ ?_) <;>intro hc| exact rfl) <;>conv=>whnf)
     rename_i ln ed
     obtain⟨fh,yb⟩: ∃x,x=g:=⟨_,rfl⟩
     rw[←yb];clear yb
     refine bj.by (fun ((i,L,ce):Nat×List Ex×Option Nat)=> ⟨[(1,.ptr 32 ln 0 0),(2,.ptr 48 ed 0 0),(3,.ptr 64 fh 0 0),(4,aO i)],
         match ce with
         | none=> [(32,⟨ln,7,false,false,some [.agg [vi op,vi var,vi val.t,vi val.n,.bool val.b,.str val.s,.lit 7 (l.map Ex.v)]]⟩),(48,⟨ed,7,false,false,some [.agg [vi 0,vi 0,vi 0,vi 0,.bool false,.str [],.lit 7 []]]⟩),(64,⟨fh,7,false,false,some [.agg [vi op,vi var,vi val.t,vi val.n,.bool val.b,.str val.s,.nils]]⟩)]
         | some tf=> [(32,⟨ln,7,false,false,some [.agg [vi op,vi var,vi val.t,vi val.n,.bool val.b,.str val.s,.lit 7 (l.map Ex.v)]]⟩),(48,⟨ed,7,false,false,some [.agg [vi 0,vi 0,vi 0,vi 0,.bool false,.str [],.lit 7 []]]⟩),(64,⟨fh,7,false,false,some [.agg [vi op,vi var,vi val.t,vi val.n,.bool val.b,.str val.s,.sl 69 tf 0 L.length]]⟩),(69,⟨tf,7,true,false,some (L.map Ex.v)⟩)]⟩)
       (fun (i,L,ce)=>i≤l.length∧L.length=i∧L=(l.take i).map Ex.norm∧(ce=none→L=[])∧(0 <i→ce≠none)) (fun (i,_)=>l.length - i) (0,[],none) (by(refine⟨?_,?_⟩ <;>repeat' (first| exact True.intro| refine ai ?_| refine And.intro ?_ ?_))) ⟨by simp,by simp,by simp,by simp,by simp⟩ ?_
     rintro⟨i,L,ce⟩ ⟨hi,hL,lZ,Dl,BQ⟩
     try dsimp only at hi hL lZ Dl BQ
     by_cases bY:i<l.length
     · obtain⟨x,hx⟩: ∃x,l[i]? =some x:=⟨_,bp bY⟩
       have xD:=ih x (List.mem_of_getElem? hx)
       have re:L++[x.norm]=(l.take (i+1)).map Ex.norm:=by rw[lZ,List.take_add_one,hx];simp
       obtain⟨a,b,c,d,e',f,M,hv,hM⟩:=x.form
       rw[hv] at xD
       obtain⟨a2,b2,c2,d2,e2',f2,⟨ho,hn⟩ | ⟨zs,hz,ho,hn⟩⟩:=x.Ko
       all_goals
         rw[ho] at xD
         rcases hM with rfl| ⟨us,rfl⟩
         all_goals
          cases ce with
          | none=>
            obtain rfl:=Dl rfl
            (conv=>whnf);repeat' ((first| intro g| refine bD.mk _ (aA hx hv rfl) ?_| refine av.mk _ (xD) ?_| refine st ?_| (first| refine b1 ?_ ?_| refine b2 ?_ ?_| refine Br.mk ?_ ?_) <;>intro hc| exact rfl) <;>conv=>whnf)
            exact bk.mk (i+1,[x.norm],some g) (by first| omega| (dsimp only;omega)) ⟨(by first| omega| (dsimp only;omega)),by simp at hL ⊢;omega,re,by simp,by simp⟩ (by simp only[List.map_cons,List.map_nil,hn]; (refine⟨?_,?_⟩ <;>repeat' (first| exact True.intro| refine ai ?_| refine And.intro ?_ ?_)))
          | some tf=>
            (conv=>whnf);repeat' ((first| intro g| refine bD.mk _ (aA hx hv rfl) ?_| refine av.mk _ (xD) ?_| refine st ?_| (first| refine b1 ?_ ?_| refine b2 ?_ ?_| refine Br.mk ?_ ?_) <;>intro hc| exact rfl) <;>conv=>whnf)
            exact bk.mk (i+1,L++[x.norm],some g) (by first| omega| (dsimp only;omega)) ⟨(by first| omega| (dsimp only;omega)),by simp;omega,re,by simp,by simp⟩ (by simp only[List.map_append,List.map_cons,List.map_nil,hn]; (refine⟨?_,?_⟩ <;>repeat' (first| exact True.intro| refine ai ?_| refine And.intro ?_ ?_)))
     · have gP:i=l.length:=by omega
       subst gP
       rw[List.take_length] at lZ
       cases ce with
       | none=>exact absurd rfl (BQ cu)
       | some tf=>
         subst lZ
         (conv=>whnf);repeat' ((first| intro g| refine bU.mk (⟨by simp,Ex.bq _⟩) ?_| refine st ?_| (first| refine b1 ?_ ?_| refine b2 ?_ ?_| refine Br.mk ?_ ?_) <;>intro hc| exact rfl) <;>conv=>whnf)
end Go.AM
namespace Go.AM
theorem pE: ∀ (k:Nat) (e:Ex),e.size≤k→k< 1000000→Ev E 343 [e.v] ⟨e.norm.ov,[]⟩
 | 0,e,h,_=>by have:=e.size_pos;omega
 | k+1,.mk op var val nl l,h,hk=>by
   have cJ:Ex.bK l≤k:=by simp only[Ex.size] at h;omega
   have ih: ∀x ∈ l,Ev E 343 [x.v] ⟨x.norm.ov,[]⟩:=fun x hx=>pE k x (Nat.le_trans (Ex.eU hx) cJ) (by omega)
   have hlen:=Ex.length_le l
   rw[Ex.bN]
   simp only[Ex.norm,Ex.dO,Ex.ov]
   refine Ev.aG Zq (Zr _) rfl ?_
   cases l with
   | nil=>
     cases nl<;>simp only[List.map_nil,lv,Kn,cond_true,cond_false,Ex.bK]
     all_goals
       (conv=>whnf);repeat' ((first| intro g| refine st ?_| (first| refine b1 ?_ ?_| refine b2 ?_ ?_| refine Br.mk ?_ ?_) <;>intro hc| exact rfl) <;>conv=>whnf)
       rename_i ln
       refine bj.by (fun (i:Nat)=> ⟨[(1,.ptr 32 ln 0 0),(2,.ptr 48 g 0 0),(10,aO 0),(11,aO 0)],[(32,⟨ln,7,false,false,some [_]⟩),(48,⟨g,7,false,false,some [_]⟩)]⟩) (fun i=>i=0) (fun _=>0) 0 (by(refine⟨?_,?_⟩ <;>repeat' (first| exact True.intro| refine ai ?_| refine And.intro ?_ ?_))) rfl ?_
       rintro i rfl
       (conv=>whnf);repeat' ((first| intro g| refine st ?_| (first| refine b1 ?_ ?_| refine b2 ?_ ?_| refine Br.mk ?_ ?_) <;>intro hc| exact rfl) <;>conv=>whnf)
   | cons y ys=>
     have e1:lv nl ((y::ys).map Ex.v)= .lit 7 ((y::ys).map Ex.v):=rfl
     have e2:Kn (((y::ys).map Ex.norm).map Ex.v)= .own 7 (((y::ys).map Ex.norm).map Ex.v):=rfl
     rw[e1,e2]
     have cu:0 < (y::ys).length:=by simp
     generalize hl:y::ys=l at*
     clear hl
     (conv=>whnf);repeat' ((first| intro g| refine st ?_| (first| refine b1 ?_ ?_| refine b2 ?_ ?_| refine Br.mk ?_ ?_) <;>intro hc| exact rfl) <;>conv=>whnf)
     rename_i ln
     obtain⟨ed,Zs⟩: ∃x,x=g:=⟨_,rfl⟩
     rw[←Zs];clear Zs
     refine bj.by (fun ((i,L,ce):Nat×List Ex×Option Nat)=> ⟨[(1,.ptr 32 ln 0 0),(2,.ptr 48 ed 0 0),(9,.lit 7 (l.map Ex.v)),(10,aO (l.map Ex.v).length),(11,aO i)],
         match ce with
         | none=> [(48,⟨ed,7,false,false,some [.agg [vi 0,vi 0,vi 0,vi 0,.bool false,.str [],.lit 7 []]]⟩),(32,⟨ln,7,false,false,some [.agg [vi op,vi var,vi val.t,vi val.n,.bool val.b,.str val.s,.nils]]⟩)]
         | some tf=> [(48,⟨ed,7,false,false,some [.agg [vi 0,vi 0,vi 0,vi 0,.bool false,.str [],.lit 7 []]]⟩),(32,⟨ln,7,false,false,some [.agg [vi op,vi var,vi val.t,vi val.n,.bool val.b,.str val.s,.sl 37 tf 0 L.length]]⟩),(37,⟨tf,7,true,false,some (L.map Ex.v)⟩)]⟩)
       (fun (i,L,ce)=>i≤l.length∧L.length=i∧L=(l.take i).map Ex.norm∧(ce=none→L=[])∧(0 <i→ce≠none)) (fun (i,_)=>l.length - i) (0,[],none) (by(refine⟨?_,?_⟩ <;>repeat' (first| exact True.intro| refine ai ?_| refine And.intro ?_ ?_))) ⟨by simp,by simp,by simp,by simp,by simp⟩ ?_
     rintro⟨i,L,ce⟩ ⟨hi,hL,lZ,Dl,BQ⟩
     try dsimp only at hi hL lZ Dl BQ
     by_cases bY:i<l.length
     · obtain⟨x,hx⟩: ∃x,l[i]? =some x:=⟨_,bp bY⟩
       have xD:=ih x (List.mem_of_getElem? hx)
       have re:L++[x.norm]=(l.take (i+1)).map Ex.norm:=by rw[lZ,List.take_add_one,hx];simp
       obtain⟨a,b,c,d,e',f,M,hv,hM⟩:=x.form
       rw[hv] at xD
       obtain⟨a2,b2,c2,d2,e2',f2,⟨ho,hn⟩ | ⟨zs,hz,ho,hn⟩⟩:=x.Ko
       all_goals
         rw[ho] at xD
         rcases hM with rfl| ⟨us,rfl⟩
         all_goals
          cases ce with
          | none=>
            obtain rfl:=Dl rfl
            (conv=>whnf);repeat' ((first| intro g| refine bD.mk _ (aA hx hv rfl) ?_| refine av.mk _ (xD) ?_| refine st ?_| (first| refine b1 ?_ ?_| refine b2 ?_ ?_| refine Br.mk ?_ ?_) <;>intro hc| exact rfl) <;>conv=>whnf)
            exact bk.mk (i+1,[x.norm],some g) (by first| omega| (dsimp only;omega)) ⟨(by first| omega| (dsimp only;omega)),by simp at hL ⊢;omega,re,by simp,by simp⟩ (by simp only[List.map_cons,List.map_nil,hn]; (refine⟨?_,?_⟩ <;>repeat' (first| exact True.intro| refine ai ?_| refine And.intro ?_ ?_)))
          | some tf=>
            (conv=>whnf);repeat' ((first| intro g| refine bD.mk _ (aA hx hv rfl) ?_| refine av.mk _ (xD) ?_| refine st ?_| (first| refine b1 ?_ ?_| refine b2 ?_ ?_| refine Br.mk ?_ ?_) <;>intro hc| exact rfl) <;>conv=>whnf)
            exact bk.mk (i+1,L++[x.norm],some g) (by first| omega| (dsimp only;omega)) ⟨(by first| omega| (dsimp only;omega)),by simp;omega,re,by simp,by simp⟩ (by simp only[List.map_append,List.map_cons,List.map_nil,hn]; (refine⟨?_,?_⟩ <;>repeat' (first| exact True.intro| refine ai ?_| refine And.intro ?_ ?_)))
     · have gP:i=l.length:=by omega
       subst gP
       rw[List.take_length] at lZ
       cases ce with
       | none=>exact absurd rfl (BQ cu)
       | some tf=>
         subst lZ
         (conv=>whnf);repeat' ((first| intro g| refine bU.mk (⟨by simp,Ex.bq _⟩) ?_| refine st ?_| (first| refine b1 ?_ ?_| refine b2 ?_ ?_| refine Br.mk ?_ ?_) <;>intro hc| exact rfl) <;>conv=>whnf)
end Go.AM
