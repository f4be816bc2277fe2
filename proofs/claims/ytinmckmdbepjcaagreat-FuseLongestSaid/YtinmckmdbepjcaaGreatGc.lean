/-
  Texts of the proof, joined by program: FkE, FkF, FkG, FkH. Own work.
-/
import Derived.Test.YtinmckmdbepjcaaGreatLc
set_option linter.unusedSimpArgs false
set_option linter.unusedVariables false
set_option maxRecDepth 20000
namespace Go.AM
def Zo:V→Int
 | .tuple (.int _ n::_)=>n
 | _=>0
theorem Zh (k:Bool) (fs:List ar): ∀n,∀e ∈ b5 k fs n,∃ (i:Nat) (f:ar),fs[i]? =some f∧e= .tuple [vi f.id,Af k i f]
 | 0,e,h=>by simp[b5] at h
 | n+1,e,h=>by
   unfold b5 at h
   split at h
   · rename_i f hf
     split at h
     · rcases List.mem_append.1 h with h| h
       · exact Zh k fs n e h
       · simp at h;exact⟨n,f,hf,h⟩
     · exact Zh k fs n e h
   · exact Zh k fs n e h
def Zi (fs:List ar) (n:Nat):List Int:=(b5 false fs n).map Zo
theorem Zn (fs:List ar): ∀n,(Zi fs n).length≤n
 | 0=>by simp[Zi,b5]
 | n+1=>by
   have ih:=Zn fs n
   simp only[Zi,List.length_map] at ih ⊢
   unfold b5
   split
   · split
     · simp;omega
     · omega
   · omega
theorem Zw (  fs:List ar) (id:Int): ∀n,id ∈ Zi fs n↔ ∃ (i:Nat) (f:ar),i<n∧fs[i]? =some f∧f.id=id
 | 0=>by simp[Zi,b5]
 | n+1=>    by
   have ih:=Zw fs id n
   have wy: (∃ (i:Nat) (f:ar),i<n+1∧fs[i]? =some f∧f.id=id)↔(∃ (i:Nat) (f:ar),i<n∧fs[i]? =some f∧f.id=id)∨ ∃f,fs[n]? =some f∧f.id=id:=by
     constructor
     · rintro⟨i,f,h1,h2,h3⟩
       rcases(by omega:i<n∨i=n) with h| rfl
       · exact .inl ⟨i,f,h,h2,h3⟩
       · exact .inr ⟨f,h2,h3⟩
     · rintro(⟨i,f,h1,h2,h3⟩ | ⟨f,h2,h3⟩)
       · exact⟨i,f,by omega,h2,h3⟩
       · exact⟨n,f,by omega,h2,h3⟩
   rw[wy,←ih]
   unfold Zi
   conv=>lhs;unfold b5
   cases hf:fs[n]? with
   | none=>simp
   | some f=>
     simp only[Option.some.injEq]
     by_cases hn:findF (fs.take n) f.id=none
     · simp only[hn,if_true,List.map_append,List.mem_append]
       simp[Zo,eq_comm]
     · simp only[hn,if_false]
       constructor
       · exact .inl
       · rintro(h| ⟨g,rfl,rfl⟩)
         · exact h
         · cases hq:findF (fs.take n) f.id with
           | none=>exact absurd hq hn
           | some i=>
             obtain⟨g,hg,hgi,_⟩:=cu hq
             have GD:i<n:=by have:=(List.getElem?_eq_some_iff.1 hg).1;simp at this;omega
             exact ih.2 ⟨i,g,GD,by rw[List.getElem?_take] at hg;simpa [GD] using hg,hgi⟩
theorem ZA (fs:List ar): ∀n,(Zi fs n).Nodup
 | 0=>by simp[Zi,b5]
 | n+1=>by
   have ih:=ZA fs n
   unfold Zi at ih ⊢
   unfold b5
   split
   · rename_i f hf
     split
     · rename_i hn
       rw[List.map_append,List.nodup_append]
       refine⟨ih,by simp,fun a ha b hb=> ?_⟩
       simp[Zo] at hb
       subst hb
       intro e
       obtain⟨i,g,h1,h2,h3⟩:=(Zw fs a n).1 ha
       exact Ax hn i g (by rw[List.getElem?_take];simpa [h1] using h2) (h3.trans e)
     · exact ih
   · exact ih
def Y4 (m:aG):List Int:=kH (Zi m.ah m.ah.length)
theorem Y7 (l:List Int): (kH l).Perm l:=pg MC l
theorem Zd (l:List Int): (kH l).Pairwise (MC · ·):=qc (fun a b c h1 h2=>by simp[MC] at h1 h2 ⊢;omega) (fun a b=>by simp[MC];omega) l
theorem ZZ {l l':List Int} (h:l.Perm l'):kH l=kH l':=
 Cn (le:=MC) (fun a b h1 h2=>by simp[MC] at h1 h2;omega) ((Y7 l).trans (h.trans (Y7 l').symm)) (Zd l) (Zd l')
theorem ZB (m:aG): (Y4 m).length≤m.ah.length:=by
 unfold Y4;rw[nU];exact Zn ..
theorem Z2 {l:List Int} (h:l.Pairwise (MC · ·)) (hn:l.Nodup):l.Pairwise (· < ·):=
 (h.and hn).imp fun h=>by simp[MC] at h;omega
theorem Ze (m:aG): (Y4 m).Pairwise (· < ·):=
 Z2 (Zd _) ((Y7 _).nodup_iff.2 (ZA ..))
theorem Zz (m:aG) (id:Int):id ∈ Y4 m↔ ∃ (i:Nat) (f:ar),i<m.ah.length∧m.ah[i]? =some f∧f.id=id:=
 (Y7 _).mem_iff.trans (Zw ..)
theorem aaK {l l':List Int} (h:l.Pairwise (· < ·)) (h':l'.Pairwise (· < ·)) (hm: ∀x,x ∈ l↔x ∈ l'):l=l':=by
 have n1:l.Nodup:=h.imp fun h=>by omega
 have n2:l'.Nodup:=h'.imp fun h=>by omega
 have hp:l.Perm l':=(List.perm_ext_iff_of_nodup n1 n2).2 hm
 exact hp.eq_of_pairwise (fun a b _ _ h1 h2=>by omega) h h'
end Go.AM
set_option maxRecDepth 20000
namespace Go.AM
set_option maxHeartbeats 4000000 in
theorem all_keys {m:aG} (hs:EP m) {d:Int} {Q:aW→SS→Prop} {S:SS} {g2 g5 g6 gi:Nat}
   (hS: (⟨[(1,vi d),(2,.ptr 48 g2 0 0),(5,.ptr 96 g5 0 0),(6,.sl 113 g6 0 0),(18,.it 304 gi)],[(48,⟨g2,4,false,false,some [m.v]⟩),(96,⟨g5,1,false,false,some [Zl m]⟩),(113,⟨g6,1,true,false,some []⟩),(304,⟨gi,0,false,false,none⟩)]⟩:SS).Sub ⟨S.T,(304,⟨gi,0,false,false,none⟩)::S.O⟩)
   (hT:lk S.T 18=some (.it 304 gi))
   (hI:lk S.O 304=some ⟨gi,0,false,false,some [Zl m]⟩)
   (hQ: ∀g,Q .normal ⟨[(1,vi d),(2,.ptr 48 g2 0 0),(5,.ptr 96 g5 0 0),(6,.sl 113 g 0 (Y4 m).length)],[(48,⟨g2,4,false,false,some [m.v]⟩),(96,⟨g5,1,false,false,some [Zl m]⟩),(113,⟨g,1,true,false,some ((Y4 m).map vi)⟩)]⟩):
   Ey E 18 19 21 0 [1,2,5,6] [48,96,113] GX GY GZ S Q:=by
 refine Ey.by (r:=304) (g:=gi) (es:=b5 false m.ah m.ah.length) (fun L=> ⟨[(1,vi d),(2,.ptr 48 g2 0 0),(5,.ptr 96 g5 0 0),(6,.sl 113 (g6+L.length) 0 (L.map Zo).length),(18,.it 304 gi)],[(48,⟨g2,4,false,false,some [m.v]⟩),(96,⟨g5,1,false,false,some [Zl m]⟩),(113,⟨g6+L.length,1,true,false,some ((L.map Zo).map vi)⟩),(304,⟨gi,0,false,false,none⟩)]⟩)
   ⟨[(1,vi d),(2,.ptr 48 g2 0 0),(5,.ptr 96 g5 0 0),(6,.sl 113 (g6+(Y4 m).length) 0 (Y4 m).length)],[(48,⟨g2,4,false,false,some [m.v]⟩),(96,⟨g5,1,false,false,some [Zl m]⟩),(113,⟨g6+(Y4 m).length,1,true,false,some ((Y4 m).map vi)⟩)]⟩ ?_ hI ?_ (fun _=>rfl) (fun _=> ⟨_,rfl,rfl⟩) ?_ ?_ ?_ rfl rfl rfl rfl ?_
 · exact hT
 · exact hS
 · intro e he
   obtain⟨i,f,_,rfl⟩:=Zh _ _ _ e he
   exact⟨_,_,rfl⟩
 · intro L k v rest hL
   obtain⟨i,f,hf,he⟩:=Zh false m.ah m.ah.length (.tuple [k,v]) (hL.mem_iff.1 (by simp))
   injection he with he
   obtain⟨rfl,rfl⟩:k=vi f.id∧v=Af false i f:=by simpa using he
   have hlen: (L.map Zo).length<m.ah.length:=by
    have h1:=hL.length_eq
    have h2:=Zn m.ah m.ah.length
    simp[Zi] at h1 h2 ⊢;omega
   have hm:=hs.2
   have aeB:L.length≤m.ah.length:=by rw[List.length_map] at hlen;omega
   have aeC:L.length< 1000000:=by omega
   (conv=>whnf);repeat' ((first| intro g| refine st ?_| (first| refine b1 ?_ ?_| refine b2 ?_ ?_| refine Br.mk ?_ ?_) <;>intro hc| exact rfl) <;>conv=>whnf)
   refine⟨⟨rfl,_,rfl,rfl⟩,?_⟩
   (conv=>whnf);repeat' ((first| refine Or.inr ?_| intro g| refine st ?_| (first| refine b1 ?_ ?_| refine b2 ?_ ?_| refine Br.mk ?_ ?_) <;>intro hc| exact rfl) <;>conv=>whnf)
   have LO:aO ((L.map Zo).map vi) 0 (L.map Zo).length=(L.map Zo).map vi:=bz (by simp)
   have e1: ∀e:V,g6+(L++[e]).length=g6+L.length+1:=fun e=>by rw[List.length_append];rfl
   simp only[e1,LO]
   (refine⟨?_,?_⟩ <;>repeat' (first| exact True.intro| refine And.intro ((by(conv=>whnf);simp[Zo];done)) ?_| refine ai ?_| refine And.intro ?_ ?_))
 · intro L hL
   have hlen: (L.map Zo).length≤m.ah.length:=by
    have h1:=hL.length_eq
    have h2:=Zn m.ah m.ah.length
    simp[Zi] at h1 h2 ⊢;omega
   have hm:=hs.2
   have L7:=HC (l:=L.map Zo) (by omega)
   have GA: (Y4 m)=kH (L.map Zo):=(ZZ (hL.map Zo)).symm
   have y6: (Y4 m).length=L.length:=by rw[GA,nU,List.length_map]
   rw[GA,nU,List.length_map]
   have aes:Ev E 132 [.msl 1 ((L.map Zo).map vi) 0 L.length] ⟨.tuple [],[(0,(kH (L.map Zo)).map vi)]⟩:=by rw[List.length_map] at L7;exact L7
   (conv=>whnf);repeat' ((first| intro g| refine ag.mk _ (aes) ?_| refine st ?_| (first| refine b1 ?_ ?_| refine b2 ?_ ?_| refine Br.mk ?_ ?_) <;>intro hc| exact rfl) <;>conv=>whnf)
   refine⟨?_,?_⟩
   · (repeat' (first| exact True.intro| refine And.intro ((by(conv=>whnf);simp)) ?_| refine ai ?_| refine And.intro ?_ ?_))
   · (repeat' (first| exact True.intro| refine ai ?_| refine And.intro ?_ ?_))
 · exact hQ _
end Go.AM
set_option maxRecDepth 20000
namespace Go.AM
def aai (mv d:V) (es:List V) (ids:List Int) (vN:List Event) (g2 g5 gk ge k:Nat) (z1 z2 z3:Bool):SS:=
 ⟨[(1,d),(2,.ptr 48 g2 0 0),(5,.ptr 96 g5 0 0),(6,.sl 113 gk 0 ids.length),(8,.sl 145 ge 0 vN.length),(29,.sl 113 gk 0 ids.length),(30,aF ids.length),(31,aF k)],
  [(48,⟨g2,4,false,z1,some [mv]⟩),(96,⟨g5,1,false,z2,some [.mlit es]⟩),(113,⟨gk,1,true,z3,some (ids.map vi)⟩),(145,⟨ge,5,true,false,some (vN.map Event.v)⟩)]⟩
set_option maxHeartbeats 4000000 in
theorem aa7 {mv:V} {d id:Int} {es:List V} {ids:List Int} {vN:List Event} {g2 g5 gk ge k:Nat} {z1 z2 z3:Bool} {Q:aW→SS→Prop} (hx: (ids.map vi)[k]? =some (vi id)) (hk:k<ids.length) (hb:ids.length< 1000000) (hd:d< 1)
  (hQ: ∀T' O' z1 z2 z3,(aai mv (vi d) es ids vN g2 g5 gk ge (k+1) z1 z2 z3).Sub ⟨T',O'⟩→Q .normal ⟨T',O'⟩):gY E G0 (aai mv (vi d) es ids vN g2 g5 gk ge k z1 z2 z3) Q:=by
 (conv=>whnf);repeat' ((first| intro g| refine aH.mk _ (hx) ?_| refine st ?_| (first| refine b1 ?_ ?_| refine b2 ?_ ?_| refine Br.mk ?_ ?_) <;>intro hc| exact rfl) <;>conv=>whnf)
 exact hQ _ _ _ _ _ (by(refine⟨?_,?_⟩ <;>repeat' (first| exact True.intro| refine ai ?_| refine And.intro ?_ ?_)))
set_option maxHeartbeats 4000000 in
theorem aa8 {mv:V} {d id:Int} {es:List V} {ids:List Int} {vN:List Event} {f:ar} {g2 g5 gk ge k:Nat} {z1 z2 z3:Bool} {Q:aW→SS→Prop} (hx: (ids.map vi)[k]? =some (vi id)) (hk:k<ids.length) (hb:ids.length< 1000000) (hd: ¬d< 1) (ns:eE false .nilp es (vi id)= .done (.eptr f.v 0)) (hf: ¬f.bg=d)
  (hQ: ∀T' O' z1 z2 z3,(aai mv (vi d) es ids vN g2 g5 gk ge (k+1) z1 z2 z3).Sub ⟨T',O'⟩→Q .normal ⟨T',O'⟩):gY E G0 (aai mv (vi d) es ids vN g2 g5 gk ge k z1 z2 z3) Q:=by
 (conv=>whnf);repeat' ((first| intro g| refine aH.mk _ (hx) ?_| refine aH.mk _ (ns) ?_| refine st ?_| (first| refine b1 ?_ ?_| refine b2 ?_ ?_| refine Br.mk ?_ ?_) <;>intro hc| exact rfl) <;>conv=>whnf)
 exact hQ _ _ _ _ _ (by(refine⟨?_,?_⟩ <;>repeat' (first| exact True.intro| refine ai ?_| refine And.intro ?_ ?_)))
theorem Z5 {l:List Int} (h:l.length< 1000000):Ev E 149 [.lit 1 (l.map vi)] ⟨.own 1 (l.map vi),[]⟩:=
 Ev.ext (by rw[adH];simp[lr];omega)
set_option maxHeartbeats 4000000 in
theorem abv {mv:V} {d id best:Int} {es rest:List V} {ids K:List Int} {vN:List Event} {f:ar} {g2 g5 gk ge k:Nat} {z1 z2 z3:Bool} {Q:aW→SS→Prop} (hx: (ids.map vi)[k]? =some (vi id)) (hk:k<ids.length) (hb:ids.length< 1000000) (hd: ¬d< 1) (ns:eE false .nilp es (vi id)= .done (.eptr f.v 0)) (hf:f.bg=d)
  (rK:V.aE mv=true) (bQ:V.aq es=true) (yR:V.aq rest=true) (hKl:K.length≤ids.length)
  (mG:Ev E 149 [.lit 1 (ids.map vi)] ⟨.own 1 (ids.map vi),[]⟩)
  (aa9:Ev E 505 [.msl 1 (ids.map vi) 0 (ids.map vi).length,.fn 506 [.eptr mv 0,.eptr (.mlit es) 0,.eptr (vi id) 0]] ⟨.sl 0 0 0 K.length,[(0,K.map vi++rest)]⟩)
  (Zq:Ev E 508 [.lit 1 (K.map vi),.fn 507 [.eptr mv 0,.eptr (vi id) 0]] ⟨.tuple [vi best,.bool false],[]⟩)
  (hQ: ∀T' O' z1 z2 z3,(aai mv (vi d) es ids vN g2 g5 gk ge (k+1) z1 z2 z3).Sub ⟨T',O'⟩→Q .normal ⟨T',O'⟩):gY E G0 (aai mv (vi d) es ids vN g2 g5 gk ge k z1 z2 z3) Q:=by
 have hw:aO (K.map vi++rest) 0 K.length=K.map vi:=wY (by simp)
 rw[←hw] at Zq
 have hn:True∧True∧0+K.length≤(K.map vi++rest).length∧V.aq (aO (K.map vi++rest) 0 K.length)=true:=⟨trivial,trivial,by simp,by rw[hw];exact iG _⟩
 (conv=>whnf);repeat' ((first| intro g| refine eY.mk (hn) ?_| refine aH.mk _ (hx) ?_| refine aH.mk _ (ns) ?_| refine ag.mk _ (mG) ?_| refine ag.mk _ (aa9) ?_| refine ag.mk _ (Zq) ?_| refine st ?_| (first| refine b1 ?_ ?_| refine b2 ?_ ?_| refine Br.mk ?_ ?_) <;>intro hc| exact rfl| (simp only[List.append,eN,gr,V.aE,V.aq,rK,bQ,cond_true])) <;>conv=>whnf)
 exact hQ _ _ _ _ _ (by(refine⟨?_,?_⟩ <;>repeat' (first| exact True.intro| refine ai ?_| refine And.intro ?_ ?_)))
def evI (w id best:Int):Event:=⟨2,if 1 <EE (4*w) then EE (4*w) else 1,id,best,0⟩
set_option maxHeartbeats 4000000 in
theorem abw {mv:V} {d id best:Int} {es rest:List V} {ids K:List Int} {vN:List Event} {f:ar} {g2 g5 gk ge k:Nat} {z1 z2 z3:Bool} {Q:aW→SS→Prop} (hx: (ids.map vi)[k]? =some (vi id)) (hk:k<ids.length) (hb:ids.length< 1000000) (hd: ¬d< 1) (ns:eE false .nilp es (vi id)= .done (.eptr f.v 0)) (hf:f.bg=d)
  (rK:V.aE mv=true) (bQ:V.aq es=true) (yR:V.aq rest=true) (hKl:K.length≤ids.length) (aeE:vN.length≤k)
  (mG:Ev E 149 [.lit 1 (ids.map vi)] ⟨.own 1 (ids.map vi),[]⟩)
  (aa9:Ev E 505 [.msl 1 (ids.map vi) 0 (ids.map vi).length,.fn 506 [.eptr mv 0,.eptr (.mlit es) 0,.eptr (vi id) 0]] ⟨.sl 0 0 0 K.length,[(0,K.map vi++rest)]⟩)
  (Zq:Ev E 508 [.lit 1 (K.map vi),.fn 507 [.eptr mv 0,.eptr (vi id) 0]] ⟨.tuple [vi best,.bool true],[]⟩)
  (hQ: ∀T' O' z1 z2 z3 ge,(aai mv (vi d) es ids (vN++[evI f.weight id best]) g2 g5 gk ge (k+1) z1 z2 z3).Sub ⟨T',O'⟩→Q .normal ⟨T',O'⟩):gY E G0 (aai mv (vi d) es ids vN g2 g5 gk ge k z1 z2 z3) Q:=by
 have hw:aO (K.map vi++rest) 0 K.length=K.map vi:=wY (by simp)
 rw[←hw] at Zq
 have hn:True∧True∧0+K.length≤(K.map vi++rest).length∧V.aq (aO (K.map vi++rest) 0 K.length)=true:=⟨trivial,trivial,by simp,by rw[hw];exact iG _⟩
 have sm:vN.length< 1000000:=by omega
 (conv=>whnf);repeat' ((first| intro g| refine eY.mk (hn) ?_| refine aH.mk _ (hx) ?_| refine aH.mk _ (ns) ?_| refine ag.mk _ (mG) ?_| refine ag.mk _ (aa9) ?_| refine ag.mk _ (Zq) ?_| refine st ?_| (first| refine b1 ?_ ?_| refine b2 ?_ ?_| refine Br.mk ?_ ?_) <;>intro hc| exact rfl| (simp only[List.append,eN,gr,V.aE,V.aq,rK,bQ,cond_true])) <;>conv=>whnf)
 exact hQ _ _ _ _ _ _ (by(refine⟨?_,?_⟩ <;>repeat' (first| exact True.intro| refine ai ?_| refine And.intro ?_ ?_)))
end Go.AM
set_option maxRecDepth 20000
namespace Go.AM
def nbs (m:aG) (id:Int):List Int:=Za (Y4 m) fun o=>decide (jX m id o≠0)
noncomputable def evF (m:aG) (d id:Int):Option Event:=
 if d< 1 then none else match findF m.ah id with
  | none=>none
  | some i=>match m.ah[i]? with
    | none=>none
    | some f=>if f.bg=d then(if 0 < (nbs m id).length then some (evI f.weight id (Zy (brd m.an id) (nbs m id))) else none) else none
noncomputable def ZY (m:aG) (d:Int) (k:Nat):List Event:=((Y4 m).take k).filterMap (evF m d)
noncomputable def Y5 (m:aG) (d:Int):List Event:=ZY m d (Y4 m).length
theorem aaM {m:aG} {d:Int} {k:Nat} {id:Int} (h: (Y4 m)[k]? =some id):ZY m d (k+1)=ZY m d k++(evF m d id).toList:=by
 unfold ZY
 rw[List.take_add_one,h,Option.toList_some,List.filterMap_append]
 cases hh:evF m d id<;>simp[hh]
theorem ZQ (m:aG) (d:Int) (k:Nat): (ZY m d k).length≤k:=by
 unfold ZY
 exact Nat.le_trans (List.length_filterMap_le ..) (by simp;omega)
theorem Z4 {m:aG} {d id:Int} (h:d< 1):evF m d id=none:=by unfold evF;rw[if_pos h]
theorem aaN {m:aG} {d id:Int} (h: ¬d< 1) {i:Nat} {f:ar} (hi:findF m.ah id=some i) (hf:m.ah[i]? =some f) (hd: ¬f.bg=d):evF m d id=none:=by
 unfold evF;rw[if_neg h];simp only[hi,hf,if_neg hd]
theorem aaq {m:aG} {d id:Int} (h: ¬d< 1) {i:Nat} {f:ar} (hi:findF m.ah id=some i) (hf:m.ah[i]? =some f) (hd:f.bg=d) (hn: ¬0 < (nbs m id).length):evF m d id=none:=by
 unfold evF;rw[if_neg h];simp only[hi,hf,if_pos hd,if_neg hn]
theorem aap {m:aG} {d id:Int} (h: ¬d< 1) {i:Nat} {f:ar} (hi:findF m.ah id=some i) (hf:m.ah[i]? =some f) (hd:f.bg=d) (hn:0 < (nbs m id).length):evF m d id=some (evI f.weight id (Zy (brd m.an id) (nbs m id))):=by
 unfold evF;rw[if_neg h];simp only[hi,hf,if_pos hd,if_pos hn]
theorem aaj {m:aG} {k:Nat} {id:Int} (h: (Y4 m)[k]? =some id): ∃ (i:Nat) (f:ar),findF m.ah id=some i∧m.ah[i]? =some f:=by
 obtain⟨j,g,_,hj,hg⟩:=(Zz m id).1 (List.mem_of_getElem? h)
 cases hq:findF m.ah id with
 | none=>exact absurd hg (Ax hq j g hj)
 | some i=>
   obtain⟨f,hf,_⟩:=cu hq
   exact⟨i,f,rfl,hf⟩
def aa5 (m:aG):Prop:=aaT m.an∧m.ah.length< 1000000
set_option maxHeartbeats 4000000 in
theorem acq {m:aG} (gO:aa5 m) (d:Int):Ev E 492 [m.v,vi d] ⟨.own 5 ((Y5 m d).map Event.v),[]⟩:=by
 have hs:EP m:=⟨gO.1.1,gO.2⟩
 have hk:=yt false hs.2
 have hm:gv E 500=[]:=rfl
 have h0:V.aE m.v=true:=aG.ug false m
 have hp:V.aq [m.v]=true:=by simp only[V.aq,h0];rfl
 refine Ev.bU adp (adq _) rfl ?_
 (conv=>whnf);repeat' ((first| refine tg hm hp hk (tq ..) ?_| intro g| refine st ?_| (first| refine b1 ?_ ?_| refine b2 ?_ ?_| refine Br.mk ?_ ?_) <;>intro hc| exact rfl) <;>conv=>whnf)
 rename_i g2 g4 g5 g6
 refine all_keys hs (d:=d) (g2:=g2) (g5:=g5) (g6:=g6) (gi:=g) ?_ rfl rfl fun gk=> ?_
 · (refine⟨?_,?_⟩ <;>repeat' (first| exact True.intro| refine ai ?_| refine And.intro ?_ ?_))
 clear hk hm hp
 have GD:=ZB m
 have y6:=hs.2
 (conv=>whnf);repeat' ((first| intro g| refine st ?_| (first| refine b1 ?_ ?_| refine b2 ?_ ?_| refine Br.mk ?_ ?_) <;>intro hc| exact rfl) <;>conv=>whnf)
 refine ba.by (fun ((k,ge,z1,z2,z3):Nat×Nat×Bool×Bool×Bool)=>aai m.v (vi d) (b5 false m.ah m.ah.length) (Y4 m) (ZY m d k) g2 g5 gk ge k z1 z2 z3) (fun (k,_)=>k≤(Y4 m).length) (fun (k,_)=> (Y4 m).length - k) (0,g,false,false,false) ?_ (by simp) ?_
 · (refine⟨?_,?_⟩ <;>repeat' (first| exact True.intro| refine ai ?_| refine And.intro ?_ ?_))
 rintro⟨k,ge,z1,z2,z3⟩ hk
 try dsimp only at hk
 by_cases bk:k< (Y4 m).length
 · obtain⟨id,RX⟩: ∃id,(Y4 m)[k]? =some id:=⟨_,aL bk⟩
   have abx: ((Y4 m).map vi)[k]? =some (vi id):=by simp[RX]
   have hib: (Y4 m).length< 1000000:=by omega
   have oK:=aaM (d:=d) RX
   obtain⟨i,f,hi,hf⟩:=aaj RX
   have ns:=bO (k:=false) hi hf
   have sm:=ZQ m d k
   by_cases hd:d< 1
   · rw[Z4 hd] at oK
     refine aa7 abx bk hib hd fun T' O' z1 z2 z3 hq=>bc.mk (k+1,ge,z1,z2,z3) (by first| omega| (dsimp only;omega)) (by omega) ?_
     simp only[oK,Option.toList_none,List.append_nil]
     exact hq
   by_cases hfd:f.bg=d
   · obtain⟨rest,hr,aa9⟩:=acr hib (acs hs id)
     have abH:Ev E 505 [.msl 1 ((Y4 m).map vi) 0 ((Y4 m).map vi).length,.fn 506 [.eptr m.v 0,.eptr (Zl m) 0,.eptr (vi id) 0]] ⟨.sl 0 0 0 (nbs m id).length,[(0,(nbs m id).map vi++rest)]⟩:=by rw[List.length_map];exact aa9
     have hnl: (nbs m id).length≤(Y4 m).length:=aaO ..
     have Zq:=aaA (l:=nbs m id) (by omega) (acu gO.1 id)
     by_cases hn:0 < (nbs m id).length
     · rw[aap hd hi hf hfd hn] at oK
       simp only[hn,decide_true] at Zq
       refine abw abx bk hib hd ns hfd h0 (jo ..) hr hnl sm (Z5 hib) abH Zq fun T' O' z1 z2 z3 ge hq=>bc.mk (k+1,ge,z1,z2,z3) (by first| omega| (dsimp only;omega)) (by omega) ?_
       simp only[oK,Option.toList_some]
       exact hq
     · rw[aaq hd hi hf hfd hn] at oK
       simp only[hn,decide_false] at Zq
       refine abv abx bk hib hd ns hfd h0 (jo ..) hr hnl (Z5 hib) abH Zq fun T' O' z1 z2 z3 hq=>bc.mk (k+1,ge,z1,z2,z3) (by first| omega| (dsimp only;omega)) (by omega) ?_
       simp only[oK,Option.toList_none,List.append_nil]
       exact hq
   · rw[aaN hd hi hf hfd] at oK
     refine aa8 abx bk hib hd ns hfd fun T' O' z1 z2 z3 hq=>bc.mk (k+1,ge,z1,z2,z3) (by first| omega| (dsimp only;omega)) (by omega) ?_
     simp only[oK,Option.toList_none,List.append_nil]
     exact hq
 · obtain rfl:k=(Y4 m).length:=by omega
   have sm:=ZQ m d (Y4 m).length
   (conv=>whnf);repeat' ((first| intro g| refine st ?_| (first| refine b1 ?_ ?_| refine b2 ?_ ?_| refine Br.mk ?_ ?_) <;>intro hc| exact rfl) <;>conv=>whnf)
   trace_state
end Go.AM
