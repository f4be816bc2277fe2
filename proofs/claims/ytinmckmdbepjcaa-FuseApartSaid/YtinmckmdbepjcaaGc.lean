/-
  Texts of the proof, joined by program: FkE, FkF, FkG, FkH. Own work.
-/
import Derived.Test.YtinmckmdbepjcaaLc
set_option linter.unusedSimpArgs false
set_option linter.unusedVariables false
set_option maxRecDepth 20000
namespace Go.AM
def YM:V→Int
 | .tuple (.int _ n::_)=>n
 | _=>0
theorem YN (k:Bool) (fs:List ar): ∀n,∀e ∈ b5 k fs n,∃ (i:Nat) (f:ar),fs[i]? =some f∧e= .tuple [vi f.id,Af k i f]
 | 0,e,h=>by simp[b5] at h
 | n+1,e,h=>by
   unfold b5 at h
   split at h
   · rename_i f hf
     split at h
     · rcases List.mem_append.1 h with h| h
       · exact YN k fs n e h
       · simp at h;exact⟨n,f,hf,h⟩
     · exact YN k fs n e h
   · exact YN k fs n e h
def YV (fs:List ar) (n:Nat):List Int:=(b5 false fs n).map YM
theorem YR (fs:List ar): ∀n,(YV fs n).length≤n
 | 0=>by simp[YV,b5]
 | n+1=>by
   have ih:=YR fs n
   simp only[YV,List.length_map] at ih ⊢
   unfold b5
   split
   · split
     · simp;omega
     · omega
   · omega
theorem Zk (  fs:List ar) (id:Int): ∀n,id ∈ YV fs n↔ ∃ (i:Nat) (f:ar),i<n∧fs[i]? =some f∧f.id=id
 | 0=>by simp[YV,b5]
 | n+1=>    by
   have ih:=Zk fs id n
   have wy: (∃ (i:Nat) (f:ar),i<n+1∧fs[i]? =some f∧f.id=id)↔(∃ (i:Nat) (f:ar),i<n∧fs[i]? =some f∧f.id=id)∨ ∃f,fs[n]? =some f∧f.id=id:=by
     constructor
     · rintro⟨i,f,h1,h2,h3⟩
       rcases(by omega:i<n∨i=n) with h| rfl
       · exact .inl ⟨i,f,h,h2,h3⟩
       · exact .inr ⟨f,h2,h3⟩
     · rintro(⟨i,f,h1,h2,h3⟩ | ⟨f,h2,h3⟩)
       · exact⟨i,f,by omega,h2,h3⟩
       · exact⟨n,f,by omega,h2,h3⟩
   rw[wy,←ih]
   unfold YV
   conv=>lhs;unfold b5
   cases hf:fs[n]? with
   | none=>simp
   | some f=>
     simp only[Option.some.injEq]
     by_cases hn:findF (fs.take n) f.id=none
     · simp only[hn,if_true,List.map_append,List.mem_append]
       simp[YM,eq_comm]
     · simp only[hn,if_false]
       constructor
       · exact .inl
       · rintro(h| ⟨g,rfl,rfl⟩)
         · exact h
         · cases hq:findF (fs.take n) f.id with
           | none=>exact absurd hq hn
           | some i=>
             obtain⟨g,hg,hgi,_⟩:=cu hq
             have GD:i<n:=by have:=(List.getElem?_eq_some_iff.1 hg).1;simp at this;omega
             exact ih.2 ⟨i,g,GD,by rw[List.getElem?_take] at hg;simpa [GD] using hg,hgi⟩
theorem Zn (fs:List ar): ∀n,(YV fs n).Nodup
 | 0=>by simp[YV,b5]
 | n+1=>by
   have ih:=Zn fs n
   unfold YV at ih ⊢
   unfold b5
   split
   · rename_i f hf
     split
     · rename_i hn
       rw[List.map_append,List.nodup_append]
       refine⟨ih,by simp,fun a ha b hb=> ?_⟩
       simp[YM] at hb
       subst hb
       intro e
       obtain⟨i,g,h1,h2,h3⟩:=(Zk fs a n).1 ha
       exact Ax hn i g (by rw[List.getElem?_take];simpa [h1] using h2) (h3.trans e)
     · exact ih
   · exact ih
def YK (m:aG):List Int:=kH (YV m.ah m.ah.length)
theorem YS (l:List Int): (kH l).Perm l:=pg MC l
theorem YZ (l:List Int): (kH l).Pairwise (MC · ·):=qc (fun a b c h1 h2=>by simp[MC] at h1 h2 ⊢;omega) (fun a b=>by simp[MC];omega) l
theorem Za {l l':List Int} (h:l.Perm l'):kH l=kH l':=
 Cn (le:=MC) (fun a b h1 h2=>by simp[MC] at h1 h2;omega) ((YS l).trans (h.trans (YS l').symm)) (YZ l) (YZ l')
theorem Y0 (m:aG): (YK m).length≤m.ah.length:=by
 unfold YK;rw[nU];exact YR ..
theorem aaq {l:List Int} (h:l.Pairwise (MC · ·)) (hn:l.Nodup):l.Pairwise (· < ·):=
 (h.and hn).imp fun h=>by simp[MC] at h;omega
theorem Y1 (m:aG): (YK m).Pairwise (· < ·):=
 aaq (YZ _) ((YS _).nodup_iff.2 (Zn ..))
theorem YW (m:aG) (id:Int):id ∈ YK m↔ ∃ (i:Nat) (f:ar),i<m.ah.length∧m.ah[i]? =some f∧f.id=id:=
 (YS _).mem_iff.trans (Zk ..)
theorem aar {l l':List Int} (h:l.Pairwise (· < ·)) (h':l'.Pairwise (· < ·)) (hm: ∀x,x ∈ l↔x ∈ l'):l=l':=by
 have n1:l.Nodup:=h.imp fun h=>by omega
 have n2:l'.Nodup:=h'.imp fun h=>by omega
 have hp:l.Perm l':=(List.perm_ext_iff_of_nodup n1 n2).2 hm
 exact hp.eq_of_pairwise (fun a b _ _ h1 h2=>by omega) h h'
end Go.AM
set_option maxRecDepth 20000
namespace Go.AM
set_option maxHeartbeats 4000000 in
theorem all_keys {m:aG} (hs:EP m) {d:Int} {Q:aW→SS→Prop} {S:SS} {g2 g5 g6 gi:Nat}
   (hS: (⟨[(1,vi d),(2,.ptr 48 g2 0 0),(5,.ptr 96 g5 0 0),(6,.sl 113 g6 0 0),(18,.it 304 gi)],[(48,⟨g2,4,false,false,some [m.v]⟩),(96,⟨g5,1,false,false,some [YL m]⟩),(113,⟨g6,1,true,false,some []⟩),(304,⟨gi,0,false,false,none⟩)]⟩:SS).Sub ⟨S.T,(304,⟨gi,0,false,false,none⟩)::S.O⟩)
   (hT:lk S.T 18=some (.it 304 gi))
   (hI:lk S.O 304=some ⟨gi,0,false,false,some [YL m]⟩)
   (hQ: ∀g,Q .normal ⟨[(1,vi d),(2,.ptr 48 g2 0 0),(5,.ptr 96 g5 0 0),(6,.sl 113 g 0 (YK m).length)],[(48,⟨g2,4,false,false,some [m.v]⟩),(96,⟨g5,1,false,false,some [YL m]⟩),(113,⟨g,1,true,false,some ((YK m).map vi)⟩)]⟩):
   Ey E 18 19 21 0 [1,2,5,6] [48,96,113] GX GY GZ S Q:=by
 refine Ey.by (r:=304) (g:=gi) (es:=b5 false m.ah m.ah.length) (fun L=> ⟨[(1,vi d),(2,.ptr 48 g2 0 0),(5,.ptr 96 g5 0 0),(6,.sl 113 (g6+L.length) 0 (L.map YM).length),(18,.it 304 gi)],[(48,⟨g2,4,false,false,some [m.v]⟩),(96,⟨g5,1,false,false,some [YL m]⟩),(113,⟨g6+L.length,1,true,false,some ((L.map YM).map vi)⟩),(304,⟨gi,0,false,false,none⟩)]⟩)
   ⟨[(1,vi d),(2,.ptr 48 g2 0 0),(5,.ptr 96 g5 0 0),(6,.sl 113 (g6+(YK m).length) 0 (YK m).length)],[(48,⟨g2,4,false,false,some [m.v]⟩),(96,⟨g5,1,false,false,some [YL m]⟩),(113,⟨g6+(YK m).length,1,true,false,some ((YK m).map vi)⟩)]⟩ ?_ hI ?_ (fun _=>rfl) (fun _=> ⟨_,rfl,rfl⟩) ?_ ?_ ?_ rfl rfl rfl rfl ?_
 · exact hT
 · exact hS
 · intro e he
   obtain⟨i,f,_,rfl⟩:=YN _ _ _ e he
   exact⟨_,_,rfl⟩
 · intro L k v rest hL
   obtain⟨i,f,hf,he⟩:=YN false m.ah m.ah.length (.tuple [k,v]) (hL.mem_iff.1 (by simp))
   injection he with he
   obtain⟨rfl,rfl⟩:k=vi f.id∧v=Af false i f:=by simpa using he
   have hlen: (L.map YM).length<m.ah.length:=by
    have h1:=hL.length_eq
    have h2:=YR m.ah m.ah.length
    simp[YV] at h1 h2 ⊢;omega
   have hm:=hs.2
   have acf:L.length≤m.ah.length:=by rw[List.length_map] at hlen;omega
   have acg:L.length< 1000000:=by omega
   (conv=>whnf);repeat' ((first| intro g| refine st ?_| (first| refine b1 ?_ ?_| refine b2 ?_ ?_| refine Br.mk ?_ ?_) <;>intro hc| exact rfl) <;>conv=>whnf)
   refine⟨⟨rfl,_,rfl,rfl⟩,?_⟩
   (conv=>whnf);repeat' ((first| refine Or.inr ?_| intro g| refine st ?_| (first| refine b1 ?_ ?_| refine b2 ?_ ?_| refine Br.mk ?_ ?_) <;>intro hc| exact rfl) <;>conv=>whnf)
   have LO:aO ((L.map YM).map vi) 0 (L.map YM).length=(L.map YM).map vi:=bz (by simp)
   have e1: ∀e:V,g6+(L++[e]).length=g6+L.length+1:=fun e=>by rw[List.length_append];rfl
   simp only[e1,LO]
   (refine⟨?_,?_⟩ <;>repeat' (first| exact True.intro| refine And.intro ((by(conv=>whnf);simp[YM];done)) ?_| refine ai ?_| refine And.intro ?_ ?_))
 · intro L hL
   have hlen: (L.map YM).length≤m.ah.length:=by
    have h1:=hL.length_eq
    have h2:=YR m.ah m.ah.length
    simp[YV] at h1 h2 ⊢;omega
   have hm:=hs.2
   have L7:=HC (l:=L.map YM) (by omega)
   have GA: (YK m)=kH (L.map YM):=(Za (hL.map YM)).symm
   have y6: (YK m).length=L.length:=by rw[GA,nU,List.length_map]
   rw[GA,nU,List.length_map]
   have abB:Ev E 132 [.msl 1 ((L.map YM).map vi) 0 L.length] ⟨.tuple [],[(0,(kH (L.map YM)).map vi)]⟩:=by rw[List.length_map] at L7;exact L7
   (conv=>whnf);repeat' ((first| intro g| refine ag.mk _ (abB) ?_| refine st ?_| (first| refine b1 ?_ ?_| refine b2 ?_ ?_| refine Br.mk ?_ ?_) <;>intro hc| exact rfl) <;>conv=>whnf)
   refine⟨?_,?_⟩
   · (repeat' (first| exact True.intro| refine And.intro ((by(conv=>whnf);simp)) ?_| refine ai ?_| refine And.intro ?_ ?_))
   · (repeat' (first| exact True.intro| refine ai ?_| refine And.intro ?_ ?_))
 · exact hQ _
end Go.AM
set_option maxRecDepth 20000
namespace Go.AM
def ZE (mv d:V) (es:List V) (ids:List Int) (vN:List Event) (g2 g5 gk ge k:Nat) (z1 z2 z3:Bool):SS:=
 ⟨[(1,d),(2,.ptr 48 g2 0 0),(5,.ptr 96 g5 0 0),(6,.sl 113 gk 0 ids.length),(8,.sl 145 ge 0 vN.length),(29,.sl 113 gk 0 ids.length),(30,aF ids.length),(31,aF k)],
  [(48,⟨g2,4,false,z1,some [mv]⟩),(96,⟨g5,1,false,z2,some [.mlit es]⟩),(113,⟨gk,1,true,z3,some (ids.map vi)⟩),(145,⟨ge,5,true,false,some (vN.map Event.v)⟩)]⟩
set_option maxHeartbeats 4000000 in
theorem ZS {mv:V} {d id:Int} {es:List V} {ids:List Int} {vN:List Event} {g2 g5 gk ge k:Nat} {z1 z2 z3:Bool} {Q:aW→SS→Prop} (hx: (ids.map vi)[k]? =some (vi id)) (hk:k<ids.length) (hb:ids.length< 1000000) (hd:d< 1)
  (hQ: ∀T' O' z1 z2 z3,(ZE mv (vi d) es ids vN g2 g5 gk ge (k+1) z1 z2 z3).Sub ⟨T',O'⟩→Q .normal ⟨T',O'⟩):gY E G0 (ZE mv (vi d) es ids vN g2 g5 gk ge k z1 z2 z3) Q:=by
 (conv=>whnf);repeat' ((first| intro g| refine aH.mk _ (hx) ?_| refine st ?_| (first| refine b1 ?_ ?_| refine b2 ?_ ?_| refine Br.mk ?_ ?_) <;>intro hc| exact rfl) <;>conv=>whnf)
 exact hQ _ _ _ _ _ (by(refine⟨?_,?_⟩ <;>repeat' (first| exact True.intro| refine ai ?_| refine And.intro ?_ ?_)))
set_option maxHeartbeats 4000000 in
theorem ZT {mv:V} {d id:Int} {es:List V} {ids:List Int} {vN:List Event} {f:ar} {g2 g5 gk ge k:Nat} {z1 z2 z3:Bool} {Q:aW→SS→Prop} (hx: (ids.map vi)[k]? =some (vi id)) (hk:k<ids.length) (hb:ids.length< 1000000) (hd: ¬d< 1) (ns:eE false .nilp es (vi id)= .done (.eptr f.v 0)) (hf: ¬f.bg=d)
  (hQ: ∀T' O' z1 z2 z3,(ZE mv (vi d) es ids vN g2 g5 gk ge (k+1) z1 z2 z3).Sub ⟨T',O'⟩→Q .normal ⟨T',O'⟩):gY E G0 (ZE mv (vi d) es ids vN g2 g5 gk ge k z1 z2 z3) Q:=by
 (conv=>whnf);repeat' ((first| intro g| refine aH.mk _ (hx) ?_| refine aH.mk _ (ns) ?_| refine st ?_| (first| refine b1 ?_ ?_| refine b2 ?_ ?_| refine Br.mk ?_ ?_) <;>intro hc| exact rfl) <;>conv=>whnf)
 exact hQ _ _ _ _ _ (by(refine⟨?_,?_⟩ <;>repeat' (first| exact True.intro| refine ai ?_| refine And.intro ?_ ?_)))
theorem Y5 {l:List Int} (h:l.length< 1000000):Ev E 149 [.lit 1 (l.map vi)] ⟨.own 1 (l.map vi),[]⟩:=
 Ev.ext (by rw[ace];simp[lr];omega)
set_option maxHeartbeats 4000000 in
theorem aai {mv:V} {d id aas:Int} {es rest:List V} {ids K:List Int} {vN:List Event} {f:ar} {g2 g5 gk ge k:Nat} {z1 z2 z3:Bool} {Q:aW→SS→Prop} (hx: (ids.map vi)[k]? =some (vi id)) (hk:k<ids.length) (hb:ids.length< 1000000) (hd: ¬d< 1) (ns:eE false .nilp es (vi id)= .done (.eptr f.v 0)) (hf:f.bg=d)
  (rK:V.aE mv=true) (bQ:V.aq es=true) (yR:V.aq rest=true) (hKl:K.length≤ids.length)
  (mG:Ev E 149 [.lit 1 (ids.map vi)] ⟨.own 1 (ids.map vi),[]⟩)
  (Z7:Ev E 505 [.msl 1 (ids.map vi) 0 (ids.map vi).length,.fn 506 [.eptr mv 0,.eptr (.mlit es) 0,.eptr (vi id) 0]] ⟨.sl 0 0 0 K.length,[(0,K.map vi++rest)]⟩)
  (YT:Ev E 508 [.lit 1 (K.map vi),.fn 507 [.eptr mv 0,.eptr (vi id) 0]] ⟨.tuple [vi aas,.bool false],[]⟩)
  (hQ: ∀T' O' z1 z2 z3,(ZE mv (vi d) es ids vN g2 g5 gk ge (k+1) z1 z2 z3).Sub ⟨T',O'⟩→Q .normal ⟨T',O'⟩):gY E G0 (ZE mv (vi d) es ids vN g2 g5 gk ge k z1 z2 z3) Q:=by
 have hw:aO (K.map vi++rest) 0 K.length=K.map vi:=wY (by simp)
 rw[←hw] at YT
 have hn:True∧True∧0+K.length≤(K.map vi++rest).length∧V.aq (aO (K.map vi++rest) 0 K.length)=true:=⟨trivial,trivial,by simp,by rw[hw];exact iG _⟩
 (conv=>whnf);repeat' ((first| intro g| refine eY.mk (hn) ?_| refine aH.mk _ (hx) ?_| refine aH.mk _ (ns) ?_| refine ag.mk _ (mG) ?_| refine ag.mk _ (Z7) ?_| refine ag.mk _ (YT) ?_| refine st ?_| (first| refine b1 ?_ ?_| refine b2 ?_ ?_| refine Br.mk ?_ ?_) <;>intro hc| exact rfl| (simp only[List.append,eN,gr,V.aE,V.aq,rK,bQ,cond_true])) <;>conv=>whnf)
 exact hQ _ _ _ _ _ (by(refine⟨?_,?_⟩ <;>repeat' (first| exact True.intro| refine ai ?_| refine And.intro ?_ ?_)))
def evI (w id aas:Int):Event:=⟨2,if 1 <EE (4*w) then EE (4*w) else 1,id,aas,0⟩
set_option maxHeartbeats 4000000 in
theorem aaj {mv:V} {d id aas:Int} {es rest:List V} {ids K:List Int} {vN:List Event} {f:ar} {g2 g5 gk ge k:Nat} {z1 z2 z3:Bool} {Q:aW→SS→Prop} (hx: (ids.map vi)[k]? =some (vi id)) (hk:k<ids.length) (hb:ids.length< 1000000) (hd: ¬d< 1) (ns:eE false .nilp es (vi id)= .done (.eptr f.v 0)) (hf:f.bg=d)
  (rK:V.aE mv=true) (bQ:V.aq es=true) (yR:V.aq rest=true) (hKl:K.length≤ids.length) (acX:vN.length≤k)
  (mG:Ev E 149 [.lit 1 (ids.map vi)] ⟨.own 1 (ids.map vi),[]⟩)
  (Z7:Ev E 505 [.msl 1 (ids.map vi) 0 (ids.map vi).length,.fn 506 [.eptr mv 0,.eptr (.mlit es) 0,.eptr (vi id) 0]] ⟨.sl 0 0 0 K.length,[(0,K.map vi++rest)]⟩)
  (YT:Ev E 508 [.lit 1 (K.map vi),.fn 507 [.eptr mv 0,.eptr (vi id) 0]] ⟨.tuple [vi aas,.bool true],[]⟩)
  (hQ: ∀T' O' z1 z2 z3 ge,(ZE mv (vi d) es ids (vN++[evI f.weight id aas]) g2 g5 gk ge (k+1) z1 z2 z3).Sub ⟨T',O'⟩→Q .normal ⟨T',O'⟩):gY E G0 (ZE mv (vi d) es ids vN g2 g5 gk ge k z1 z2 z3) Q:=by
 have hw:aO (K.map vi++rest) 0 K.length=K.map vi:=wY (by simp)
 rw[←hw] at YT
 have hn:True∧True∧0+K.length≤(K.map vi++rest).length∧V.aq (aO (K.map vi++rest) 0 K.length)=true:=⟨trivial,trivial,by simp,by rw[hw];exact iG _⟩
 have sm:vN.length< 1000000:=by omega
 (conv=>whnf);repeat' ((first| intro g| refine eY.mk (hn) ?_| refine aH.mk _ (hx) ?_| refine aH.mk _ (ns) ?_| refine ag.mk _ (mG) ?_| refine ag.mk _ (Z7) ?_| refine ag.mk _ (YT) ?_| refine st ?_| (first| refine b1 ?_ ?_| refine b2 ?_ ?_| refine Br.mk ?_ ?_) <;>intro hc| exact rfl| (simp only[List.append,eN,gr,V.aE,V.aq,rK,bQ,cond_true])) <;>conv=>whnf)
 exact hQ _ _ _ _ _ _ (by(refine⟨?_,?_⟩ <;>repeat' (first| exact True.intro| refine ai ?_| refine And.intro ?_ ?_)))
end Go.AM
set_option maxRecDepth 20000
namespace Go.AM
def ZK (m:aG) (id:Int):List Int:=YO (YK m) fun o=>decide (jX m id o≠0)
noncomputable def evF (m:aG) (d id:Int):Option Event:=
 if d< 1 then none else match findF m.ah id with
  | none=>none
  | some i=>match m.ah[i]? with
    | none=>none
    | some f=>if f.bg=d then(if 0 < (ZK m id).length then some (evI f.weight id (aak (brd m.an id) (ZK m id))) else none) else none
noncomputable def ZL (m:aG) (d:Int) (k:Nat):List Event:=((YK m).take k).filterMap (evF m d)
noncomputable def ZM (m:aG) (d:Int):List Event:=ZL m d (YK m).length
theorem ZF {m:aG} {d:Int} {k:Nat} {id:Int} (h: (YK m)[k]? =some id):ZL m d (k+1)=ZL m d k++(evF m d id).toList:=by
 unfold ZL
 rw[List.take_add_one,h,Option.toList_some,List.filterMap_append]
 cases hh:evF m d id<;>simp[hh]
theorem Y2 (m:aG) (d:Int) (k:Nat): (ZL m d k).length≤k:=by
 unfold ZL
 exact Nat.le_trans (List.length_filterMap_le ..) (by simp;omega)
theorem Y6 {m:aG} {d id:Int} (h:d< 1):evF m d id=none:=by unfold evF;rw[if_pos h]
theorem Y7 {m:aG} {d id:Int} (h: ¬d< 1) {i:Nat} {f:ar} (hi:findF m.ah id=some i) (hf:m.ah[i]? =some f) (hd: ¬f.bg=d):evF m d id=none:=by
 unfold evF;rw[if_neg h];simp only[hi,hf,if_neg hd]
theorem Zf {m:aG} {d id:Int} (h: ¬d< 1) {i:Nat} {f:ar} (hi:findF m.ah id=some i) (hf:m.ah[i]? =some f) (hd:f.bg=d) (hn: ¬0 < (ZK m id).length):evF m d id=none:=by
 unfold evF;rw[if_neg h];simp only[hi,hf,if_pos hd,if_neg hn]
theorem Zg {m:aG} {d id:Int} (h: ¬d< 1) {i:Nat} {f:ar} (hi:findF m.ah id=some i) (hf:m.ah[i]? =some f) (hd:f.bg=d) (hn:0 < (ZK m id).length):evF m d id=some (evI f.weight id (aak (brd m.an id) (ZK m id))):=by
 unfold evF;rw[if_neg h];simp only[hi,hf,if_pos hd,if_pos hn]
theorem YQ {m:aG} {k:Nat} {id:Int} (h: (YK m)[k]? =some id): ∃ (i:Nat) (f:ar),findF m.ah id=some i∧m.ah[i]? =some f:=by
 obtain⟨j,g,_,hj,hg⟩:=(YW m id).1 (List.mem_of_getElem? h)
 cases hq:findF m.ah id with
 | none=>exact absurd hg (Ax hq j g hj)
 | some i=>
   obtain⟨f,hf,_⟩:=cu hq
   exact⟨i,f,rfl,hf⟩
def aat (m:aG):Prop:=aaE m.an∧m.ah.length< 1000000
set_option maxHeartbeats 4000000 in
theorem abC {m:aG} (gO:aat m) (d:Int):Ev E 492 [m.v,vi d] ⟨.own 5 ((ZM m d).map Event.v),[]⟩:=by
 have hs:EP m:=⟨gO.1.1,gO.2⟩
 have hk:=yt false hs.2
 have hm:gv E 500=[]:=rfl
 have h0:V.aE m.v=true:=aG.ug false m
 have hp:V.aq [m.v]=true:=by simp only[V.aq,h0];rfl
 refine Ev.bU abf (abg _) rfl ?_
 (conv=>whnf);repeat' ((first| refine tg hm hp hk (tq ..) ?_| intro g| refine st ?_| (first| refine b1 ?_ ?_| refine b2 ?_ ?_| refine Br.mk ?_ ?_) <;>intro hc| exact rfl) <;>conv=>whnf)
 rename_i g2 g4 g5 g6
 refine all_keys hs (d:=d) (g2:=g2) (g5:=g5) (g6:=g6) (gi:=g) ?_ rfl rfl fun gk=> ?_
 · (refine⟨?_,?_⟩ <;>repeat' (first| exact True.intro| refine ai ?_| refine And.intro ?_ ?_))
 clear hk hm hp
 have GD:=Y0 m
 have y6:=hs.2
 (conv=>whnf);repeat' ((first| intro g| refine st ?_| (first| refine b1 ?_ ?_| refine b2 ?_ ?_| refine Br.mk ?_ ?_) <;>intro hc| exact rfl) <;>conv=>whnf)
 refine ba.by (fun ((k,ge,z1,z2,z3):Nat×Nat×Bool×Bool×Bool)=>ZE m.v (vi d) (b5 false m.ah m.ah.length) (YK m) (ZL m d k) g2 g5 gk ge k z1 z2 z3) (fun (k,_)=>k≤(YK m).length) (fun (k,_)=> (YK m).length - k) (0,g,false,false,false) ?_ (by simp) ?_
 · (refine⟨?_,?_⟩ <;>repeat' (first| exact True.intro| refine ai ?_| refine And.intro ?_ ?_))
 rintro⟨k,ge,z1,z2,z3⟩ hk
 try dsimp only at hk
 by_cases bk:k< (YK m).length
 · obtain⟨id,RX⟩: ∃id,(YK m)[k]? =some id:=⟨_,aL bk⟩
   have ZN: ((YK m).map vi)[k]? =some (vi id):=by simp[RX]
   have Z8: (YK m).length< 1000000:=by omega
   have oK:=ZF (d:=d) RX
   obtain⟨i,f,hi,hf⟩:=YQ RX
   have ns:=bO (k:=false) hi hf
   have sm:=Y2 m d k
   by_cases hd:d< 1
   · rw[Y6 hd] at oK
     refine ZS ZN bk Z8 hd fun T' O' z1 z2 z3 hq=>bc.mk (k+1,ge,z1,z2,z3) (by first| omega| (dsimp only;omega)) (by omega) ?_
     simp only[oK,Option.toList_none,List.append_nil]
     exact hq
   by_cases Zb:f.bg=d
   · obtain⟨rest,hr,Z7⟩:=aaF Z8 (abD hs id)
     have ZU:Ev E 505 [.msl 1 ((YK m).map vi) 0 ((YK m).map vi).length,.fn 506 [.eptr m.v 0,.eptr (YL m) 0,.eptr (vi id) 0]] ⟨.sl 0 0 0 (ZK m id).length,[(0,(ZK m id).map vi++rest)]⟩:=by rw[List.length_map];exact Z7
     have hnl: (ZK m id).length≤(YK m).length:=ZG ..
     have YT:=Zv (l:=ZK m id) (by omega) (abE gO.1 id)
     by_cases hn:0 < (ZK m id).length
     · rw[Zg hd hi hf Zb hn] at oK
       simp only[hn,decide_true] at YT
       refine aaj ZN bk Z8 hd ns Zb h0 (jo ..) hr hnl sm (Y5 Z8) ZU YT fun T' O' z1 z2 z3 ge hq=>bc.mk (k+1,ge,z1,z2,z3) (by first| omega| (dsimp only;omega)) (by omega) ?_
       simp only[oK,Option.toList_some]
       exact hq
     · rw[Zf hd hi hf Zb hn] at oK
       simp only[hn,decide_false] at YT
       refine aai ZN bk Z8 hd ns Zb h0 (jo ..) hr hnl (Y5 Z8) ZU YT fun T' O' z1 z2 z3 hq=>bc.mk (k+1,ge,z1,z2,z3) (by first| omega| (dsimp only;omega)) (by omega) ?_
       simp only[oK,Option.toList_none,List.append_nil]
       exact hq
   · rw[Y7 hd hi hf Zb] at oK
     refine ZT ZN bk Z8 hd ns Zb fun T' O' z1 z2 z3 hq=>bc.mk (k+1,ge,z1,z2,z3) (by first| omega| (dsimp only;omega)) (by omega) ?_
     simp only[oK,Option.toList_none,List.append_nil]
     exact hq
 · obtain rfl:k=(YK m).length:=by omega
   have sm:=Y2 m d (YK m).length
   (conv=>whnf);repeat' ((first| intro g| refine st ?_| (first| refine b1 ?_ ?_| refine b2 ?_ ?_| refine Br.mk ?_ ?_) <;>intro hc| exact rfl) <;>conv=>whnf)
   trace_state
end Go.AM
