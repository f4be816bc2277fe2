/-
  Texts of the proof, joined by program: FkE, FkF, FkG, FkH. Own work.
-/
import Derived.Test.YtinmckmdbepjcaaGreatLc
set_option linter.unusedSimpArgs false
set_option linter.unusedVariables false
set_option maxRecDepth 20000
namespace Go.AM
def aaB:V→Int
 | .tuple (.int _ n::_)=>n
 | _=>0
theorem aan (k:Bool) (fs:List ar): ∀n,∀e ∈ b5 k fs n,∃ (i:Nat) (f:ar),fs[i]? =some f∧e= .tuple [vi f.id,Af k i f]
 | 0,e,h=>by simp[b5] at h
 | n+1,e,h=>by
   unfold b5 at h
   split at h
   · rename_i f hf
     split at h
     · rcases List.mem_append.1 h with h| h
       · exact aan k fs n e h
       · simp at h;exact⟨n,f,hf,h⟩
     · exact aan k fs n e h
   · exact aan k fs n e h
def aas (fs:List ar) (n:Nat):List Int:=(b5 false fs n).map aaB
theorem aaz (fs:List ar): ∀n,(aas fs n).length≤n
 | 0=>by simp[aas,b5]
 | n+1=>by
   have ih:=aaz fs n
   simp only[aas,List.length_map] at ih ⊢
   unfold b5
   split
   · split
     · simp;omega
     · omega
   · omega
theorem aaK ( fs:List ar) (id:Int): ∀n,id ∈ aas fs n↔ ∃ (i:Nat) (f:ar),i<n∧fs[i]? =some f∧f.id=id
 | 0=>by simp[aas,b5]
 | n+1=>    by
   have ih:=aaK fs id n
   have wy: (∃ (i:Nat) (f:ar),i<n+1∧fs[i]? =some f∧f.id=id)↔(∃ (i:Nat) (f:ar),i<n∧fs[i]? =some f∧f.id=id)∨ ∃f,fs[n]? =some f∧f.id=id:=by
     constructor
     · rintro⟨i,f,h1,h2,h3⟩
       rcases(by omega:i<n∨i=n) with h| rfl
       · exact .inl ⟨i,f,h,h2,h3⟩
       · exact .inr ⟨f,h2,h3⟩
     · rintro(⟨i,f,h1,h2,h3⟩ | ⟨f,h2,h3⟩)
       · exact⟨i,f,by omega,h2,h3⟩
       · exact⟨n,f,by omega,h2,h3⟩
   rw[wy,←ih]
   unfold aas
   conv=>lhs;unfold b5
   cases hf:fs[n]? with
   | none=>simp
   | some f=>
     simp only[Option.some.injEq]
     by_cases hn:findF (fs.take n) f.id=none
     · simp only[hn,if_true,List.map_append,List.mem_append]
       simp[aaB,eq_comm]
     · simp only[hn,if_false]
       constructor
       · exact .inl
       · rintro(h| ⟨g,rfl,rfl⟩)
         · exact h
         · cases hq:findF (fs.take n) f.id with
           | none=>exact absurd hq hn
           | some i=>
             obtain⟨g,hg,hgi,_⟩:=cu hq
             have GD:i<n:=by have:=(List.getElem?_eq_some_iff.1 hg).1;simp at this;omega
             exact ih.2 ⟨i,g,GD,by rw[List.getElem?_take] at hg;simpa [GD] using hg,hgi⟩
theorem aaP (fs:List ar): ∀n,(aas fs n).Nodup
 | 0=>by simp[aas,b5]
 | n+1=>by
   have ih:=aaP fs n
   unfold aas at ih ⊢
   unfold b5
   split
   · rename_i f hf
     split
     · rename_i hn
       rw[List.map_append,List.nodup_append]
       refine⟨ih,by simp,fun a ha b hb=> ?_⟩
       simp[aaB] at hb
       subst hb
       intro e
       obtain⟨i,g,h1,h2,h3⟩:=(aaK fs a n).1 ha
       exact Ax hn i g (by rw[List.getElem?_take];simpa [h1] using h2) (h3.trans e)
     · exact ih
   · exact ih
def aag (m:aG):List Int:=kH (aas m.ah m.ah.length)
theorem aao (l:List Int): (kH l).Perm l:=pg MC l
theorem aap (l:List Int): (kH l).Pairwise (MC · ·):=qc (fun a b c h1 h2=>by simp[MC] at h1 h2 ⊢;omega) (fun a b=>by simp[MC];omega) l
theorem aa2 {l l':List Int} (h:l.Perm l'):kH l=kH l':=
 Cn (le:=MC) (fun a b h1 h2=>by simp[MC] at h1 h2;omega) ((aao l).trans (h.trans (aao l').symm)) (aap l) (aap l')
theorem aau (m:aG): (aag m).length≤m.ah.length:=by
 unfold aag;rw[nU];exact aaz ..
theorem abC {l:List Int} (h:l.Pairwise (MC · ·)) (hn:l.Nodup):l.Pairwise (· < ·):=
 (h.and hn).imp fun h=>by simp[MC] at h;omega
theorem aaZ (m:aG): (aag m).Pairwise (· < ·):=
 abC (aap _) ((aao _).nodup_iff.2 (aaP ..))
theorem aaQ (m:aG) (id:Int):id ∈ aag m↔ ∃ (i:Nat) (f:ar),i<m.ah.length∧m.ah[i]? =some f∧f.id=id:=
 (aao _).mem_iff.trans (aaK ..)
theorem abD {l l':List Int} (h:l.Pairwise (· < ·)) (h':l'.Pairwise (· < ·)) (hm: ∀x,x ∈ l↔x ∈ l'):l=l':=by
 have n1:l.Nodup:=h.imp fun h=>by omega
 have n2:l'.Nodup:=h'.imp fun h=>by omega
 have hp:l.Perm l':=(List.perm_ext_iff_of_nodup n1 n2).2 hm
 exact hp.eq_of_pairwise (fun a b _ _ h1 h2=>by omega) h h'
def aaq (fs:List ar):Nat→List Int
 | 0=> []
 | n+1=>match fs[n]? with
   | some f=>Az (aaq fs n) f.id
   | none=>aaq fs n
theorem aa3 {fs:List ar} {n:Nat} {f:ar} (h:fs[n]? =some f):aaq fs (n+1)=Az (aaq fs n) f.id:=by simp only[aaq,h]
theorem abe (fs:List ar): ∀n,(aaq fs n).length≤n
 | 0=>by simp[aaq]
 | n+1=>by
   have ih:=abe fs n
   unfold aaq
   split
   · have:=E1 (aaq fs n) (by assumption:ar).id;omega
   · omega
theorem aav (fs:List ar): ∀n,(aaq fs n).Pairwise (· < ·)
 | 0=>by simp[aaq]
 | n+1=>by
   unfold aaq
   split
   · exact aaR (aav fs n) _
   · exact aav fs n
theorem abf (fs:List ar) (id:Int): ∀n,n≤fs.length→(id ∈ aaq fs n↔ ∃ (i:Nat) (f:ar),i<n∧fs[i]? =some f∧f.id=id)
 | 0,_=>by simp[aaq]
 | n+1,hn=>by
   have ih:=abf fs id n (by omega)
   obtain⟨f,hf⟩: ∃f,fs[n]? =some f:=⟨_,aL (by omega)⟩
   rw[aa3 hf,abH,ih]
   constructor
   · rintro(⟨i,g,h1,h2,h3⟩ | rfl)
     · exact⟨i,g,by omega,h2,h3⟩
     · exact⟨n,f,by omega,hf,rfl⟩
   · rintro⟨i,g,h1,h2,h3⟩
     rcases(by omega:i<n∨i=n) with h| rfl
     · exact .inl ⟨i,g,h,h2,h3⟩
     · rw[hf] at h2;injection h2 with h2;subst h2;exact .inr h3.symm
theorem abI (m:aG):aaq m.ah m.ah.length=aag m:=
 abD (aav ..) (aaZ m) fun x=> (abf _ _ _ (Nat.le_refl _)).trans (aaQ m x).symm
theorem aa4 {f:Int→Int} {l:List Int} (x:Int): ∀k,k≤l.length→aaj f (l++[x]) k=aaj f l k
 | 0,_=>rfl
 | k+1,h=>by
   have ih:=aa4 (f:=f) (l:=l) x k (by omega)
   obtain⟨y,hy⟩: ∃y,l[k]? =some y:=⟨_,aL (by omega)⟩
   have GF: (l++[x])[k]? =some y:=by rw[List.getElem?_append_left (by omega)];exact hy
   rw[aar hy,aar GF,ih]
theorem abE {f:Int→Int} {l:List Int} (x:Int):aak f (l++[x])=if l.length=0∨f (aak f l) <f x then x else aak f l:=by
 have hx: (l++[x])[l.length]? =some x:=by simp
 have e: (l++[x]).length=l.length+1:=by simp
 rw[aak,e,aar hx,aa4 x _ (Nat.le_refl _)]
 rfl
noncomputable def rbN (p:Int→Bool) (f:Int→Int) (l:List Int):Nat→Int×Bool
 | 0=> (0,false)
 | n+1=>match l[n]? with
   | some x=>if p x=false∧((rbN p f l n).2=false∨f (rbN p f l n).1 <f x) then(x,true) else rbN p f l n
   | none=>rbN p f l n
theorem abg {p:Int→Bool} {f:Int→Int} {l:List Int} {n:Nat} {x:Int} (h:l[n]? =some x):rbN p f l (n+1)=if p x=false∧((rbN p f l n).2=false∨f (rbN p f l n).1 <f x) then(x,true) else rbN p f l n:=by simp only[rbN,h]
theorem abJ (p:Int→Bool) (f:Int→Int) (l:List Int): ∀n,n≤l.length→rbN p f l n=(aak f (aah (l.take n) p),decide (0 < (aah (l.take n) p).length))
 | 0,_=>by simp[rbN,aah,aak,aaj]
 | n+1,h=>by
   have ih:=abJ p f l n (by omega)
   obtain⟨x,hx⟩: ∃x,l[n]? =some x:=⟨_,aL (by omega)⟩
   rw[abg hx,aaF hx,ih]
   cases hp:p x with
   | true=>simp
   | false=>
     simp only[true_and,if_neg Bool.false_ne_true]
     rw[abE]
     generalize aah (l.take n) p=L
     by_cases h0:L.length=0
     · simp[h0]
     · by_cases h1:f (aak f L) <f x
       · simp[h1]
       · have:0 <L.length:=by omega
         simp[h0,h1,this]
end Go.AM
set_option maxRecDepth 20000
namespace Go.AM
set_option maxHeartbeats 4000000 in
theorem all_keys {m:aG} (hs:EP m) {d:Int} {Q:aW→SS→Prop} {S:SS} {g2 g5 g6 gi:Nat}
   (hS: (⟨[(1,vi d),(2,.ptr 48 g2 0 0),(5,.ptr 96 g5 0 0),(6,.sl 113 g6 0 0),(18,.it 304 gi)],[(48,⟨g2,4,false,false,some [m.v]⟩),(96,⟨g5,1,false,false,some [aaw m]⟩),(113,⟨g6,1,true,false,some []⟩),(304,⟨gi,0,false,false,none⟩)]⟩:SS).Sub ⟨S.T,(304,⟨gi,0,false,false,none⟩)::S.O⟩)
   (hT:lk S.T 18=some (.it 304 gi))
   (hI:lk S.O 304=some ⟨gi,0,false,false,some [aaw m]⟩)
   (hQ: ∀g,Q .normal ⟨[(1,vi d),(2,.ptr 48 g2 0 0),(5,.ptr 96 g5 0 0),(6,.sl 113 g 0 (aag m).length)],[(48,⟨g2,4,false,false,some [m.v]⟩),(96,⟨g5,1,false,false,some [aaw m]⟩),(113,⟨g,1,true,false,some ((aag m).map vi)⟩)]⟩):
   Ey E 18 19 21 0 [1,2,5,6] [48,96,113] GX GY GZ S Q:=by
 refine Ey.by (r:=304) (g:=gi) (es:=b5 false m.ah m.ah.length) (fun L=> ⟨[(1,vi d),(2,.ptr 48 g2 0 0),(5,.ptr 96 g5 0 0),(6,.sl 113 (g6+L.length) 0 (L.map aaB).length),(18,.it 304 gi)],[(48,⟨g2,4,false,false,some [m.v]⟩),(96,⟨g5,1,false,false,some [aaw m]⟩),(113,⟨g6+L.length,1,true,false,some ((L.map aaB).map vi)⟩),(304,⟨gi,0,false,false,none⟩)]⟩)
   ⟨[(1,vi d),(2,.ptr 48 g2 0 0),(5,.ptr 96 g5 0 0),(6,.sl 113 (g6+(aag m).length) 0 (aag m).length)],[(48,⟨g2,4,false,false,some [m.v]⟩),(96,⟨g5,1,false,false,some [aaw m]⟩),(113,⟨g6+(aag m).length,1,true,false,some ((aag m).map vi)⟩)]⟩ ?_ hI ?_ (fun _=>rfl) (fun _=> ⟨_,rfl,rfl⟩) ?_ ?_ ?_ rfl rfl rfl rfl ?_
 · exact hT
 · exact hS
 · intro e he
   obtain⟨i,f,_,rfl⟩:=aan _ _ _ e he
   exact⟨_,_,rfl⟩
 · intro L k v rest hL
   obtain⟨i,f,hf,he⟩:=aan false m.ah m.ah.length (.tuple [k,v]) (hL.mem_iff.1 (by simp))
   injection he with he
   obtain⟨rfl,rfl⟩:k=vi f.id∧v=Af false i f:=by simpa using he
   have hlen: (L.map aaB).length<m.ah.length:=by
    have h1:=hL.length_eq
    have h2:=aaz m.ah m.ah.length
    simp[aas] at h1 h2 ⊢;omega
   have hm:=hs.2
   have adZ:L.length≤m.ah.length:=by rw[List.length_map] at hlen;omega
   have ad0:L.length< 1000000:=by omega
   (conv=>whnf);repeat' ((first| intro g| refine st ?_| (first| refine b1 ?_ ?_| refine b2 ?_ ?_| refine Br.mk ?_ ?_) <;>intro hc| exact rfl) <;>conv=>whnf)
   refine⟨⟨rfl,_,rfl,rfl⟩,?_⟩
   (conv=>whnf);repeat' ((first| refine Or.inr ?_| intro g| refine st ?_| (first| refine b1 ?_ ?_| refine b2 ?_ ?_| refine Br.mk ?_ ?_) <;>intro hc| exact rfl) <;>conv=>whnf)
   have LO:aO ((L.map aaB).map vi) 0 (L.map aaB).length=(L.map aaB).map vi:=bz (by simp)
   have e1: ∀e:V,g6+(L++[e]).length=g6+L.length+1:=fun e=>by rw[List.length_append];rfl
   simp only[e1,LO]
   (refine⟨?_,?_⟩ <;>repeat' (first| exact True.intro| refine And.intro ((by(conv=>whnf);simp[aaB];done)) ?_| refine ai ?_| refine And.intro ?_ ?_))
 · intro L hL
   have hlen: (L.map aaB).length≤m.ah.length:=by
    have h1:=hL.length_eq
    have h2:=aaz m.ah m.ah.length
    simp[aas] at h1 h2 ⊢;omega
   have hm:=hs.2
   have L7:=HC (l:=L.map aaB) (by omega)
   have GA: (aag m)=kH (L.map aaB):=(aa2 (hL.map aaB)).symm
   have y6: (aag m).length=L.length:=by rw[GA,nU,List.length_map]
   rw[GA,nU,List.length_map]
   have adV:Ev E 132 [.msl 1 ((L.map aaB).map vi) 0 L.length] ⟨.tuple [],[(0,(kH (L.map aaB)).map vi)]⟩:=by rw[List.length_map] at L7;exact L7
   (conv=>whnf);repeat' ((first| intro g| refine ag.mk _ (adV) ?_| refine st ?_| (first| refine b1 ?_ ?_| refine b2 ?_ ?_| refine Br.mk ?_ ?_) <;>intro hc| exact rfl) <;>conv=>whnf)
   refine⟨?_,?_⟩
   · (repeat' (first| exact True.intro| refine And.intro ((by(conv=>whnf);simp)) ?_| refine ai ?_| refine And.intro ?_ ?_))
   · (repeat' (first| exact True.intro| refine ai ?_| refine And.intro ?_ ?_))
 · exact hQ _
end Go.AM
set_option maxRecDepth 20000
namespace Go.AM
def abd (mv d:V) (es:List V) (ids:List Int) (vN:List Event) (g2 g5 gk ge k:Nat) (z1 z2 z3:Bool):SS:=
 ⟨[(1,d),(2,.ptr 48 g2 0 0),(5,.ptr 96 g5 0 0),(6,.sl 113 gk 0 ids.length),(8,.sl 145 ge 0 vN.length),(29,.sl 113 gk 0 ids.length),(30,aF ids.length),(31,aF k)],
  [(48,⟨g2,4,false,z1,some [mv]⟩),(96,⟨g5,1,false,z2,some [.mlit es]⟩),(113,⟨gk,1,true,z3,some (ids.map vi)⟩),(145,⟨ge,5,true,false,some (vN.map Event.v)⟩)]⟩
set_option maxHeartbeats 4000000 in
theorem abK {mv:V} {d id:Int} {es:List V} {ids:List Int} {vN:List Event} {g2 g5 gk ge k:Nat} {z1 z2 z3:Bool} {Q:aW→SS→Prop} (hx: (ids.map vi)[k]? =some (vi id)) (hk:k<ids.length) (hb:ids.length< 1000000) (hd:d< 1)
  (hQ: ∀T' O' z1 z2 z3,(abd mv (vi d) es ids vN g2 g5 gk ge (k+1) z1 z2 z3).Sub ⟨T',O'⟩→Q .normal ⟨T',O'⟩):gY E G0 (abd mv (vi d) es ids vN g2 g5 gk ge k z1 z2 z3) Q:=by
 (conv=>whnf);repeat' ((first| intro g| refine aH.mk _ (hx) ?_| refine st ?_| (first| refine b1 ?_ ?_| refine b2 ?_ ?_| refine Br.mk ?_ ?_) <;>intro hc| exact rfl) <;>conv=>whnf)
 exact hQ _ _ _ _ _ (by(refine⟨?_,?_⟩ <;>repeat' (first| exact True.intro| refine ai ?_| refine And.intro ?_ ?_)))
set_option maxHeartbeats 4000000 in
theorem abL {mv:V} {d id:Int} {es:List V} {ids:List Int} {vN:List Event} {f:ar} {g2 g5 gk ge k:Nat} {z1 z2 z3:Bool} {Q:aW→SS→Prop} (hx: (ids.map vi)[k]? =some (vi id)) (hk:k<ids.length) (hb:ids.length< 1000000) (hd: ¬d< 1) (ns:eE false .nilp es (vi id)= .done (.eptr f.v 0)) (hf: ¬f.bg=d)
  (hQ: ∀T' O' z1 z2 z3,(abd mv (vi d) es ids vN g2 g5 gk ge (k+1) z1 z2 z3).Sub ⟨T',O'⟩→Q .normal ⟨T',O'⟩):gY E G0 (abd mv (vi d) es ids vN g2 g5 gk ge k z1 z2 z3) Q:=by
 (conv=>whnf);repeat' ((first| intro g| refine aH.mk _ (hx) ?_| refine aH.mk _ (ns) ?_| refine st ?_| (first| refine b1 ?_ ?_| refine b2 ?_ ?_| refine Br.mk ?_ ?_) <;>intro hc| exact rfl) <;>conv=>whnf)
 exact hQ _ _ _ _ _ (by(refine⟨?_,?_⟩ <;>repeat' (first| exact True.intro| refine ai ?_| refine And.intro ?_ ?_)))
theorem aa5 {l:List Int} (h:l.length< 1000000):Ev E 149 [.lit 1 (l.map vi)] ⟨.own 1 (l.map vi),[]⟩:=
 Ev.ext (by rw[adz];simp[lr];omega)
set_option maxHeartbeats 4000000 in
theorem ab1 {mv:V} {d id aai:Int} {es rest:List V} {ids K:List Int} {vN:List Event} {f:ar} {g2 g5 gk ge k:Nat} {z1 z2 z3:Bool} {Q:aW→SS→Prop} (hx: (ids.map vi)[k]? =some (vi id)) (hk:k<ids.length) (hb:ids.length< 1000000) (hd: ¬d< 1) (ns:eE false .nilp es (vi id)= .done (.eptr f.v 0)) (hf:f.bg=d)
  (rK:V.aE mv=true) (bQ:V.aq es=true) (yR:V.aq rest=true) (hKl:K.length≤ids.length)
  (mG:Ev E 149 [.lit 1 (ids.map vi)] ⟨.own 1 (ids.map vi),[]⟩)
  (abM:Ev E 505 [.msl 1 (ids.map vi) 0 (ids.map vi).length,.fn 506 [.eptr mv 0,.eptr (.mlit es) 0,.eptr (vi id) 0]] ⟨.sl 0 0 0 K.length,[(0,K.map vi++rest)]⟩)
  (aaC:Ev E 508 [.lit 1 (K.map vi),.fn 507 [.eptr mv 0,.eptr (vi id) 0]] ⟨.tuple [vi aai,.bool false],[]⟩)
  (hQ: ∀T' O' z1 z2 z3,(abd mv (vi d) es ids vN g2 g5 gk ge (k+1) z1 z2 z3).Sub ⟨T',O'⟩→Q .normal ⟨T',O'⟩):gY E G0 (abd mv (vi d) es ids vN g2 g5 gk ge k z1 z2 z3) Q:=by
 have hw:aO (K.map vi++rest) 0 K.length=K.map vi:=wY (by simp)
 rw[←hw] at aaC
 have hn:True∧True∧0+K.length≤(K.map vi++rest).length∧V.aq (aO (K.map vi++rest) 0 K.length)=true:=⟨trivial,trivial,by simp,by rw[hw];exact iG _⟩
 (conv=>whnf);repeat' ((first| intro g| refine eY.mk (hn) ?_| refine aH.mk _ (hx) ?_| refine aH.mk _ (ns) ?_| refine ag.mk _ (mG) ?_| refine ag.mk _ (abM) ?_| refine ag.mk _ (aaC) ?_| refine st ?_| (first| refine b1 ?_ ?_| refine b2 ?_ ?_| refine Br.mk ?_ ?_) <;>intro hc| exact rfl| (simp only[List.append,eN,gr,V.aE,V.aq,rK,bQ,cond_true])) <;>conv=>whnf)
 exact hQ _ _ _ _ _ (by(refine⟨?_,?_⟩ <;>repeat' (first| exact True.intro| refine ai ?_| refine And.intro ?_ ?_)))
def evI (w id aai:Int):Event:=⟨2,if 1 <EE (4*w) then EE (4*w) else 1,id,aai,0⟩
set_option maxHeartbeats 4000000 in
theorem ab2 {mv:V} {d id aai:Int} {es rest:List V} {ids K:List Int} {vN:List Event} {f:ar} {g2 g5 gk ge k:Nat} {z1 z2 z3:Bool} {Q:aW→SS→Prop} (hx: (ids.map vi)[k]? =some (vi id)) (hk:k<ids.length) (hb:ids.length< 1000000) (hd: ¬d< 1) (ns:eE false .nilp es (vi id)= .done (.eptr f.v 0)) (hf:f.bg=d)
  (rK:V.aE mv=true) (bQ:V.aq es=true) (yR:V.aq rest=true) (hKl:K.length≤ids.length) (ad2:vN.length≤k)
  (mG:Ev E 149 [.lit 1 (ids.map vi)] ⟨.own 1 (ids.map vi),[]⟩)
  (abM:Ev E 505 [.msl 1 (ids.map vi) 0 (ids.map vi).length,.fn 506 [.eptr mv 0,.eptr (.mlit es) 0,.eptr (vi id) 0]] ⟨.sl 0 0 0 K.length,[(0,K.map vi++rest)]⟩)
  (aaC:Ev E 508 [.lit 1 (K.map vi),.fn 507 [.eptr mv 0,.eptr (vi id) 0]] ⟨.tuple [vi aai,.bool true],[]⟩)
  (hQ: ∀T' O' z1 z2 z3 ge,(abd mv (vi d) es ids (vN++[evI f.weight id aai]) g2 g5 gk ge (k+1) z1 z2 z3).Sub ⟨T',O'⟩→Q .normal ⟨T',O'⟩):gY E G0 (abd mv (vi d) es ids vN g2 g5 gk ge k z1 z2 z3) Q:=by
 have hw:aO (K.map vi++rest) 0 K.length=K.map vi:=wY (by simp)
 rw[←hw] at aaC
 have hn:True∧True∧0+K.length≤(K.map vi++rest).length∧V.aq (aO (K.map vi++rest) 0 K.length)=true:=⟨trivial,trivial,by simp,by rw[hw];exact iG _⟩
 have sm:vN.length< 1000000:=by omega
 (conv=>whnf);repeat' ((first| intro g| refine eY.mk (hn) ?_| refine aH.mk _ (hx) ?_| refine aH.mk _ (ns) ?_| refine ag.mk _ (mG) ?_| refine ag.mk _ (abM) ?_| refine ag.mk _ (aaC) ?_| refine st ?_| (first| refine b1 ?_ ?_| refine b2 ?_ ?_| refine Br.mk ?_ ?_) <;>intro hc| exact rfl| (simp only[List.append,eN,gr,V.aE,V.aq,rK,bQ,cond_true])) <;>conv=>whnf)
 exact hQ _ _ _ _ _ _ (by(refine⟨?_,?_⟩ <;>repeat' (first| exact True.intro| refine ai ?_| refine And.intro ?_ ?_)))
end Go.AM
set_option maxRecDepth 20000
namespace Go.AM
def nbs (m:aG) (id:Int):List Int:=aah (aag m) fun o=>decide (jX m id o≠0)
noncomputable def evF (m:aG) (d id:Int):Option Event:=
 if d< 1 then none else match findF m.ah id with
  | none=>none
  | some i=>match m.ah[i]? with
    | none=>none
    | some f=>if f.bg=d then(if 0 < (nbs m id).length then some (evI f.weight id (aak (brd m.an id) (nbs m id))) else none) else none
noncomputable def abh (m:aG) (d:Int) (k:Nat):List Event:=((aag m).take k).filterMap (evF m d)
noncomputable def acE (m:aG) (d:Int):List Event:=abh m d (aag m).length
theorem aa6 {m:aG} {d:Int} {k:Nat} {id:Int} (h: (aag m)[k]? =some id):abh m d (k+1)=abh m d k++(evF m d id).toList:=by
 unfold abh
 rw[List.take_add_one,h,Option.toList_some,List.filterMap_append]
 cases hh:evF m d id<;>simp[hh]
theorem aax (m:aG) (d:Int) (k:Nat): (abh m d k).length≤k:=by
 unfold abh
 exact Nat.le_trans (List.length_filterMap_le ..) (by simp;omega)
theorem aa7 {m:aG} {d id:Int} (h:d< 1):evF m d id=none:=by unfold evF;rw[if_pos h]
theorem aa8 {m:aG} {d id:Int} (h: ¬d< 1) {i:Nat} {f:ar} (hi:findF m.ah id=some i) (hf:m.ah[i]? =some f) (hd: ¬f.bg=d):evF m d id=none:=by
 unfold evF;rw[if_neg h];simp only[hi,hf,if_neg hd]
theorem abi {m:aG} {d id:Int} (h: ¬d< 1) {i:Nat} {f:ar} (hi:findF m.ah id=some i) (hf:m.ah[i]? =some f) (hd:f.bg=d) (hn: ¬0 < (nbs m id).length):evF m d id=none:=by
 unfold evF;rw[if_neg h];simp only[hi,hf,if_pos hd,if_neg hn]
theorem abj {m:aG} {d id:Int} (h: ¬d< 1) {i:Nat} {f:ar} (hi:findF m.ah id=some i) (hf:m.ah[i]? =some f) (hd:f.bg=d) (hn:0 < (nbs m id).length):evF m d id=some (evI f.weight id (aak (brd m.an id) (nbs m id))):=by
 unfold evF;rw[if_neg h];simp only[hi,hf,if_pos hd,if_pos hn]
theorem aaI {m:aG} {k:Nat} {id:Int} (h: (aag m)[k]? =some id): ∃ (i:Nat) (f:ar),findF m.ah id=some i∧m.ah[i]? =some f:=by
 obtain⟨j,g,_,hj,hg⟩:=(aaQ m id).1 (List.mem_of_getElem? h)
 cases hq:findF m.ah id with
 | none=>exact absurd hg (Ax hq j g hj)
 | some i=>
   obtain⟨f,hf,_⟩:=cu hq
   exact⟨i,f,rfl,hf⟩
def abN (m:aG):Prop:=ab3 m.an∧m.ah.length< 1000000
set_option maxHeartbeats 4000000 in
theorem acF {m:aG} (gO:abN m) (d:Int):Ev E 492 [m.v,vi d] ⟨.own 5 ((acE m d).map Event.v),[]⟩:=by
 have hs:EP m:=⟨gO.1.1,gO.2⟩
 have hk:=yt false hs.2
 have hm:gv E 500=[]:=rfl
 have h0:V.aE m.v=true:=aG.ug false m
 have hp:V.aq [m.v]=true:=by simp only[V.aq,h0];rfl
 refine Ev.bU ac5 (ac6 _) rfl ?_
 (conv=>whnf);repeat' ((first| refine tg hm hp hk (tq ..) ?_| intro g| refine st ?_| (first| refine b1 ?_ ?_| refine b2 ?_ ?_| refine Br.mk ?_ ?_) <;>intro hc| exact rfl) <;>conv=>whnf)
 rename_i g2 g4 g5 g6
 refine all_keys hs (d:=d) (g2:=g2) (g5:=g5) (g6:=g6) (gi:=g) ?_ rfl rfl fun gk=> ?_
 · (refine⟨?_,?_⟩ <;>repeat' (first| exact True.intro| refine ai ?_| refine And.intro ?_ ?_))
 clear hk hm hp
 have GD:=aau m
 have y6:=hs.2
 (conv=>whnf);repeat' ((first| intro g| refine st ?_| (first| refine b1 ?_ ?_| refine b2 ?_ ?_| refine Br.mk ?_ ?_) <;>intro hc| exact rfl) <;>conv=>whnf)
 refine ba.by (fun ((k,ge,z1,z2,z3):Nat×Nat×Bool×Bool×Bool)=>abd m.v (vi d) (b5 false m.ah m.ah.length) (aag m) (abh m d k) g2 g5 gk ge k z1 z2 z3) (fun (k,_)=>k≤(aag m).length) (fun (k,_)=> (aag m).length - k) (0,g,false,false,false) ?_ (by simp) ?_
 · (refine⟨?_,?_⟩ <;>repeat' (first| exact True.intro| refine ai ?_| refine And.intro ?_ ?_))
 rintro⟨k,ge,z1,z2,z3⟩ hk
 try dsimp only at hk
 by_cases bk:k< (aag m).length
 · obtain⟨id,RX⟩: ∃id,(aag m)[k]? =some id:=⟨_,aL bk⟩
   have abk: ((aag m).map vi)[k]? =some (vi id):=by simp[RX]
   have hib: (aag m).length< 1000000:=by omega
   have oK:=aa6 (d:=d) RX
   obtain⟨i,f,hi,hf⟩:=aaI RX
   have ns:=bO (k:=false) hi hf
   have sm:=aax m d k
   by_cases hd:d< 1
   · rw[aa7 hd] at oK
     refine abK abk bk hib hd fun T' O' z1 z2 z3 hq=>bc.mk (k+1,ge,z1,z2,z3) (by first| omega| (dsimp only;omega)) (by omega) ?_
     simp only[oK,Option.toList_none,List.append_nil]
     exact hq
   by_cases hfd:f.bg=d
   · obtain⟨rest,hr,abM⟩:=acG hib (acH hs id)
     have acm:Ev E 505 [.msl 1 ((aag m).map vi) 0 ((aag m).map vi).length,.fn 506 [.eptr m.v 0,.eptr (aaw m) 0,.eptr (vi id) 0]] ⟨.sl 0 0 0 (nbs m id).length,[(0,(nbs m id).map vi++rest)]⟩:=by rw[List.length_map];exact abM
     have hnl: (nbs m id).length≤(aag m).length:=abF ..
     have aaC:=abv (l:=nbs m id) (by omega) (acI gO.1 id)
     by_cases hn:0 < (nbs m id).length
     · rw[abj hd hi hf hfd hn] at oK
       simp only[hn,decide_true] at aaC
       refine ab2 abk bk hib hd ns hfd h0 (jo ..) hr hnl sm (aa5 hib) acm aaC fun T' O' z1 z2 z3 ge hq=>bc.mk (k+1,ge,z1,z2,z3) (by first| omega| (dsimp only;omega)) (by omega) ?_
       simp only[oK,Option.toList_some]
       exact hq
     · rw[abi hd hi hf hfd hn] at oK
       simp only[hn,decide_false] at aaC
       refine ab1 abk bk hib hd ns hfd h0 (jo ..) hr hnl (aa5 hib) acm aaC fun T' O' z1 z2 z3 hq=>bc.mk (k+1,ge,z1,z2,z3) (by first| omega| (dsimp only;omega)) (by omega) ?_
       simp only[oK,Option.toList_none,List.append_nil]
       exact hq
   · rw[aa8 hd hi hf hfd] at oK
     refine abL abk bk hib hd ns hfd fun T' O' z1 z2 z3 hq=>bc.mk (k+1,ge,z1,z2,z3) (by first| omega| (dsimp only;omega)) (by omega) ?_
     simp only[oK,Option.toList_none,List.append_nil]
     exact hq
 · obtain rfl:k=(aag m).length:=by omega
   have sm:=aax m d (aag m).length
   (conv=>whnf);repeat' ((first| intro g| refine st ?_| (first| refine b1 ?_ ?_| refine b2 ?_ ?_| refine Br.mk ?_ ?_) <;>intro hc| exact rfl) <;>conv=>whnf)
   trace_state
end Go.AM
