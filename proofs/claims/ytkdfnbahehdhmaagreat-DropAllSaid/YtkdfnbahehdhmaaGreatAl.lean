/-
  Texts of the proof, joined by program: AlA, AlB. Own work.
-/
import Derived.Test.YtkdfnbahehdhmaaGreatRa
import Derived.Test.YtkdfnbahehdhmaaGreatXf
import Derived.Test.YtkdfnbahehdhmaaGreatRf
set_option linter.unusedSimpArgs false
set_option linter.unusedVariables false
namespace Go.AM
def afV (a b:Event):Prop:=a.id<b.id∨a.id=b.id∧a.n<b.n
def agp (a b:Event):Int:=I4 (kh a.id b.id) (kh a.n b.n)
theorem af3 (a b:Event):agp a b< 0↔afV a b:=by
 unfold agp I4 kh afV
 split<;> (try split) <;> (try split) <;> (try split) <;> (try split) <;>omega
theorem agF:Ij agp:=by
 constructor
 · intro a b d h1 h2
   rw[af3] at*
   unfold afV at*
   omega
 · intro a b h
   rw[af3] at*
   unfold afV at*
   omega
theorem afT {α:Type} {R:α→α→Prop} (as0: ∀a b,R a b→R b a→False): ∀ {l l':List α},l.Pairwise R→l'.Pairwise R→l.Perm l'→l=l'
 | [],l',_,_,hp=>by simpa using hp.symm.eq_nil.symm
 | x::l,l',h,h',hp=>by
   cases l' with
   | nil=>exact absurd hp.eq_nil (by simp)
   | cons y l'=>
     rw[List.pairwise_cons] at h h'
     have hx:x ∈ y::l':=hp.mem_iff.1 (by simp)
     have hy:y ∈ x::l:=hp.mem_iff.2 (by simp)
     have:x=y:=by
      rcases List.mem_cons.1 hx with e| hx
      · exact e
      · rcases List.mem_cons.1 hy with e| hy
        · exact e.symm
        · exact(as0 _ _ (h'.1 x hx) (h.1 y hy)).elim
     subst this
     rw[afT as0 h.2 h'.2 (List.Perm.cons_inv hp)]
def mxI (x:Int):Int:=if 1 <x then x else 1
section
variable (fc gx:Int→Int→Int) (m:aQ) (d:Int)
def evN (id:Int):Nat→List Event
 | 0=> []
 | j+1=>evN id j++if fc id ((j+1:Nat):Int)=0 then [⟨1,mxI (gx id ((j+1:Nat):Int)),id,0,((j+1:Nat):Int)⟩] else []
def aga (k:Nat) (e:Edge):Prop:=lG m.aH e.id=k∧pW m e=d
instance (k:Nat) (e:Edge):Decidable (aga m d k e):=inferInstanceAs (Decidable (_∧_))
def agG (k:Nat):List Event:=match m.aH[k]? with
 | some e=>if aga m d k e then evN fc gx e.id (e.line.length - 2) else []
 | none=> []
def afW:Nat→List Event
 | 0=> []
 | k+1=>afW k++agG fc gx m d k
def afP (out:List Event) (id:Int):Nat→Nat
 | 0=>0
 | p+1=>if id< (at0 out p).id then afP out id p else p+1
def agd (out own:List Event) (id:Int):List Event:=out.take (afP out id out.length)++own++out.drop (afP out id out.length)
def afR:Nat→List Event
 | 0=> []
 | k+1=>match m.aH[k]? with
   | some e=>if aga m d k e then agd (afR k) (evN fc gx e.id (e.line.length - 2)) e.id else afR k
   | none=>afR k
theorem afY (id:Int): ∀j,(evN fc gx id j).length≤j
 | 0=>by simp[evN]
 | j+1=>by
   have:=afY id j
   simp only[evN,List.length_append]
   split<;>simp<;>omega
theorem af9 (id:Int): ∀j x,x ∈ evN fc gx id j→x.id=id∧x.n≤j
 | 0,x,h=>by simp[evN] at h
 | j+1,x,h=>by
   simp only[evN,List.mem_append] at h
   rcases h with h| h
   · have:=af9 id j x h
     exact⟨this.1,by omega⟩
   · split at h
     · have:x=⟨1,mxI (gx id ((j+1:Nat):Int)),id,0,((j+1:Nat):Int)⟩:=by simpa using h
       subst this;exact⟨rfl,Int.le_refl _⟩
     · simp at h
theorem agi (id:Int): ∀j,(evN fc gx id j).Pairwise afV
 | 0=>by simp[evN]
 | j+1=>by
   simp only[evN]
   rw[List.pairwise_append]
   refine⟨agi id j,by split<;>simp,fun a ha b hb=> ?_⟩
   have h1:=af9 fc gx id j a ha
   split at hb
   · have:b=⟨1,mxI (gx id ((j+1:Nat):Int)),id,0,((j+1:Nat):Int)⟩:=by simpa using hb
     subst this
     exact .inr ⟨h1.1,by show a.n< ((j+1:Nat):Int);omega⟩
   · simp at hb
theorem agj (out:List Event) (id:Int): ∀p,afP out id p≤p
 | 0=>Nat.le_refl _
 | p+1=>by
   have:=agj out id p
   simp only[afP];split<;>omega
theorem af7 (out:List Event) (id:Int): ∀p,(afP out id p=0∨ ¬id< (at0 out (afP out id p - 1)).id)∧ ∀i,afP out id p≤i→i<p→id< (at0 out i).id
 | 0=> ⟨.inl rfl,fun i h1 h2=>by omega⟩
 | p+1=>by
   have ih:=af7 out id p
   simp only[afP]
   split
   · rename_i h
     refine⟨ih.1,fun i h1 h2=> ?_⟩
     by_cases e:i=p
     · subst e;exact h
     · exact ih.2 i h1 (by omega)
   · rename_i h
     exact⟨.inr h,fun i h1 h2=>by omega⟩
theorem af8 (out own:List Event) (id:Int): (agd out own id).Perm (out++own):=by
 unfold agd
 have h1:out=out.take (afP out id out.length)++out.drop (afP out id out.length):=(List.take_append_drop _ _).symm
 generalize hp:afP out id out.length=p at*
 conv=>rhs;rw[h1]
 rw[List.append_assoc,List.append_assoc]
 exact List.Perm.append_left _ List.perm_append_comm
theorem ags {out own:List Event} {id:Int} (h:out.Pairwise afV) (ho:own.Pairwise afV) (Tv: ∀x ∈ own,x.id=id) (c7: ∀x ∈ out,x.id≠id): (agd out own id).Pairwise afV:=by
 obtain⟨s1,s2⟩:=af7 out id out.length
 have hle:=agj out id out.length
 unfold agd
 generalize afP out id out.length=p at*
 have hd: ∀x ∈ out.drop p,id<x.id:=fun x hx=>by
   obtain⟨i,hi,rfl⟩:=List.getElem_of_mem hx
   rw[List.getElem_drop]
   have yg:p+i<out.length:=by simp at hi;omega
   have:=s2 (p+i) (by omega) yg
   simpa [at0,yg] using this
 have KM: ∀x ∈ out.take p,x.id<id:=fun x hx=>by
   have hn:=c7 x (List.mem_of_mem_take hx)
   obtain⟨i,hi,rfl⟩:=List.getElem_of_mem hx
   have yg:i<p:=by simp at hi;omega
   rw[List.getElem_take] at hn ⊢
   rcases s1 with s1| s1
   · omega
   · have hl:p - 1 <out.length:=by omega
     have e1: (at0 out (p - 1))=out[p - 1]:=by simp[at0,hl]
     rw[e1] at s1
     by_cases e:i=p - 1
     · subst e;omega
     · have:=List.pairwise_iff_getElem.1 h i (p - 1) (by omega) hl (by omega)
       unfold afV at this;omega
 rw[List.pairwise_append,List.pairwise_append]
 refine⟨⟨h.sublist (List.take_sublist _ _),ho,fun a ha b hb=> .inl ?_⟩,h.sublist (List.drop_sublist _ _),fun a ha b hb=> .inl ?_⟩
 · have:=KM a ha;rw[Tv b hb];exact this
 · have h2:=hd b hb
   rcases List.mem_append.1 ha with ha| ha
   · have:=KM a ha;omega
   · rw[Tv a ha];exact h2
theorem afZ: ∀k,(afR fc gx m d k).Pairwise afV∧(afR fc gx m d k).Perm (afW fc gx m d k)∧ ∀x ∈ afR fc gx m d k,∃j e,j<k∧m.aH[j]? =some e∧x.id=e.id∧lG m.aH e.id=j
 | 0=> ⟨by simp[afR],.refl _,by simp[afR]⟩
 | k+1=>    by
   obtain⟨i1,i2,i3⟩:=afZ k
   simp only[afR,afW,agG]
   cases he:m.aH[k]? with
   | none=>
     refine⟨i1,by simpa using i2,fun x hx=> ?_⟩
     obtain⟨j,e,h1,h2⟩:=i3 x hx
     exact⟨j,e,by omega,h2⟩
   | some e=>
     dsimp only
     by_cases hs:aga m d k e
     · rw[ if_pos hs,if_pos hs]
       have jU:=af9 fc gx e.id (e.line.length - 2)
       refine⟨ags i1 (agi fc gx e.id _) (fun x hx=> (jU x hx).1) (fun x hx Fl=> ?_),(af8 _ _ _).trans (i2.append_right _),fun x hx=> ?_⟩
       · obtain⟨j,e',h1,h2,h3,h4⟩:=i3 x hx
         rw[←h3,Fl,hs.1] at h4
         omega
       · rcases List.mem_append.1 ((af8 _ _ _).mem_iff.1 hx) with hx| hx
         · obtain⟨j,e',h1,h2⟩:=i3 x hx
           exact⟨j,e',by omega,h2⟩
         · exact⟨k,e,by omega,he,(jU x hx).1,hs.1⟩
     · rw[if_neg hs,if_neg hs]
       refine⟨i1,by simpa using i2,fun x hx=> ?_⟩
       obtain⟨j,e',h1,h2⟩:=i3 x hx
       exact⟨j,e',by omega,h2⟩
theorem afQ (hl: ∀e ∈ m.aH,e.line.length< 10): ∀k,(afW fc gx m d k).length≤7*k
 | 0=>by simp[afW]
 | k+1=>by
   have ih:=afQ hl k
   simp only[afW,agG,List.length_append]
   cases he:m.aH[k]? with
   | none=>simp;omega
   | some e=>
     dsimp only
     have h1:=hl e (List.mem_of_getElem? he)
     have h2:=afY fc gx e.id (e.line.length - 2)
     split
     · omega
     · simp;omega
theorem all_eq (k:Nat) {l':List Event} (h1:l'.Perm (afW fc gx m d k)) (h2:l'.Pairwise (gS agp)):l'=afR fc gx m d k:=by
 obtain⟨a1,a2,a3⟩:=afZ fc gx m d k
 have hp:=h1.trans a2.symm
 have c7:l'.Pairwise fun a b=>afV a b∨afV b a:=(hp.pairwise_iff (fun {a b} h=>h.symm)).2 (a1.imp fun h=> .inl h)
 have hs:l'.Pairwise afV:=by
  refine(h2.and c7).imp ?_
  rintro a b ⟨h,hn⟩
  refine hn.resolve_right fun h'=>h ?_
  exact(af3 b a).2 h'
 refine afT (R:=afV) (fun a b h h'=> ?_) hs a1 hp
 unfold afV at*;omega
theorem agH (k:Nat):Dst agp (afW fc gx m d k):=by
 obtain⟨a1,a2,a3⟩:=afZ fc gx m d k
 refine(a2.symm.pairwise_iff (fun {a b} h=>h.symm)).2 (a1.imp fun h=> .inl ?_)
 exact(af3 _ _).2 h
end
end Go.AM
set_option maxRecDepth 20000
set_option maxHeartbeats 8000000
namespace Go.AM
theorem agt (a b:Event):Ev E 545 [a.v,b.v] ⟨vi (agp a b),[]⟩:=by
 refine Ev.aG ahq (ahr _) rfl ?_
 (conv=>whnf);repeat' ((first| intro g| refine ag.mk _ (vF a.id b.id) ?_| refine ag.mk _ (vF a.n b.n) ?_| refine ag.mk _ (Su (kh a.id b.id) (kh a.n b.n)) ?_| refine st ?_| (first| refine b1 ?_ ?_| refine b2 ?_ ?_| refine Br.mk ?_ ?_) <;>intro hc| exact rfl) <;>conv=>whnf)
section
variable {m:aQ} {fc gx:Int→Int→Int}
 (hc: ∀id n,Ev E 526 [m.v,vi id,vi n] ⟨vi (fc id n),[]⟩) (hx: ∀id n,Ev E 527 [m.v,vi id,vi n] ⟨vi (gx id n),[]⟩)
 (hf: ∀id,Ev E 543 [m.v,vi id] ⟨vi (lG m.aH id),[]⟩) (hd: ∀e:Edge,Ev E 540 [m.v,e.v] ⟨vi (pW m e),[]⟩)
include hc hx
theorem agu {e:Edge} {d:Int} {k j ne yY g97 nS:Nat} {A:List Event} {Q:bd→SS→Prop} (hle:e.line.length< 10) (hA:A.length< 1000)
   (hQ: ∀T' O' g,SS.Sub ⟨[(1,vi d),(2,.ptr 48 yY 0 0),(5,.sl 97 g 0 (A++evN fc gx e.id (j+1)).length),(7,.ptr 128 nS 0 0),(8,aD (j+2)),(13,.lit 4 (m.aH.map Edge.v)),(14,aD ne),(15,aD k)],
     [(48,⟨yY,4,false,false,some [m.v]⟩),(97,⟨g,5,true,false,some ((A++evN fc gx e.id (j+1)).map Event.v)⟩),(128,⟨nS,4,false,false,some [e.v]⟩)]⟩ ⟨T',O'⟩→Q .normal ⟨T',O'⟩) (bl:j+2 <e.line.length):
   oN E Jj ⟨[(1,vi d),(2,.ptr 48 yY 0 0),(5,.sl 97 g97 0 (A++evN fc gx e.id j).length),(7,.ptr 128 nS 0 0),(8,aD (j+1)),(13,.lit 4 (m.aH.map Edge.v)),(14,aD ne),(15,aD k)],
     [(48,⟨yY,4,false,false,some [m.v]⟩),(97,⟨g97,5,true,false,some ((A++evN fc gx e.id j).map Event.v)⟩),(128,⟨nS,4,false,false,some [e.v]⟩)]⟩ Q:=by
 have h1:=hc e.id ((j+1:Nat):Int)
 have h2:=hx e.id ((j+1:Nat):Int)
 have oO:=afY fc gx e.id j
 have Tf: (A++evN fc gx e.id j).length=A.length+(evN fc gx e.id j).length:=by simp
 have w1:IntKind.i64.wrap (((j+1:Nat):Int)+1)=((j+2:Nat):Int):=(wrap64 (by omega) (by omega)).trans (by omega)
 have mF:A++evN fc gx e.id (j+1)=(A++evN fc gx e.id j)++if fc e.id ((j+1:Nat):Int)=0 then [⟨1,mxI (gx e.id ((j+1:Nat):Int)),e.id,0,((j+1:Nat):Int)⟩] else []:=by
   rw[List.append_assoc];rfl
 have hLb: (A++evN fc gx e.id j).length< 2000:=by omega
 rw[mF] at hQ
 clear mF hc hx oO Tf
 generalize A++evN fc gx e.id j=L at*
 by_cases h0:fc e.id ((j+1:Nat):Int)=0
 · rw[if_pos h0] at hQ
   rw[h0] at h1
   (conv=>whnf);repeat' ((first| ((exfalso;omega)) | intro g| refine ag.mk _ (h1) ?_| refine ag.mk _ (h2) ?_| refine st ?_| (first| refine b1 ?_ ?_| refine b2 ?_ ?_| refine Br.mk ?_ ?_) <;>intro hc| exact rfl) <;>conv=>whnf)
   refine hQ _ _ g ?_
   (refine⟨?_,?_⟩ <;>repeat' (first| exact True.intro| refine ai ?_| refine And.intro ?_ ?_))
 · rw[if_neg h0,List.append_nil] at hQ
   (conv=>whnf);repeat' ((first| ((exfalso;omega)) | contradiction| intro g| refine ag.mk _ (h1) ?_| refine st ?_| (first| refine b1 ?_ ?_| refine b2 ?_ ?_| refine Br.mk ?_ ?_) <;>intro hc| exact rfl) <;>conv=>whnf)
   refine hQ _ _ g97 ?_
   (refine⟨?_,?_⟩ <;>repeat' (first| exact True.intro| refine ai ?_| refine And.intro ?_ ?_))
include hf hd
theorem ag8 (h1:m.aH.length≤25) (hl: ∀e ∈ m.aH,e.line.length< 10) (d:Int):Ev E 529 [m.v,vi d] ⟨.own 5 ((if d< 1 then [] else afR fc gx m d m.aH.length).map Event.v),[]⟩:=by
 obtain⟨l',p1,p2,ahs⟩:=agb (l:=if d< 1 then [] else afW fc gx m d m.aH.length) agF (g:=545) rfl agt (by split;simp[Dst];exact agH fc gx m d _) (by
   have:=afQ fc gx m d hl m.aH.length
   split
   · simp
   · omega)
 have wQ:l'=if d< 1 then [] else afR fc gx m d m.aH.length:=by
   by_cases G3:d< 1
   · rw[if_pos G3] at p1 ⊢;exact p1.eq_nil
   · rw[if_neg G3] at p1 ⊢;exact all_eq fc gx m d _ p1 p2
 rw[←wQ]
 have hlen:l'.length< 2000:=by
   rw[p1.length_eq]
   have:=afQ fc gx m d hl m.aH.length
   split
   · simp
   · omega
 have SL:=p1.length_eq
 clear p1 p2 wQ
 have qw:=afQ fc gx m d hl
 refine Ev.aG aht (ahu _) rfl ?_
 (conv=>whnf);repeat' ((first| intro g| refine st ?_| (first| refine b1 ?_ ?_| refine b2 ?_ ?_| refine Br.mk ?_ ?_) <;>intro hc| exact rfl) <;>conv=>whnf)
 rename_i yY _
 refine aV.by (fun ((k,L,g97):Nat×List Event×Nat)=> ⟨[(1,vi d),(2,.ptr 48 yY 0 0),(5,.sl 97 g97 0 L.length),(13,.lit 4 (m.aH.map Edge.v)),(14,aD (m.aH.map Edge.v).length),(15,aD k)],
     [(48,⟨yY,4,false,false,some [m.v]⟩),(97,⟨g97,5,true,false,some (L.map Event.v)⟩)]⟩)
   (fun p=>p.1≤m.aH.length∧p.2.1=if d< 1 then [] else afW fc gx m d p.1) (fun p=>m.aH.length - p.1) (0,[],g) (by(refine⟨?_,?_⟩ <;>repeat' (first| exact True.intro| refine ai ?_| refine And.intro ?_ ?_))) ⟨by simp,by simp[afW]⟩ ?_
 rintro⟨k,L,g97⟩ ⟨hk,hL⟩
 dsimp only at hk hL
 by_cases bl:k<m.aH.length
 · obtain⟨e,he⟩: ∃e,m.aH[k]? =some e:=⟨_,aE bl⟩
   have hle:=hl e (List.mem_of_getElem? he)
   have f1:=hf e.id
   have f2:=hd e
   by_cases G3:d< 1
   · (conv=>whnf);repeat' ((first| ((exfalso;omega)) | intro g| refine aL.mk _ (aq he rfl) ?_| refine st ?_| (first| refine b1 ?_ ?_| refine b2 ?_ ?_| refine Br.mk ?_ ?_) <;>intro hc| exact rfl) <;>conv=>whnf)
     exact a9.mk (k+1,L,g97) (by first| omega| (dsimp only;omega)) ⟨(by first| omega| (dsimp only;omega)),by simpa [G3] using hL⟩ (by(refine⟨?_,?_⟩ <;>repeat' (first| exact True.intro| refine ai ?_| refine And.intro ?_ ?_)))
   rw[if_neg G3] at hL
   have mF:afW fc gx m d (k+1)=L++(if aga m d k e then evN fc gx e.id (e.line.length - 2) else []):=by
     simp only[afW,agG,he,hL]
   by_cases s1:lG m.aH e.id=k
   case neg=>
     rw[if_neg (fun h=>s1 h.1),List.append_nil] at mF
     (conv=>whnf);repeat' ((first| ((exfalso;omega)) | contradiction| intro g| refine aL.mk _ (aq he rfl) ?_| refine ag.mk _ (f1) ?_| refine st ?_| (first| refine b1 ?_ ?_| refine b2 ?_ ?_| refine Br.mk ?_ ?_) <;>intro hc| exact rfl) <;>conv=>whnf)
     exact a9.mk (k+1,L,g97) (by first| omega| (dsimp only;omega)) ⟨(by first| omega| (dsimp only;omega)),by dsimp only;rw[if_neg G3,mF]⟩ (by(refine⟨?_,?_⟩ <;>repeat' (first| exact True.intro| refine ai ?_| refine And.intro ?_ ?_)))
   by_cases s2:pW m e=d
   case neg=>
     rw[if_neg (fun h=>s2 h.2),List.append_nil] at mF
     (conv=>whnf);repeat' ((first| ((exfalso;omega)) | contradiction| intro g| refine aL.mk _ (aq he rfl) ?_| refine ag.mk _ (f1) ?_| refine ag.mk _ (f2) ?_| refine st ?_| (first| refine b1 ?_ ?_| refine b2 ?_ ?_| refine Br.mk ?_ ?_) <;>intro hc| exact rfl) <;>conv=>whnf)
     exact a9.mk (k+1,L,g97) (by first| omega| (dsimp only;omega)) ⟨(by first| omega| (dsimp only;omega)),by dsimp only;rw[if_neg G3,mF]⟩ (by(refine⟨?_,?_⟩ <;>repeat' (first| exact True.intro| refine ai ?_| refine And.intro ?_ ?_)))
   rw[if_pos ⟨s1,s2⟩] at mF
   have Tf:L.length< 1000:=by have:=qw k;rw[hL];omega
   rw[s1] at f1
   rw[s2] at f2
   (conv=>whnf);repeat' ((first| ((exfalso;omega)) | contradiction| intro g| refine aL.mk _ (aq he rfl) ?_| refine ag.mk _ (f1) ?_| refine ag.mk _ (f2) ?_| refine st ?_| (first| refine b1 ?_ ?_| refine b2 ?_ ?_| refine Br.mk ?_ ?_) <;>intro hc| exact rfl) <;>conv=>whnf)
   refine aV.by (fun ((j,g97):Nat×Nat)=> ⟨[(1,vi d),(2,.ptr 48 yY 0 0),(5,.sl 97 g97 0 (L++evN fc gx e.id j).length),(7,.ptr 128 g 0 0),(8,aD (j+1)),(13,.lit 4 (m.aH.map Edge.v)),(14,aD (m.aH.map Edge.v).length),(15,aD k)],
     [(48,⟨yY,4,false,false,some [m.v]⟩),(97,⟨g97,5,true,false,some ((L++evN fc gx e.id j).map Event.v)⟩),(128,⟨g,4,false,false,some [e.v]⟩)]⟩)
     (fun p=>p.1≤e.line.length - 2) (fun p=>e.line.length - 2 - p.1) (0,g97) ?_ (by dsimp only;omega) ?_
   · simp only[evN,List.append_nil]
     (refine⟨?_,?_⟩ <;>repeat' (first| exact True.intro| refine ai ?_| refine And.intro ?_ ?_))
   rintro⟨j,g97⟩ hj
   dsimp only at hj
   by_cases fB:j+2 <e.line.length
   · exact agu hc hx hle Tf (fun T' O' g' hs=>a9.mk (j+1,g') (by dsimp only;omega) (by dsimp only;omega) hs) fB
   have w1:IntKind.i64.wrap (((j+1:Nat):Int)+1)=((j+2:Nat):Int):=(wrap64 (by omega) (by omega)).trans (by omega)
   obtain rfl:j=e.line.length - 2:=by omega
   (conv=>whnf);repeat' ((first| ((exfalso;omega)) | intro g| refine st ?_| (first| refine b1 ?_ ?_| refine b2 ?_ ?_| refine Br.mk ?_ ?_) <;>intro hc| exact rfl) <;>conv=>whnf)
   exact a9.mk (k+1,L++evN fc gx e.id (e.line.length - 2),g97) (by first| omega| (dsimp only;omega)) ⟨(by first| omega| (dsimp only;omega)),by dsimp only;rw[if_neg G3,mF]⟩ (by(refine⟨?_,?_⟩ <;>repeat' (first| exact True.intro| refine ai ?_| refine And.intro ?_ ?_)))
 · obtain rfl:k=m.aH.length:=by omega
   subst hL
   (conv=>whnf);repeat' ((first| intro g| refine ag.mk _ (ahs) ?_| refine st ?_| (first| refine b1 ?_ ?_| refine b2 ?_ ?_| refine Br.mk ?_ ?_) <;>intro hc| exact rfl) <;>conv=>whnf)
   refine aV.by (fun ((i,ag9):Nat×Nat)=> ⟨[(9,.sl 161 ag9 0 (l'.take i).length),(67,.sl 97 g97 0 l'.length),(68,aD l'.length),(69,aD i)],
     [(97,⟨g97,5,true,false,some (l'.map Event.v)⟩),(161,⟨ag9,5,true,false,some ((l'.take i).map Event.v)⟩)]⟩)
     (fun p=>p.1≤l'.length) (fun p=>l'.length - p.1) (0,g) ?_ (by dsimp only;omega) ?_
   · have e3:V.sl 97 g97 0 (if d< 1 then [] else afW fc gx m d m.aH.length).length= .sl 97 g97 0 l'.length:=by rw[SL]
     have e4:aD (if d< 1 then [] else afW fc gx m d m.aH.length).length=aD l'.length:=by rw[SL]
     dsimp only
     rw[List.take_zero]
     (refine⟨?_,?_⟩ <;>repeat' (first| exact True.intro| refine And.intro (e3) ?_| refine And.intro (e4) ?_| refine ai ?_| refine And.intro ?_ ?_))
   rintro⟨i,ag9⟩ hi
   dsimp only at hi
   by_cases fB:i<l'.length
   · obtain⟨x,Fl⟩: ∃x,l'[i]? =some x:=⟨_,aE fB⟩
     have KM:l'.take (i+1)=l'.take i++[x]:=by rw[List.take_add_one,Fl];rfl
     have Rf: (l'.take i).length=i:=by simp;omega
     (conv=>whnf);repeat' ((first| intro g| refine aL.mk _ (aq Fl rfl) ?_| refine st ?_| (first| refine b1 ?_ ?_| refine b2 ?_ ?_| refine Br.mk ?_ ?_) <;>intro hc| exact rfl) <;>conv=>whnf)
     refine a9.mk (i+1,g) (by dsimp only;omega) (by dsimp only;omega) ?_
     dsimp only
     rw[KM]
     (refine⟨?_,?_⟩ <;>repeat' (first| exact True.intro| refine ai ?_| refine And.intro ?_ ?_))
   obtain rfl:i=l'.length:=by omega
   dsimp only
   rw[List.take_length]
   (conv=>whnf);repeat' ((first| intro g| refine aL.mk _ (ei (by simp)) ?_| refine st ?_| (first| refine b1 ?_ ?_| refine b2 ?_ ?_| refine Br.mk ?_ ?_) <;>intro hc| exact rfl) <;>conv=>whnf)
end
end Go.AM
