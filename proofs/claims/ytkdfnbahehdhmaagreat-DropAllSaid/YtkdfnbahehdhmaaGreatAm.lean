/-
  Texts of the proof, joined by program: AlC. Own work.
-/
import Derived.Test.YtkdfnbahehdhmaaGreatAl
set_option linter.unusedSimpArgs false
set_option linter.unusedVariables false
set_option maxRecDepth 20000
set_option maxHeartbeats 8000000
namespace Go.AM
section
variable {m:aQ} {fc gx:Int→Int→Int}
 (hc: ∀id n,Ev E 536 [m.v,vi id,vi n] ⟨vi (fc id n),[]⟩) (hx: ∀id n,Ev E 528 [m.v,vi id,vi n] ⟨vi (gx id n),[]⟩)
 (hf: ∀id,Ev E 538 [m.v,vi id] ⟨vi (lG m.aH id),[]⟩) (hd: ∀id,Ev E 546 [m.v,vi id] ⟨vi (j8 m id),[]⟩)
include hc hx
theorem agv {e:Edge} {d:Int} {k j yY g97 zz nS:Nat} {L:List Event} {Q:bd→SS→Prop} (hle:e.line.length< 10)
   (hQ: ∀T' O' g,SS.Sub ⟨[(1,vi d),(2,.ptr 48 yY 0 0),(5,.sl 97 g97 0 L.length),(6,aD k),(7,.ptr 128 nS 0 0),(8,.sl 145 g 0 (evN fc gx e.id (j+1)).length),(9,aD (j+2))],
     [(48,⟨yY,4,false,false,some [m.v]⟩),(97,⟨g97,5,true,false,some (L.map Event.v)⟩),(128,⟨nS,4,false,false,some [e.v]⟩),(145,⟨g,5,true,false,some ((evN fc gx e.id (j+1)).map Event.v)⟩)]⟩ ⟨T',O'⟩→Q .normal ⟨T',O'⟩) (bl:j+2 <e.line.length):
   oN E agI ⟨[(1,vi d),(2,.ptr 48 yY 0 0),(5,.sl 97 g97 0 L.length),(6,aD k),(7,.ptr 128 nS 0 0),(8,.sl 145 zz 0 (evN fc gx e.id j).length),(9,aD (j+1))],
     [(48,⟨yY,4,false,false,some [m.v]⟩),(97,⟨g97,5,true,false,some (L.map Event.v)⟩),(128,⟨nS,4,false,false,some [e.v]⟩),(145,⟨zz,5,true,false,some ((evN fc gx e.id j).map Event.v)⟩)]⟩ Q:=by
 have h1:=hc e.id ((j+1:Nat):Int)
 have h2:=hx e.id ((j+1:Nat):Int)
 have oO:=afY fc gx e.id j
 have w1:IntKind.i64.wrap (((j+1:Nat):Int)+1)=((j+2:Nat):Int):=(wrap64 (by omega) (by omega)).trans (by omega)
 simp only[evN] at hQ
 have hLb: (evN fc gx e.id j).length< 2000:=by omega
 clear hc hx oO
 generalize evN fc gx e.id j=ow at*
 by_cases h0:fc e.id ((j+1:Nat):Int)=0
 · rw[if_pos h0] at hQ
   rw[h0] at h1
   (conv=>whnf);repeat' ((first| ((exfalso;omega)) | intro g| refine ag.mk _ (h1) ?_| refine ag.mk _ (h2) ?_| refine st ?_| (first| refine b1 ?_ ?_| refine b2 ?_ ?_| refine Br.mk ?_ ?_) <;>intro hc| exact rfl) <;>conv=>whnf)
   refine hQ _ _ g ?_
   (refine⟨?_,?_⟩ <;>repeat' (first| exact True.intro| refine ai ?_| refine And.intro ?_ ?_))
 · rw[if_neg h0,List.append_nil] at hQ
   (conv=>whnf);repeat' ((first| ((exfalso;omega)) | contradiction| intro g| refine ag.mk _ (h1) ?_| refine st ?_| (first| refine b1 ?_ ?_| refine b2 ?_ ?_| refine Br.mk ?_ ?_) <;>intro hc| exact rfl) <;>conv=>whnf)
   refine hQ _ _ zz ?_
   (refine⟨?_,?_⟩ <;>repeat' (first| exact True.intro| refine ai ?_| refine And.intro ?_ ?_))
omit hc hx
theorem agw {d:Int} (G3: ¬d< 1) (k:Nat) (e:Edge):aga m d k e↔lG m.aH e.id=k∧j8 m e.left=d∧j8 m e.right=d:=by
 unfold aga pW
 constructor
 · rintro⟨h1,h2⟩
   split at h2
   · exact⟨h1,h2,by omega⟩
   · omega
 · rintro⟨h1,h2,h3⟩
   rw[if_pos (by rw[h2,h3])]
   exact⟨h1,h2⟩
theorem agk {L:List Event} {p:Nat}:aN (L.map Event.v) 0 ((p:Int).toNat - 0)=(L.take p).map Event.v:=by
 unfold aN;simp[List.map_take]
theorem agl {L:List Event} {p:Nat}:aN (L.map Event.v) (0+(p:Int).toNat) (L.length - (p:Int).toNat)=(L.drop p).map Event.v:=by
 unfold aN;rw[List.take_of_length_le (by simp)];simp[List.map_drop]
include hc hx hf hd
theorem agJ (h1:m.aH.length≤25) (hl: ∀e ∈ m.aH,e.line.length< 10) (d:Int):Ev E 530 [m.v,vi d] ⟨.own 5 ((if d< 1 then [] else afR fc gx m d m.aH.length).map Event.v),[]⟩:=by
 have qw:=afQ fc gx m d hl
 have XC:=fun k=> (afZ fc gx m d k).2.1.length_eq
 refine Ev.aG ahv (ahw _) rfl ?_
 by_cases G3:d< 1
 · rw[if_pos G3]
   (conv=>whnf);repeat' ((first| ((exfalso;omega)) | intro g| refine st ?_| (first| refine b1 ?_ ?_| refine b2 ?_ ?_| refine Br.mk ?_ ?_) <;>intro hc| exact rfl) <;>conv=>whnf)
 rw[if_neg G3]
 (conv=>whnf);repeat' ((first| ((exfalso;omega)) | intro g| refine st ?_| (first| refine b1 ?_ ?_| refine b2 ?_ ?_| refine Br.mk ?_ ?_) <;>intro hc| exact rfl) <;>conv=>whnf)
 rename_i yY
 refine aV.by (fun ((k,L,g97):Nat×List Event×Nat)=> ⟨[(1,vi d),(2,.ptr 48 yY 0 0),(5,.sl 97 g97 0 L.length),(6,aD k)],
     [(48,⟨yY,4,false,false,some [m.v]⟩),(97,⟨g97,5,true,false,some (L.map Event.v)⟩)]⟩)
   (fun p=>p.1≤m.aH.length∧p.2.1=afR fc gx m d p.1) (fun p=>m.aH.length - p.1) (0,[],g) (by(refine⟨?_,?_⟩ <;>repeat' (first| exact True.intro| refine ai ?_| refine And.intro ?_ ?_))) ⟨by simp,by simp[afR]⟩ ?_
 rintro⟨k,L,g97⟩ ⟨hk,hL⟩
 dsimp only at hk hL
 by_cases bl:k<m.aH.length
 · obtain⟨e,he⟩: ∃e,m.aH[k]? =some e:=⟨_,aE bl⟩
   have hle:=hl e (List.mem_of_getElem? he)
   have f1:=hf e.id
   have f2:=hd e.left
   have f3:=hd e.right
   have mF:afR fc gx m d (k+1)=if aga m d k e then agd L (evN fc gx e.id (e.line.length - 2)) e.id else L:=by
     simp only[afR,he,hL]
   have agK:=agw (m:=m) G3 k e
   by_cases s1:lG m.aH e.id=k
   case neg=>
     rw[if_neg (fun h=>s1 h.1)] at mF
     (conv=>whnf);repeat' ((first| ((exfalso;omega)) | contradiction| intro g| refine aL.mk _ (aq he rfl) ?_| refine ag.mk _ (f1) ?_| refine st ?_| (first| refine b1 ?_ ?_| refine b2 ?_ ?_| refine Br.mk ?_ ?_) <;>intro hc| exact rfl) <;>conv=>whnf)
     exact a9.mk (k+1,L,g97) (by first| omega| (dsimp only;omega)) ⟨(by first| omega| (dsimp only;omega)),by dsimp only;rw[mF]⟩ (by(refine⟨?_,?_⟩ <;>repeat' (first| exact True.intro| refine ai ?_| refine And.intro ?_ ?_)))
   by_cases s2:j8 m e.left=d
   case neg=>
     rw[if_neg (fun h=>s2 (agK.1 h).2.1)] at mF
     (conv=>whnf);repeat' ((first| ((exfalso;omega)) | contradiction| intro g| refine aL.mk _ (aq he rfl) ?_| refine ag.mk _ (f1) ?_| refine ag.mk _ (f2) ?_| refine st ?_| (first| refine b1 ?_ ?_| refine b2 ?_ ?_| refine Br.mk ?_ ?_) <;>intro hc| exact rfl) <;>conv=>whnf)
     exact a9.mk (k+1,L,g97) (by first| omega| (dsimp only;omega)) ⟨(by first| omega| (dsimp only;omega)),by dsimp only;rw[mF]⟩ (by(refine⟨?_,?_⟩ <;>repeat' (first| exact True.intro| refine ai ?_| refine And.intro ?_ ?_)))
   by_cases s3:j8 m e.right=d
   case neg=>
     rw[if_neg (fun h=>s3 (agK.1 h).2.2)] at mF
     (conv=>whnf);repeat' ((first| ((exfalso;omega)) | contradiction| intro g| refine aL.mk _ (aq he rfl) ?_| refine ag.mk _ (f1) ?_| refine ag.mk _ (f2) ?_| refine ag.mk _ (f3) ?_| refine st ?_| (first| refine b1 ?_ ?_| refine b2 ?_ ?_| refine Br.mk ?_ ?_) <;>intro hc| exact rfl) <;>conv=>whnf)
     exact a9.mk (k+1,L,g97) (by first| omega| (dsimp only;omega)) ⟨(by first| omega| (dsimp only;omega)),by dsimp only;rw[mF]⟩ (by(refine⟨?_,?_⟩ <;>repeat' (first| exact True.intro| refine ai ?_| refine And.intro ?_ ?_)))
   rw[if_pos (agK.2 ⟨s1,s2,s3⟩)] at mF
   have Tf:L.length< 1000:=by have:=qw k;have:=XC k;rw[hL];omega
   rw[s1] at f1
   rw[s2] at f2
   rw[s3] at f3
   (conv=>whnf);repeat' ((first| ((exfalso;omega)) | contradiction| intro g| refine aL.mk _ (aq he rfl) ?_| refine ag.mk _ (f1) ?_| refine ag.mk _ (f2) ?_| refine ag.mk _ (f3) ?_| refine st ?_| (first| refine b1 ?_ ?_| refine b2 ?_ ?_| refine Br.mk ?_ ?_) <;>intro hc| exact rfl) <;>conv=>whnf)
   rename_i nS
   refine aV.by (fun ((j,zz):Nat×Nat)=> ⟨[(1,vi d),(2,.ptr 48 yY 0 0),(5,.sl 97 g97 0 L.length),(6,aD k),(7,.ptr 128 nS 0 0),(8,.sl 145 zz 0 (evN fc gx e.id j).length),(9,aD (j+1))],
     [(48,⟨yY,4,false,false,some [m.v]⟩),(97,⟨g97,5,true,false,some (L.map Event.v)⟩),(128,⟨nS,4,false,false,some [e.v]⟩),(145,⟨zz,5,true,false,some ((evN fc gx e.id j).map Event.v)⟩)]⟩)
     (fun p=>p.1≤e.line.length - 2) (fun p=>e.line.length - 2 - p.1) (0,g) ?_ (by dsimp only;omega) ?_
   · simp only[evN,List.append_nil]
     (refine⟨?_,?_⟩ <;>repeat' (first| exact True.intro| refine ai ?_| refine And.intro ?_ ?_))
   rintro⟨j,zz⟩ hj
   dsimp only at hj
   by_cases fB:j+2 <e.line.length
   · exact agv hc hx hle (fun T' O' g' hs=>a9.mk (j+1,g') (by dsimp only;omega) (by dsimp only;omega) hs) fB
   have w1:IntKind.i64.wrap (((j+1:Nat):Int)+1)=((j+2:Nat):Int):=(wrap64 (by omega) (by omega)).trans (by omega)
   obtain rfl:j=e.line.length - 2:=by omega
   have oO:=afY fc gx e.id (e.line.length - 2)
   dsimp only
   generalize evN fc gx e.id (e.line.length - 2)=ow at*
   clear hc hx hf hd f1 f2 f3 qw XC agK
   (conv=>whnf);repeat' ((first| ((exfalso;omega)) | intro g| refine st ?_| (first| refine b1 ?_ ?_| refine b2 ?_ ?_| refine Br.mk ?_ ?_) <;>intro hc| exact rfl) <;>conv=>whnf)
   refine aV.by (fun (p:Nat)=> ⟨[(1,vi d),(2,.ptr 48 yY 0 0),(5,.sl 97 g97 0 L.length),(6,aD k),(7,.ptr 128 nS 0 0),(8,.sl 145 zz 0 ow.length),(10,aD p)],
     [(48,⟨yY,4,false,false,some [m.v]⟩),(97,⟨g97,5,true,false,some (L.map Event.v)⟩),(128,⟨nS,4,false,false,some [e.v]⟩),(145,⟨zz,5,true,false,some (ow.map Event.v)⟩)]⟩)
     (fun p=>p≤L.length∧afP L e.id L.length=afP L e.id p) (fun p=>p) L.length (by(refine⟨?_,?_⟩ <;>repeat' (first| exact True.intro| refine ai ?_| refine And.intro ?_ ?_))) ⟨Nat.le_refl _,rfl⟩ ?_
   rintro p ⟨hp,wZ⟩
   by_cases hgo:0 <p∧e.id< (at0 L (p - 1)).id
   · obtain⟨q,rfl⟩: ∃q,p=q+1:=⟨p - 1,by omega⟩
     have Xc:e.id< (at0 L q).id:=hgo.2
     have aff:IntKind.i64.wrap (((q+1:Nat):Int) - 1)=(q:Int):=(wrap64 (by omega) (by omega)).trans (by omega)
     have xj:afP L e.id (q+1)=afP L e.id q:=by simp only[afP];rw[if_pos Xc]
     (conv=>whnf);repeat' ((first| ((exfalso;omega)) | intro g| refine aL.mk _ (afF (by omega) aff) ?_| refine st ?_| (first| refine b1 ?_ ?_| refine b2 ?_ ?_| refine Br.mk ?_ ?_) <;>intro hc| exact rfl) <;>conv=>whnf)
     exact a9.mk q (by omega) ⟨by omega,by rw[wZ,xj]⟩ (by(refine⟨?_,?_⟩ <;>repeat' (first| exact True.intro| refine ai ?_| refine And.intro ?_ ?_)))
   have hpp:afP L e.id L.length=p:=by
     rw[wZ]
     cases p with
     | zero=>rfl
     | succ q=>
       have hng: ¬e.id< (at0 L q).id:=fun h=>hgo ⟨by omega,h⟩
       simp only[afP]
       rw[if_neg hng]
   have ahx:afR fc gx m d (k+1)=L.take p++ow++L.drop p:=by rw[mF];unfold agd;rw[hpp]
   by_cases Xv:p=0
   · subst Xv
     (conv=>whnf);repeat' ((first| ((exfalso;omega)) | intro g| refine aL.mk _ (agk) ?_| refine aL.mk _ (agl) ?_| refine aL.mk _ (bC rfl) ?_| refine st ?_| (first| refine b1 ?_ ?_| refine b2 ?_ ?_| refine Br.mk ?_ ?_) <;>intro hc| exact rfl) <;>conv=>whnf)
     refine a9.mk (k+1,L.take 0++ow++L.drop 0,g) (by dsimp only;omega) ⟨by dsimp only;omega,ahx.symm⟩ ?_
     (refine⟨?_,?_⟩ <;>repeat' (first| exact True.intro| refine ai ?_| refine And.intro ?_ ?_))
   have aff:IntKind.i64.wrap ((p:Int) - 1)=((p - 1:Nat):Int):=(wrap64 (by omega) (by omega)).trans (by omega)
   have hng: ¬e.id< (at0 L (p - 1)).id:=fun h=>hgo ⟨by omega,h⟩
   (conv=>whnf);repeat' ((first| ((exfalso;omega)) | intro g| refine aL.mk _ (afF (by omega) aff) ?_| refine aL.mk _ (agk) ?_| refine aL.mk _ (agl) ?_| refine aL.mk _ (bC rfl) ?_| refine st ?_| (first| refine b1 ?_ ?_| refine b2 ?_ ?_| refine Br.mk ?_ ?_) <;>intro hc| exact rfl) <;>conv=>whnf)
   refine a9.mk (k+1,L.take p++ow++L.drop p,g) (by dsimp only;omega) ⟨by dsimp only;omega,ahx.symm⟩ ?_
   (refine⟨?_,?_⟩ <;>repeat' (first| exact True.intro| refine ai ?_| refine And.intro ?_ ?_))
 · obtain rfl:k=m.aH.length:=by omega
   subst hL
   (conv=>whnf);repeat' ((first| intro g| refine aL.mk _ (ei (by simp)) ?_| refine st ?_| (first| refine b1 ?_ ?_| refine b2 ?_ ?_| refine Br.mk ?_ ?_) <;>intro hc| exact rfl) <;>conv=>whnf)
end
end Go.AM
