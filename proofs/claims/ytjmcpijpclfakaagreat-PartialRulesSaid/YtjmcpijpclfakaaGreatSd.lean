/-
  Texts of the proof: PTopB.
-/
import Derived.Test.YtjmcpijpclfakaaGreatPb
import Derived.Test.YtjmcpijpclfakaaGreatPa
set_option maxRecDepth 20000
set_option maxHeartbeats 4000000
set_option linter.unusedSimpArgs false
set_option linter.unusedVariables false
namespace Go.AM
theorem MU {sv:V} {e:Ex} {t:Int} {w:Va} {vv:V} (eN:Sv sv)
  (dj:Ev E 341 [e.v] ⟨.tuple [vi t,vi 0],[]⟩) (bE:Ev E 345 [e.v,vi t,sv] ⟨vv,[]⟩) (fR:jq (some (pM w)) vv):Ev E 321 [e.v,sv] ⟨(pM w).v,[]⟩:=by
 obtain⟨Xe,rfl,hX⟩:=fR
 obtain rfl:=hX _ rfl
 have DE:aD E 341=[]:=rfl
 have gR:aD E 345=[]:=rfl
 rw[uj] at bE ⊢
 obtain⟨a,b,c,d,e',f,L,hv,hp⟩:=e.br
 rw[hv] at dj bE ⊢
 have fS: ∀w,V.aj w=true→V.ae [.agg [vi a,vi b,vi c,vi d,.bool e',.str f,L],vi t,w]=true:=fun w h=>by simp only[V.ae,hp,h];rfl
 have yS:V.ae [.agg [vi a,vi b,vi c,vi d,.bool e',.str f,L]]=true:=by simp only[V.ae,hp];rfl
 rcases eN with rfl| ⟨ks,rfl⟩
 all_goals
  refine Ev.aG kE (kF _) rfl ?_
  (conv=>whnf);repeat' ((first| intro g| refine st ?_| (first| refine b1 ?_ ?_| refine b2 ?_ ?_| refine Br.mk ?_ ?_) <;>intro hc| exact rfl| refine aq DE yS dj rfl ?_| refine aq gR (fS _ rfl) bE rfl ?_) <;>conv=>whnf)
theorem BB {sv:V} {op var:Int} {val:Va} {nl:Bool} {t:Int} {vv:V} (dN:op=1∨op=2) (eN:Sv sv)
  (dj:Ev E 341 [(Ex.mk op var val nl []).v] ⟨.tuple [vi t,vi 0],[]⟩) (bE:Ev E 345 [(Ex.mk op var val nl []).v,vi t,sv] ⟨vv,[]⟩) (fR:jq none vv)
  (fH:Ev E 334 [(Ex.mk op var val nl []).v] ⟨(Ex.mk op var val nl []).norm.ov,[]⟩):Ev E 321 [(Ex.mk op var val nl []).v,sv] ⟨(Ex.mk op var val true []).v,[]⟩:=by
 obtain⟨Xe,rfl,_⟩:=fR
 obtain⟨a0,b0,c0,d0,e0,f0,L0,fB,fY⟩:=Xe.br
 rw[fB] at bE
 have hP:V.aj (.tuple [.agg [vi a0,vi b0,vi c0,vi d0,.bool e0,.str f0,L0],.bool (none:Option Ex).isSome])=true:=by
  simp only[V.aj,V.ae,Bool.and_eq_true] at fY ⊢
  simp[fY]
 have sw: (Ex.mk op var val nl []).norm.ov= .agg [vi op,vi var,vi val.t,vi val.n,.bool val.b,.str val.s,.nils]:=by
  simp only[Ex.norm,Ex.wu,Ex.ov];rfl
 rw[sw] at fH
 rw[Ex.bN] at dj bE fH ⊢
 rw[Ex.bN]
 have n13: ¬op=13:=by omega
 have n4: ¬op=4:=by omega
 have n5: ¬op=5:=by omega
 rcases eN with rfl| ⟨ks,rfl⟩ <;>cases nl<;>simp only[List.map_nil,lv,cond_true,cond_false] at dj bE fH ⊢
 all_goals
  refine Ev.aG kE (kF _) rfl ?_
  (conv=>whnf);repeat' ((first| intro g| refine av.mk _ (dj) ?_| refine av.mk _ (fH) ?_| refine st ?_| (first| refine b1 ?_ ?_| refine b2 ?_ ?_| refine Br.mk ?_ ?_) <;>intro hc| exact rfl| ((refine av.mk _ bE ?_;simp only[cM,bC,hP,cond_true,List.append_nil]))) <;>conv=>whnf)
  rename_i ed gj xy
  refine bj.by (fun (i:Nat)=> ⟨[(4,.ptr 80 gj 0 0),(9,.ptr 160 g 0 0),(12,vi 0)],[(80,⟨gj,7,false,false,some [.agg [vi 0,vi 0,vi 0,vi 0,.bool false,.str [],.lit 7 []]]⟩),(160,⟨g,7,false,false,some [.agg [vi op,vi var,vi val.t,vi val.n,.bool val.b,.str val.s,.nils]]⟩)]⟩) (fun i=>i=0) (fun i=>0) 0 (by(refine⟨?_,?_⟩ <;>repeat' (first| exact True.intro| refine ai ?_| refine And.intro ?_ ?_))) rfl ?_
  rintro i rfl
  (conv=>whnf);repeat' ((first| intro g| refine st ?_| (first| refine b1 ?_ ?_| refine b2 ?_ ?_| refine Br.mk ?_ ?_) <;>intro hc| exact rfl) <;>conv=>whnf)
theorem Ia {l0:List bH} {sv:V} (hl:gZ l0) (hs:td 4 (l0.map bH.v) sv): ∀ (k:Nat) (e:Ex),e.size≤k→k≤60→e.Fit→e.b4≠0→ ∃r,Ev E 321 [e.v,sv] ⟨r,[]⟩∧iq (e.cT (aH l0)) r
 | 0,e,h,_,_,_=>by have:=e.size_pos;omega
 | k+1,.mk op var val nl l,h,hk,hf,ht=>by
   have hK:=Cm hl
   have eN:=hs.sv
   have cJ: (Ex.mk op var val nl l).size=1+Ex.bK l:=by simp only[Ex.size]
   have hlen:=Ex.length_le l
   have dj:=vF (Ex.mk op var val nl l) (by omega) hf
   have XX: (Ex.mk op var val nl l).err=0:=by
     unfold Ex.err
     rw[if_neg (by omega),if_neg ht]
   rw[RH (by omega),XX] at dj
   have fH:=mU _ (Ex.mk op var val nl l) (Nat.le_refl _) (by omega)
   have A4:=nW hl hs _ (Ex.mk op var val nl l) (Nat.le_refl _) (by omega) hf ht
   have CE:=oK hK _ (Ex.mk op var val nl l) (Nat.le_refl _) ht
   obtain⟨vv,bE,fR⟩: ∃v,Ev E 345 [(Ex.mk op var val nl l).v,vi (Ex.mk op var val nl l).b4,sv] ⟨v,[]⟩∧jq (eS (Ex.mk op var val nl l).b4 ((Ex.mk op var val nl l).bd (aH l0))) v:=by
     unfold Bounds Words at A4
     obtain⟨a,b,c,d,e',f,L,hv,hp⟩:=(Ex.mk op var val nl l).br
     rw[hv] at A4 ⊢
     exact DX eN hp A4.1 A4.2 (HJ ht) (yT hl _ _ (Nat.le_refl _) hf ht) (fun h3=>CE.some (by rw[CE.text,h3];rfl))
   have ih: ∀x ∈ l,x.b4≠0→ ∃r,Ev E 321 [x.v,sv] ⟨r,[]⟩∧iq (x.cT (aH l0)) r:=fun x hx FR=>
     Ia hl hs k x (by have:=Ex.eU hx;omega) (by omega) (hf.mem x hx) FR
   have Lu: ∀x ∈ l,x.b4≠0→x.b4≠3→Ev E 342 [x.v,sv] ⟨.tuple [vi (x.bd (aH l0)).lo,vi (x.bd (aH l0)).hi],[]⟩:=fun x hx FR h3=>
     (nW hl hs _ x (Nat.le_refl _) (by have:=Ex.eU hx;omega) (hf.mem x hx) FR).1 h3
   rw[Ex.pN]
   cases uc:eS (Ex.mk op var val nl l).b4 ((Ex.mk op var val nl l).bd (aH l0)) with
   | some c=>
     obtain⟨w,rfl⟩:=A6 uc
     rw[uc] at fR
     exact⟨_,MU eN dj bE fR,.inl rfl⟩
   | none=>
     rw[uc] at fR
     rcases eT ht with⟨rfl,rfl,_,hr,e⟩ | ⟨rfl,rfl,_,hv,e⟩ | ⟨x,rfl,rfl,_,_,hx,e⟩ | ⟨x,y,ho,rfl,_,_,hx,hy,e,e6,e45,_⟩ | ⟨x,y,z,rfl,rfl,_,_,hx,hy,hz,e⟩
     · exact⟨_,BB (.inl rfl) eN dj bE fR fH,.inl rfl⟩
     · exact⟨_,BB (.inr rfl) eN dj bE fR fH,.inl rfl⟩
     · exact ME ⟨by decide,by decide,by decide⟩ (by simp) eN (by omega) dj bE fR fH (fun u hu=>ih u hu (by simp at hu;subst hu;omega))
     · have Lv: ∀u ∈ [x,y],∃r,Ev E 321 [u.v,sv] ⟨r,[]⟩∧iq (u.cT (aH l0)) r:=fun u hu=>ih u hu (by simp at hu;rcases hu with rfl| rfl;exact hx;exact hy)
       by_cases h4:op=4
       · subst h4
         have h2:=e45 (.inl rfl)
         exact XI rfl eN (by simp) dj bE fR fH (Lu x (by simp) hx (by omega)) (Lu y (by simp) hy (by omega)) Lv
       by_cases h5:op=5
       · subst h5
         have h2:=e45 (.inr rfl)
         exact XJ rfl eN (by simp) dj bE fR fH (Lu x (by simp) hx (by omega)) (Lu y (by simp) hy (by omega)) Lv
       · have hR:ba none op var val ([x,y].map (Ex.bd (aH l0))) ([x,y].map (Ex.cT (aH l0)))= .mk op var val true ([x,y].map (Ex.cT (aH l0))):=by simp[ba,pick,h4,h5]
         rw[hR]
         exact ME ⟨by omega,h4,h5⟩ (by simp) eN (by simp) dj bE fR fH Lv
     · have Lv: ∀u ∈ [x,y,z],∃r,Ev E 321 [u.v,sv] ⟨r,[]⟩∧iq (u.cT (aH l0)) r:=fun u hu=>ih u hu (by simp at hu;rcases hu with rfl| rfl| rfl;omega;exact hy;omega)
       exact Pp (By:=y.bd (aH l0)) (Bz:=z.bd (aH l0)) rfl eN (by simp) dj bE fR fH (Lu x (by simp) (by omega) (by omega)) Lv
end Go.AM
