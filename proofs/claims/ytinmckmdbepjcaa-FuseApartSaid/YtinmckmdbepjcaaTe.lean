/-
  Texts of the proof, joined by program: FpG. Own work.
-/
import Derived.Test.YtinmckmdbepjcaaPd
import Derived.Test.YtinmckmdbepjcaaPe
import Derived.Test.YtinmckmdbepjcaaMe
import Derived.Test.YtinmckmdbepjcaaSan
set_option linter.unusedSimpArgs false
set_option linter.unusedVariables false
set_option maxRecDepth 20000
namespace Go.AM
theorem Zm {S:List Int} {x:Int}: ∀t,t≤S.length→x ∈ fD S t→x ∈ S
 | 0,_,h=>by simp[fD] at h
 | t+1,ht,h=>by
   unfold fD at h
   split at h
   · exact Zm t (by omega) h
   · rcases List.mem_append.1 h with h| h
     · exact Zm t (by omega) h
     · have hx:S[t]? =some S[t]:=List.getElem?_eq_getElem (by omega)
       have:x=S[t]:=by simpa [List.getD_eq_getElem?_getD,hx] using h
       rw[this];exact List.getElem_mem _
theorem aaU {m:aG} (h1: ∀f ∈ m.ah,f.bg< 99) (h2: ∀w ∈ m.ways,w.bg< 99) (h3: ∀p ∈ m.aw,p.bg< 99): ∀d ∈ Zp m,d< 99:=by
 intro d hd
 have Ea:d ∈ YY m:=(YS _).mem_iff.1 (Zm _ (Nat.le_refl _) hd)
 unfold YY at Ea
 rcases List.mem_append.1 Ea with hd3| hd3
 · rcases List.mem_append.1 hd3 with hd4| hd4
   · obtain⟨f,hf,rfl⟩:=List.mem_map.1 hd4;exact h1 f hf
   · obtain⟨f,hf,rfl⟩:=List.mem_map.1 hd4;exact h2 f hf
 · obtain⟨f,hf,rfl⟩:=List.mem_map.1 hd3;exact h3 f hf
theorem aaV {t:Int} {k:Nat} (h0:0≤t) (hk:0 <k): ∃r:Nat,t.tmod (k:Int)=(r:Int)∧r<k:=by
 obtain⟨n,rfl⟩:=Int.eq_ofNat_of_zero_le h0
 exact⟨n % k,by rw[Int.ofNat_tmod],Nat.mod_lt _ hk⟩
set_option maxHeartbeats 4000000 in
theorem ZR {ls:List (List Int)} (hs:wa ls) {t n:Int} (ht0:0≤t) (ht:t≤255):Ev E 517 [fU ls,.int .u8 t,vi n] ⟨.bool true,[]⟩:=by
 have XC:gv E 77=[]:=rfl
 have acV:gv E 96=[]:=rfl
 obtain⟨_,Jh,m,hm,rfl⟩:=Df hs
 have n0:=zD.Ch hm
 have hE:m.an.length< 1000:=by have:=n0.e;omega
 have hF:m.ah.length< 1000:=by have:=n0.f;omega
 have hW:m.ways.length< 1000:=by have:=n0.w;omega
 have hP:m.aw.length< 1000:=by have:=n0.p;omega
 have xJ:aat m:=(n0.acN (by omega)).1
 have oK:m.ah.Pairwise fun a b=>a.id<b.id:=hm.fst
 have hd9:=aaU hm.ack hm.ways.2.2 hm.aw.2.2
 have aap:0 <m.an.length:=by
   obtain⟨e,he,_⟩:=hm.has
   exact List.length_pos_of_mem he
 have abn:=hm.acL
 have acy:=aaT hF hW hP
 have h0:V.aE m.v=true:=aG.ug false m
 have VB:V.aq [m.v]=true:=by simp only[V.aq,h0];rfl
 have R5:V.aq [fU ls]=true:=rfl
 have i96: ∀ (r:Nat) (k:V→bB),da false r [] (.own 1 ((Zp m).map vi)) k=k (.lit 1 ((Zp m).map vi)):=fun _ _=>rfl
 have hl:=hs.1
 have BP: (Zp m).length< 1000000:=by
   have h1:=aaG (YY m)
   have h2: (YY m).length< 3000:=by simp[YY];omega
   unfold Zp;omega
 obtain⟨_,w9,e0,w0,MO,Sm,rfl⟩:=By hE hW hF hP n0.el n0.wl
 have WK:e0= .own 4 (m.an.map Edge.v):=by
   rcases MO with⟨_,h⟩ | h
   · rw[h] at aap;simp at aap
   · exact h
 subst WK
 have Ps:w0= .nils∨w0= .own 8 (m.ways.map Way.v):=Sm.imp (fun h=>h.1) id
 obtain⟨k1,vu,acs⟩:=aaV ht0 aap
 obtain⟨k2,IK,acu⟩:=aaV ht0 abn
 refine Ev.bU abX (abY _) rfl ?_
 generalize Zp m=D at*
 (conv=>whnf);repeat' ((first| refine nH XC R5 Jh (Mx m) ?_| refine nH acV VB acy i96 ?_| intro g| refine ag.mk _ (Gr) ?_| refine st ?_| (first| refine b1 ?_ ?_| refine b2 ?_ ?_| refine Br.mk ?_ ?_) <;>intro hc| exact rfl) <;>conv=>whnf)
 clear Jh R5 acy i96 MO Sm
 refine ba.by (fun (k:Nat)=> ⟨[(1,.int .u8 t),(2,vi n),(7,.bool true),(8,.ptr 144 g 0 0),(18,.lit 1 (D.map vi)),(19,aF D.length),(20,aF k)],[(144,⟨g,4,false,false,some [m.v]⟩)]⟩) (fun k=>k≤D.length) (fun k=>D.length - k) 0 ?_ (by omega) ?_
 · (refine⟨?_,?_⟩ <;>repeat' (first| exact True.intro| refine And.intro ((by(conv=>whnf);simp)) ?_| refine ai ?_| refine And.intro ?_ ?_))
 intro kd FT
 try dsimp only at FT
 by_cases bk:kd<D.length
 · obtain⟨d,hd⟩: ∃y,D[kd]? =some y:=⟨_,aL bk⟩
   have abS:d≠99:=by have:=hd9 d (List.mem_of_getElem? hd);omega
   exact acP (d:=d) Ps w9 (by simp[hd]) (by simp) bk BP ht0 ht aap hE abn hF hP vu IK acs acu oK abS xJ fun T' O' dg=>bc.mk (kd+1) (by first| omega| (dsimp only;omega)) (by omega) dg
 · obtain rfl:kd=D.length:=by omega
   (conv=>whnf);repeat' ((first| intro g| refine st ?_| (first| refine b1 ?_ ?_| refine b2 ?_ ?_| refine Br.mk ?_ ?_) <;>intro hc| exact rfl) <;>conv=>whnf)
end Go.AM
