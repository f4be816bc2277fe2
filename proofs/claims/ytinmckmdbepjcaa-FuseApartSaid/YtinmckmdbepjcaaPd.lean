/-
  Texts of the proof, joined by program: FpE. Own work.
-/
import Derived.Test.YtinmckmdbepjcaaPb
import Derived.Test.YtinmckmdbepjcaaPc
import Derived.Test.YtinmckmdbepjcaaGd
set_option linter.unusedSimpArgs false
set_option linter.unusedVariables false
set_option maxRecDepth 20000
namespace Go.AM
def YG (d n:Int) (R:List ar) (i:Nat):List ar:=(R.take i).map (YP d n)++R.drop i
theorem abb (d n:Int) (R:List ar):YG d n R 0=R:=by simp[YG]
theorem aaS (d n:Int) (R:List ar) (i:Nat): (YG d n R i).length=R.length:=by simp[YG];omega
theorem abQ (d n:Int) (R:List ar) {k:Nat} (h:R.length=k):YG d n R k=R.map (YP d n):=by
 subst h;simp[YG]
theorem abR (d n:Int) {R:List ar} {i:Nat} {x:ar} (h:R[i]? =some x): (YG d n R i)[i]? =some x:=by
 have hl:=(List.getElem?_eq_some_iff.1 h).1
 unfold YG
 rw[List.getElem?_append_right (by simp;omega)]
 simp only[List.length_map,List.length_take,Nat.min_eq_left (Nat.le_of_lt hl),Nat.sub_self,List.getElem?_drop,Nat.add_zero,h]
theorem abc (d n:Int) {R:List ar} {i:Nat} {x:ar} (h:R[i]? =some x):YG d n R (i+1)=(YG d n R i).set i (YP d n x):=by
 have hl:=(List.getElem?_eq_some_iff.1 h).1
 have hx:R.drop i=x::R.drop (i+1):=by
  rw[List.drop_eq_getElem_cons hl]
  obtain⟨_,rfl⟩:=List.getElem?_eq_some_iff.1 h
  rfl
 have hm: (List.map (YP d n) (List.take i R)).length=i:=by simp;omega
 unfold YG
 rw[hx,List.set_append,if_neg (by rw[hm];omega),List.take_add_one,h,hm,Nat.sub_self]
 simp
theorem abd {R:List ar} {i:Nat} {x:ar} (h:R[i]? =some x):R.set i x=R:=by
 obtain⟨hl,rfl⟩:=List.getElem?_eq_some_iff.1 h
 exact List.set_getElem_self hl
set_option maxHeartbeats 4000000 in
theorem acP {m:aG} {D:List V} {YE kd g8 k1 k2:Nat} {d n t:Int} {Q:aW→SS→Prop} {w0:V} (Sm:w0= .nils∨w0= .own 8 (m.ways.map Way.v)) (w9:Ev E 92 [m.v] ⟨.agg [.own 4 (m.an.map Edge.v),.own 5 (m.ah.map ar.v),w0,.own 7 (m.aw.map Place.v)],[]⟩)
  (hx:D[kd]? =some (vi d)) (hn:D.length=YE) (hk:kd<YE) (hb:YE< 1000000) (ht0:0≤t) (ht:t≤255) (he:0 <m.an.length) (WL:m.an.length< 1000) (hf:0 <m.ah.length) (Ay:m.ah.length< 1000) (Lv:m.aw.length< 1000)
  (vu:t.tmod (m.an.length:Int)=(k1:Int)) (IK:t.tmod (m.ah.length:Int)=(k2:Int)) (acs:k1<m.an.length) (acu:k2<m.ah.length) (oK:m.ah.Pairwise fun a b=>a.id<b.id) (abS:d≠99) (xJ:aat m)
  (hQ: ∀T' O',SS.Sub ⟨[(1,.int .u8 t),(2,vi n),(7,.bool true),(8,.ptr 144 g8 0 0),(18,.lit 1 D),(19,aF YE),(20,aF (kd+1))],[(144,⟨g8,4,false,false,some [m.v]⟩)]⟩ ⟨T',O'⟩→Q .normal ⟨T',O'⟩):
  gY E aah ⟨[(1,.int .u8 t),(2,vi n),(7,.bool true),(8,.ptr 144 g8 0 0),(18,.lit 1 D),(19,aF YE),(20,aF kd)],[(144,⟨g8,4,false,false,some [m.v]⟩)]⟩ Q:=by
 have Pn:gv E 92=[]:=rfl
 have h0:V.aE m.v=true:=aG.ug false m
 have hp:V.aq [m.v]=true:=by simp only[V.aq,h0];rfl
 have hw:IntKind.i64.wrap t=t:=wrap64 (by omega) (by omega)
 have hK1: ((IntKind.i64.wrap t).tmod ((m.an.map Edge.v).length:Int)).toNat=k1:=by rw[hw,List.length_map,vu];simp
 have hK2: ((IntKind.i64.wrap t).tmod ((m.ah.map ar.v).length:Int)).toNat=k2:=by rw[hw,List.length_map,IK];simp
 have hW1:aO (m.an.map Edge.v) (0+((IntKind.i64.wrap t).tmod ((m.an.map Edge.v).length:Int)).toNat) ((m.an.map Edge.v).length - ((IntKind.i64.wrap t).tmod ((m.an.map Edge.v).length:Int)).toNat)=(m.an.drop k1).map Edge.v:=by
  rw[hK1,Nat.zero_add];unfold aO;rw[List.take_of_length_le (by simp),List.map_drop]
 have XK:aO (m.an.map Edge.v) 0 ((IntKind.i64.wrap t).tmod ((m.an.map Edge.v).length:Int)).toNat=(m.an.take k1).map Edge.v:=by
  rw[hK1];unfold aO;rw[List.drop_zero,List.map_take]
 have hW3:aO (m.ah.map ar.v) (0+((IntKind.i64.wrap t).tmod ((m.ah.map ar.v).length:Int)).toNat) ((m.ah.map ar.v).length - ((IntKind.i64.wrap t).tmod ((m.ah.map ar.v).length:Int)).toNat)=(m.ah.drop k2).map ar.v:=by
  rw[hK2,Nat.zero_add];unfold aO;rw[List.take_of_length_le (by simp),List.map_drop]
 have hW4:aO (m.ah.map ar.v) 0 ((IntKind.i64.wrap t).tmod ((m.ah.map ar.v).length:Int)).toNat=(m.ah.take k2).map ar.v:=by
  rw[hK2];unfold aO;rw[List.drop_zero,List.map_take]
 have hP1:=Edge.cN (m.an.drop k1)
 have hP2:=Edge.cN (m.an.take k1)
 have hP3:=ar.cN (m.ah.drop k2)
 have hP4:=ar.cN (m.ah.take k2)
 rcases Sm with rfl| rfl
 all_goals
  (conv=>whnf);repeat' ((first| intro g| refine eY.mk (hP1) ?_| refine eY.mk (hP2) ?_| refine eY.mk (hP3) ?_| refine eY.mk (hP4) ?_| refine aH.mk _ (hx) ?_| refine aH.mk _ (hW1) ?_| refine aH.mk _ (XK) ?_| refine aH.mk _ (hW3) ?_| refine aH.mk _ (hW4) ?_| refine ag.mk _ (w9) ?_| refine st ?_| (first| refine b1 ?_ ?_| refine b2 ?_ ?_| refine Br.mk ?_ ?_) <;>intro hc| exact rfl) <;>conv=>whnf)
  rename_i dK _ _ gE _ _
  clear w9 hW1 XK hW3 hW4 hP1 hP2 hP3 hP4 hK1 hK2
  have e1:0+(List.map ar.v (List.drop k2 m.ah)).length+(List.map ar.v (List.take k2 m.ah)).length=m.ah.length:=by simp;omega
  have e2:0+(List.map Edge.v (List.drop k1 m.an)).length+(List.map Edge.v (List.take k1 m.an)).length=m.an.length:=by simp;omega
  have c1: []++List.map ar.v (List.drop k2 m.ah)++List.map ar.v (List.take k2 m.ah)=(YU m.ah k2).map ar.v:=by simp[YU]
  have c2: []++List.map Edge.v (List.drop k1 m.an)++List.map Edge.v (List.take k1 m.an)=(YU m.an k1).map Edge.v:=by simp[YU]
  simp only[e1,e2,c1,c2]
  have VK:=Zj m.ah k2
  refine ba.by (fun (i:Nat)=>aiS g8 dK gE g m.an.length YE kd t n d m.v D ((YU m.an k1).map Edge.v) (YG d n (YU m.ah k2) i) m.ah.length i) (fun i=>i≤m.ah.length) (fun i=>m.ah.length - i) 0 ?_ (by omega) ?_
  · rw[abb]; (refine⟨?_,?_⟩ <;>repeat' (first| exact True.intro| refine ai ?_| refine And.intro ?_ ?_))
  intro i hi
  try dsimp only at hi
  by_cases bk:i<m.ah.length
  · obtain⟨x,WG⟩: ∃y,(YU m.ah k2)[i]? =some y:=⟨_,aL (by omega)⟩
    have hg:=abR d n WG
    have oK:=abc d n WG
    by_cases hd:x.bg=d
    · refine acr hg (by rw[aaS,VK]) bk Ay hd fun T' O' dg=>bc.mk (i+1) (by first| omega| (dsimp only;omega)) (by omega) ?_
      rw[oK,show YP d n x=x by unfold YP;rw[if_pos hd],abd hg]
      exact dg
    · refine abP hg (by rw[aaS,VK]) bk Ay hd fun T' O' dg=>bc.mk (i+1) (by first| omega| (dsimp only;omega)) (by omega) ?_
      rw[oK,show YP d n x=⟨x.id,x.cls,[111,116,104,101,114],n,99⟩ by unfold YP;rw[if_neg hd]]
      exact dg
  obtain rfl:i=m.ah.length:=by omega
  rw[abQ d n (YU m.ah k2) VK]
  have acv:=aba oK abS (n:=n) (k:=k1) (k':=k2)
  have Ec:aat (Zl m d n k1 k2):=⟨⟨by show (YU m.an k1).length<_;rw[Zj];exact xJ.1.1,fun e he=>xJ.1.2 e (Zi.1 he)⟩,by show ((YU m.ah k2).map (YP d n)).length<_;rw[List.length_map,Zj];exact xJ.2⟩
  have aao:=acq (W:= .nils) (P:= .nils) rfl rfl Ec d
  rw[acv] at aao
  unfold aG.YD Zl at aao
  dsimp only at aao
  have abm:=abC xJ d
  have Uc:gv E 492=[]:=rfl
  have Lv:V.aq [m.v,vi d]=true:=by simp only[V.aq,h0];rfl
  have acQ: ∀ (r:Nat) (k:V→bB),da false r [] (.own 5 ((ZM m d).map Event.v)) k=k (.lit 5 ((ZM m d).map Event.v)):=fun _ _=>rfl
  have sm: (ZM m d).length< 1000000:=by
    have h1:=Y2 m d (YK m).length
    have h2:=Y0 m
    have h3:=xJ.2
    unfold ZM;omega
  have Ts:=aau sm
  have hRE:=Zj m.an k1
  have hCF: ((YU m.ah k2).map (YP d n)).length=m.ah.length:=by rw[List.length_map];exact VK
  generalize YU m.an k1=YH at*
  generalize (YU m.ah k2).map (YP d n)=YI at*
  have Ps:aO (YH.map Edge.v) 0 m.an.length=YH.map Edge.v:=bz (by simp[hRE])
  have zN:aO (YI.map ar.v) 0 m.ah.length=YI.map ar.v:=bz (by simp[hCF])
  have VU:=Edge.cN YH
  have R8:=ar.cN YI
  clear acv Ec
  (conv=>whnf);repeat' ((first| refine nH Uc Lv abm acQ ?_| intro g| refine aH.mk _ (Ps) ?_| refine aH.mk _ (zN) ?_| refine ag.mk _ (aao) ?_| refine ag.mk _ (abm) ?_| refine ag.mk _ (Ts) ?_| refine st ?_| (first| refine b1 ?_ ?_| refine b2 ?_ ?_| refine Br.mk ?_ ?_) <;>intro hc| exact rfl) <;>conv=>whnf)
  all_goals exact hQ _ _ (by(refine⟨?_,?_⟩ <;>repeat' (first| exact True.intro| refine ai ?_| refine And.intro ?_ ?_)))
end Go.AM
