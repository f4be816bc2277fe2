/-
  Texts of the proof: LbB, LbC, LbD, LbE.
-/
import Derived.Test.YtjkmpppkkhbjkaaGreatDc
import Derived.Test.YtjkmpppkkhbjkaaGreatTa
set_option maxRecDepth 20000
set_option linter.unusedSimpArgs false
set_option linter.unusedVariables false
set_option maxHeartbeats 4000000
namespace Go.AM
theorem MW {z:Nat} {r:Int} (hz:z≤1023) (h0:0≤r) (h1:r≤2000):0≤((z:Int)+1)*((z:Int)+1)∧((z:Int)+1)*((z:Int)+1)≤1048576∧0≤((z:Int)+1)*((z:Int)+1)*r∧((z:Int)+1)*((z:Int)+1)*r≤2097152000∧
  0≤((z:Int)+1)*((z:Int)+1)*r*r∧((z:Int)+1)*((z:Int)+1)*r*r≤4194304000000:=by
 have a0:0≤((z:Int)+1)*((z:Int)+1):=Int.mul_nonneg (by omega) (by omega)
 have a1: ((z:Int)+1)*((z:Int)+1)≤1048576:=Int.mul_le_mul (c:=1024) (d:=1024) (by omega) (by omega) (by omega) (by omega)
 generalize ((z:Int)+1)*((z:Int)+1)=A at*
 have b0:0≤A*r:=Int.mul_nonneg a0 h0
 have b1:A*r≤2097152000:=Int.mul_le_mul (c:=1048576) (d:=2000) a1 h1 h0 (by omega)
 generalize A*r=B at*
 exact⟨a0,a1,b0,b1,Int.mul_nonneg b0 h0,Int.mul_le_mul (c:=2097152000) (d:=2000) b1 h1 h0 (by omega)⟩
theorem B4 (a b:dq):Ev E 621 [a.v,b.v] ⟨vi (gG a b),[]⟩:=by
 have hb:=DC a b
 have hr:=wv a b
 by_cases tx:wx a b=true
 case neg=>
   have tx:wx a b=false:=by simpa using tx
   have h1:=Bi tx
   have h2:gG a b=0:=by unfold gG;rw[tx];rfl
   rw[h2]
   refine Ev.aT Kr (Ks _) rfl ?_
   (conv=>whnf);repeat' ((first| intro g| refine ah.mk _ (h1) ?_| refine ah.mk _ (hb) ?_| refine st ?_| (first| refine b1 ?_ ?_| refine b2 ?_ ?_| refine Br.mk ?_ ?_) <;>intro hc| exact rfl) <;>conv=>whnf)
 have h1:=Bh tx
 have h2:gG a b=(xC (Cq a b) (ib a b) 1024:Int):=by unfold gG;rw[if_pos tx]
 rw[h2]
 clear h2 tx
 generalize Cq a b=sq at*
 generalize ib a b=r at*
 obtain⟨N,hN⟩: ∃N,N=xC sq r 1024:=⟨_,rfl⟩
 rw[←hN]
 refine Ev.aT Kr (Ks _) rfl ?_
 (conv=>whnf);repeat' ((first| intro g| refine ah.mk _ (h1) ?_| refine ah.mk _ (hb) ?_| refine st ?_| (first| refine b1 ?_ ?_| refine b2 ?_ ?_| refine Br.mk ?_ ?_) <;>intro hc| exact rfl) <;>conv=>whnf)
 refine aI.by (fun z:Nat=> ⟨[(5,vi sq),(7,vi r),(8,aC z)],[]⟩) (fun z=>z≤1024∧(z=0∨(z:Int)*z*r*r≤sq)) (fun z=>1024 - z) 0 (by(refine⟨?_,?_⟩ <;>repeat' (first| exact True.intro| refine ai ?_| refine And.intro ?_ ?_))) ⟨by omega,.inl rfl⟩ ?_
 rintro z ⟨hz,hle⟩
 by_cases bp:z< 1024
 case neg=>
   obtain rfl:z=1024:=by omega
   rw[nr (z:=1024) (n:=1024) (by omega) hle (.inl rfl)] at hN
   subst hN
   (conv=>whnf);repeat' ((first| intro g| refine st ?_| (first| refine b1 ?_ ?_| refine b2 ?_ ?_| refine Br.mk ?_ ?_) <;>intro hc| exact rfl) <;>conv=>whnf)
 obtain⟨a0,a1,b0,b1,c0,c1⟩:=MW (z:=z) (r:=r) (by omega) hr.1 hr.2
 have w1:IntKind.i64.wrap ((z:Int)+1)=(z:Int)+1:=wrap64 (by omega) (by omega)
 have hw:IntKind.i64.wrap (IntKind.i64.wrap (IntKind.i64.wrap (IntKind.i64.wrap ((z:Int)+1)*IntKind.i64.wrap ((z:Int)+1))*r)*r)=((z:Int)+1)*((z:Int)+1)*r*r:=by
   rw[w1,wrap64 (n:=((z:Int)+1)*((z:Int)+1)) (by omega) (by omega),wrap64 (n:=((z:Int)+1)*((z:Int)+1)*r) (by omega) (by omega),wrap64 (n:=((z:Int)+1)*((z:Int)+1)*r*r) (by omega) (by omega)]
 by_cases J1: ((z:Int)+1)*((z:Int)+1)*r*r≤sq
 · have aaK:IntKind.i64.wrap (IntKind.i64.wrap (IntKind.i64.wrap (IntKind.i64.wrap ((z:Int)+1)*IntKind.i64.wrap ((z:Int)+1))*r)*r)≤sq:=by rw[hw];exact J1
   clear hw a0 a1 b0 b1 c0 c1 w1
   (conv=>whnf);repeat' ((first| intro g| refine st ?_| (first| refine b1 ?_ ?_| refine b2 ?_ ?_| refine Br.mk ?_ ?_) <;>intro hc| exact rfl) <;>conv=>whnf)
   exact aE.mk (z+1) (by omega) ⟨by omega,.inr (by simpa using J1)⟩ (by(refine⟨?_,?_⟩ <;>repeat' (first| exact True.intro| refine ai ?_| refine And.intro ?_ ?_)))
 · have aaK: ¬IntKind.i64.wrap (IntKind.i64.wrap (IntKind.i64.wrap (IntKind.i64.wrap ((z:Int)+1)*IntKind.i64.wrap ((z:Int)+1))*r)*r)≤sq:=by rw[hw];exact J1
   rw[nr (z:=z) (n:=1024) (by omega) hle (.inr (by omega))] at hN
   subst hN
   clear hw a0 a1 b0 b1 c0 c1 w1 J1
   (conv=>whnf);repeat' ((first| intro g| refine st ?_| (first| refine b1 ?_ ?_| refine b2 ?_ ?_| refine Br.mk ?_ ?_) <;>intro hc| exact rfl) <;>conv=>whnf)
theorem Es {h:bI} (hl:h.fg.length< 1000000) (id:Int):Ev E 634 [h.v,vi id] ⟨vi (jh h id),[]⟩:=by
 refine Ev.aT Vj (Vk _) rfl ?_
 (conv=>whnf);repeat' ((first| intro g| refine st ?_| (first| refine b1 ?_ ?_| refine b2 ?_ ?_| refine Br.mk ?_ ?_) <;>intro hc| exact rfl) <;>conv=>whnf)
 obtain⟨dn,hg⟩: ∃x,x=g:=⟨_,rfl⟩
 rw[←hg];clear hg
 refine aI.by (fun k:Nat=> ⟨[(1,vi id),(2,.ptr 48 dn 0 0),(5,aC k)],[(48,⟨dn,2,false,false,some [h.v]⟩)]⟩) (fun k=>k≤h.fg.length∧ ∀ (j:Nat) y,j<k→h.fg[j]? =some y→nY id y=false) (fun k=>h.fg.length - k) 0 (by(refine⟨?_,?_⟩ <;>repeat' (first| exact True.intro| refine ai ?_| refine And.intro ?_ ?_))) ⟨by omega,by simp⟩ ?_
 rintro k ⟨hk,eh⟩
 by_cases bp:k<h.fg.length
 case neg=>
   have h1:jh h id= -1:=Da eh (by omega)
   rw[h1]
   (conv=>whnf);repeat' ((first| intro g| refine st ?_| (first| refine b1 ?_ ?_| refine b2 ?_ ?_| refine Br.mk ?_ ?_) <;>intro hc| exact rfl) <;>conv=>whnf)
 obtain⟨e,he⟩: ∃x,h.fg[k]? =some x:=⟨_,aD bp⟩
 by_cases hp:nY id e=true
 · have h1:jh h id=k:=di eh he hp
   rw[h1]
   simp only[nY,Bool.and_eq_true,decide_eq_true_eq] at hp
   obtain⟨p1,p2,p3⟩:=hp
   (conv=>whnf);repeat' ((first| ((exfalso;omega)) | intro g| refine aN.mk _ (al he rfl) ?_| refine st ?_| (first| refine b1 ?_ ?_| refine b2 ?_ ?_| refine Br.mk ?_ ?_) <;>intro hc| exact rfl) <;>conv=>whnf)
 · have hf:nY id e=false:=by simpa using hp
   simp only[nY,Bool.and_eq_true,decide_eq_true_eq] at hp
   (conv=>whnf);repeat' ((first| intro g| refine aN.mk _ (al he rfl) ?_| refine st ?_| (first| refine b1 ?_ ?_| refine b2 ?_ ?_| refine Br.mk ?_ ?_) <;>intro hc| exact rfl) <;>conv=>whnf)
   all_goals first
    | (exfalso;omega)
    | exact aE.mk (k+1) (by first| omega| (dsimp only;omega)) ⟨by omega,yw eh he hf⟩ (by(refine⟨?_,?_⟩ <;>repeat' (first| exact True.intro| refine ai ?_| refine And.intro ?_ ?_)))
end Go.AM
set_option maxHeartbeats 4000000
namespace Go.AM
theorem vl {h:bI} {id:Int} (hk:jh h id= -1):jL h id=1024:=by unfold jL;rw[hk];rfl
theorem vm {h:bI} {id:Int} (hk:jh h id=0):jL h id=0:=by unfold jL;rw[hk];rfl
theorem vn {h:bI} {id:Int} {k:Nat} {e:Event} (hk:jh h id=((k+1:Nat):Int)) (he:h.fg[k]? =some e):jL h id=if e.at_< 0∨1024 <e.at_ then 0 else e.at_:=by
 unfold jL
 rw[hk,if_neg (by omega),if_neg (by omega)]
 have: ((k+1:Nat):Int).toNat - 1=k:=by omega
 rw[this]
 simp[List.getD_eq_getElem?_getD,he]
theorem Et {h:bI} (hl:h.fg.length< 1000000) (id:Int):Ev E 620 [h.v,vi id] ⟨vi (jL h id),[]⟩:=by
 have hg:=Es hl id
 rcases bV (nY id) h.fg with⟨hk,_⟩ | ⟨i,x,hk,hx,_⟩
 · have hk:jh h id= -1:=hk
   rw[vl hk]
   rw[hk] at hg
   refine Ev.aT zl (zm _) rfl ?_
   (conv=>whnf);repeat' ((first| intro g| refine ah.mk _ (hg) ?_| refine st ?_| (first| refine b1 ?_ ?_| refine b2 ?_ ?_| refine Br.mk ?_ ?_) <;>intro hc| exact rfl) <;>conv=>whnf)
 have hk:jh h id=i:=hk
 have Zc:=(List.getElem?_eq_some_iff.1 hx).1
 cases i with
 | zero=>
   rw[vm hk]
   rw[hk] at hg
   refine Ev.aT zl (zm _) rfl ?_
   (conv=>whnf);repeat' ((first| intro g| refine ah.mk _ (hg) ?_| refine st ?_| (first| refine b1 ?_ ?_| refine b2 ?_ ?_| refine Br.mk ?_ ?_) <;>intro hc| exact rfl) <;>conv=>whnf)
 | succ k=>
   obtain⟨e,he⟩: ∃e,h.fg[k]? =some e:=⟨_,aD (by omega)⟩
   have w1:IntKind.i64.wrap (((k+1:Nat):Int) - 1)=(k:Int):=(wrap64 (by omega) (by omega)).trans (by omega)
   rw[vn hk he]
   rw[hk] at hg
   by_cases ha:e.at_< 0
   · rw[if_pos (.inl ha)]
     refine Ev.aT zl (zm _) rfl ?_
     (conv=>whnf);repeat' ((first| ((exfalso;omega)) | intro g| refine aN.mk _ (al he w1) ?_| refine ah.mk _ (hg) ?_| refine st ?_| (first| refine b1 ?_ ?_| refine b2 ?_ ?_| refine Br.mk ?_ ?_) <;>intro hc| exact rfl) <;>conv=>whnf)
   by_cases hb:1024 <e.at_
   · rw[if_pos (.inr hb)]
     refine Ev.aT zl (zm _) rfl ?_
     (conv=>whnf);repeat' ((first| ((exfalso;omega)) | intro g| refine aN.mk _ (al he w1) ?_| refine ah.mk _ (hg) ?_| refine st ?_| (first| refine b1 ?_ ?_| refine b2 ?_ ?_| refine Br.mk ?_ ?_) <;>intro hc| exact rfl) <;>conv=>whnf)
   · rw[if_neg (by omega)]
     refine Ev.aT zl (zm _) rfl ?_
     (conv=>whnf);repeat' ((first| ((exfalso;omega)) | intro g| refine aN.mk _ (al he w1) ?_| refine ah.mk _ (hg) ?_| refine st ?_| (first| refine b1 ?_ ?_| refine b2 ?_ ?_| refine Br.mk ?_ ?_) <;>intro hc| exact rfl) <;>conv=>whnf)
theorem Hp {l:List dq} (hl:l.length< 1000000):Ev E 598 [.lit 6 (l.map dq.v),.lit 6 (l.map dq.v)] ⟨.bool true,[]⟩:=by
 refine Ev.aT Ut (Uu _) rfl ?_
 (conv=>whnf);repeat' ((first| ((exfalso;omega)) | intro g| refine st ?_| (first| refine b1 ?_ ?_| refine b2 ?_ ?_| refine Br.mk ?_ ?_) <;>intro hc| exact rfl) <;>conv=>whnf)
 refine aI.by (fun k:Nat=> ⟨[(0,.lit 6 (l.map dq.v)),(1,.lit 6 (l.map dq.v)),(5,aC k)],[]⟩) (fun k=>k≤l.length) (fun k=>l.length - k) 0 (by(refine⟨?_,?_⟩ <;>repeat' (first| exact True.intro| refine ai ?_| refine And.intro ?_ ?_))) (by omega) ?_
 rintro k hk
 by_cases bp:k<l.length
 · obtain⟨x,hx⟩: ∃x,l[k]? =some x:=⟨_,aD bp⟩
   (conv=>whnf);repeat' ((first| intro g| refine aN.mk _ (al hx rfl) ?_| refine st ?_| (first| refine b1 ?_ ?_| refine b2 ?_ ?_| refine Br.mk ?_ ?_) <;>intro hc| exact rfl) <;>conv=>whnf)
   exact aE.mk (k+1) (by first| omega| (dsimp only;omega)) (by omega) (by(refine⟨?_,?_⟩ <;>repeat' (first| exact True.intro| refine ai ?_| refine And.intro ?_ ?_)))
 · (conv=>whnf);repeat' ((first| intro g| refine st ?_| (first| refine b1 ?_ ?_| refine b2 ?_ ?_| refine Br.mk ?_ ?_) <;>intro hc| exact rfl) <;>conv=>whnf)
theorem Ld {l:List Int} (hl:l.length< 1000000):Ev E 599 [.lit 1 (l.map vi),.lit 1 (l.map vi)] ⟨.bool true,[]⟩:=by
 refine Ev.aT Uv (Uw _) rfl ?_
 (conv=>whnf);repeat' ((first| ((exfalso;omega)) | intro g| refine st ?_| (first| refine b1 ?_ ?_| refine b2 ?_ ?_| refine Br.mk ?_ ?_) <;>intro hc| exact rfl) <;>conv=>whnf)
 refine aI.by (fun k:Nat=> ⟨[(0,.lit 1 (l.map vi)),(1,.lit 1 (l.map vi)),(5,aC k)],[]⟩) (fun k=>k≤l.length) (fun k=>l.length - k) 0 (by(refine⟨?_,?_⟩ <;>repeat' (first| exact True.intro| refine ai ?_| refine And.intro ?_ ?_))) (by omega) ?_
 rintro k hk
 by_cases bp:k<l.length
 · obtain⟨x,hx⟩: ∃x,l[k]? =some x:=⟨_,aD bp⟩
   (conv=>whnf);repeat' ((first| ((exfalso;omega)) | intro g| refine aN.mk _ (al hx rfl) ?_| refine st ?_| (first| refine b1 ?_ ?_| refine b2 ?_ ?_| refine Br.mk ?_ ?_) <;>intro hc| exact rfl) <;>conv=>whnf)
   exact aE.mk (k+1) (by first| omega| (dsimp only;omega)) (by omega) (by(refine⟨?_,?_⟩ <;>repeat' (first| exact True.intro| refine ai ?_| refine And.intro ?_ ?_)))
 · (conv=>whnf);repeat' ((first| intro g| refine st ?_| (first| refine b1 ?_ ?_| refine b2 ?_ ?_| refine Br.mk ?_ ?_) <;>intro hc| exact rfl) <;>conv=>whnf)
theorem Ap (s:vF):Ev E 606 [.str s] ⟨vi (Iu s),[]⟩:=by
 refine Ev.aT UJ (UK _) rfl ?_
 (conv=>whnf);repeat' ((first| intro g| refine st ?_| (first| refine b1 ?_ ?_| refine b2 ?_ ?_| refine Br.mk ?_ ?_) <;>intro hc| exact rfl) <;>conv=>whnf)
theorem Hq (s:vF):Ev E 604 [.str s] ⟨vi (Iu s),[]⟩:=by
 refine Ev.aT UF (UG _) rfl ?_
 (conv=>whnf);repeat' ((first| intro g| refine st ?_| (first| refine b1 ?_ ?_| refine b2 ?_ ?_| refine Br.mk ?_ ?_) <;>intro hc| exact rfl) <;>conv=>whnf)
theorem dM {α:Type} {l:List α} {k:Nat} {x:α} (h:l[k]? =some x):l.take (k+1)=l.take k++[x]:=by
 rw[List.take_add_one,h];rfl
theorem vp {l:List dq} {y:dq} {q:Int} (h:0 <y.mw∧q≤y.mw*y.mw):eD (l++[y]) q=eD l q++[y.id]:=by
 unfold eD;rw[List.filter_append];simp[h]
theorem nK {l:List dq} {y:dq} {q:Int} (h: ¬ (0 <y.mw∧q≤y.mw*y.mw)):eD (l++[y]) q=eD l q:=by
 unfold eD;rw[List.filter_append];simp[h]
theorem o8 (l:List dq) (q:Int): (eD l q).length≤l.length:=by
 unfold eD;rw[List.length_map];exact List.length_filter_le _ _
theorem Hr {u:Int} (h0:0 <u) (h1:u≤1024):0≤u*u∧u*u≤1048576:=⟨Int.mul_nonneg (by omega) (by omega),Int.mul_le_mul (c:=1024) (d:=1024) h1 h1 (by omega) (by omega)⟩
theorem B5 {l:List dq} (hl:l.length< 1000000) (ht: ∀y ∈ l,y.mw≤1024) (q:Int):Ev E 603 [.lit 6 (l.map dq.v),vi q] ⟨.own 1 ((eD l q).map vi),[]⟩:=by
 refine Ev.aT UD (UE _) rfl ?_
 (conv=>whnf);repeat' ((first| intro g| refine st ?_| (first| refine b1 ?_ ?_| refine b2 ?_ ?_| refine Br.mk ?_ ?_) <;>intro hc| exact rfl) <;>conv=>whnf)
 refine aI.by (fun ((k,L,g):Nat×List Int×Nat)=> ⟨[(0,.lit 6 (l.map dq.v)),(1,vi q),(5,.sl 97 g 0 L.length),(6,aC k)],[(97,⟨g,1,true,false,some (L.map vi)⟩)]⟩) (fun (k,L,_)=>k≤l.length∧L=eD (l.take k) q) (fun (k,_)=>l.length - k) (0,[],g) (by(refine⟨?_,?_⟩ <;>repeat' (first| exact True.intro| refine ai ?_| refine And.intro ?_ ?_))) ⟨by simp,by simp[eD]⟩ ?_
 clear g
 rintro⟨k,L,gl⟩ ⟨hk,hL⟩
 try dsimp only at hk hL
 have hlen:L.length≤k:=by rw[hL];exact Nat.le_trans (o8 _ _) (by simp;omega)
 by_cases bp:k<l.length
 case neg=>
   rw[List.take_of_length_le (by omega)] at hL
   rw[←hL]
   (conv=>whnf);repeat' ((first| intro g| refine st ?_| (first| refine b1 ?_ ?_| refine b2 ?_ ?_| refine Br.mk ?_ ?_) <;>intro hc| exact rfl) <;>conv=>whnf)
 obtain⟨y,hy⟩: ∃x,l[k]? =some x:=⟨_,aD bp⟩
 have hyt:=ht y (List.mem_of_getElem? hy)
 have vq:=dM hy
 by_cases h0:0 <y.mw
 case neg=>
   (conv=>whnf);repeat' ((first| ((exfalso;omega)) | intro g| refine aN.mk _ (al hy rfl) ?_| refine st ?_| (first| refine b1 ?_ ?_| refine b2 ?_ ?_| refine Br.mk ?_ ?_) <;>intro hc| exact rfl) <;>conv=>whnf)
   exact aE.mk (k+1,L,gl) (by first| omega| (dsimp only;omega)) ⟨by omega,by rw[vq,nK (fun h=>h0 h.1)];exact hL⟩ (by(refine⟨?_,?_⟩ <;>repeat' (first| exact True.intro| refine ai ?_| refine And.intro ?_ ?_)))
 obtain⟨b0,b1⟩:=Hr h0 hyt
 have hw:IntKind.i64.wrap (y.mw*y.mw)=y.mw*y.mw:=wrap64 (by omega) (by omega)
 by_cases hq:q≤y.mw*y.mw
 · have BH:q≤IntKind.i64.wrap (y.mw*y.mw):=by rw[hw];exact hq
   clear b0 b1 hw
   (conv=>whnf);repeat' ((first| ((exfalso;omega)) | intro g| refine aN.mk _ (al hy rfl) ?_| refine st ?_| (first| refine b1 ?_ ?_| refine b2 ?_ ?_| refine Br.mk ?_ ?_) <;>intro hc| exact rfl) <;>conv=>whnf)
   exact aE.mk (k+1,L++[y.id],g) (by first| omega| (dsimp only;omega)) ⟨by omega,by rw[vq,vp ⟨h0,hq⟩,hL]⟩ (by(refine⟨?_,?_⟩ <;>repeat' (first| exact True.intro| refine ai ?_| refine And.intro ?_ ?_)))
 · have BH: ¬q≤IntKind.i64.wrap (y.mw*y.mw):=by rw[hw];exact hq
   clear b0 b1 hw
   (conv=>whnf);repeat' ((first| ((exfalso;omega)) | intro g| refine aN.mk _ (al hy rfl) ?_| refine st ?_| (first| refine b1 ?_ ?_| refine b2 ?_ ?_| refine Br.mk ?_ ?_) <;>intro hc| exact rfl) <;>conv=>whnf)
   exact aE.mk (k+1,L,gl) (by first| omega| (dsimp only;omega)) ⟨by omega,by rw[vq,nK (fun h=>hq h.2)];exact hL⟩ (by(refine⟨?_,?_⟩ <;>repeat' (first| exact True.intro| refine ai ?_| refine And.intro ?_ ?_)))
end Go.AM
set_option maxHeartbeats 4000000
namespace Go.AM
theorem JD {α:Type} {out:List α} {z x:α} {p:Nat} (hp:p≤out.length): ((out++[z]).take (p+1)++(((out++[z]).drop p).take (out.length+1 - p)).take (out.length - p)++(out++[z]).drop (p+1+((((out++[z]).drop p).take (out.length+1 - p)).take (out.length - p)).length)).set p x=out.take p++x::out.drop p:=by
 have h1: ((out++[z]).drop p).take (out.length+1 - p)=out.drop p++[z]:=by
  rw[List.drop_append_of_le_length hp,List.take_of_length_le (by simp;omega)]
 have h2: (out.drop p++[z]).take (out.length - p)=out.drop p:=by
  rw[List.take_append_of_le_length (by simp),List.take_of_length_le (by simp)]
 have h3: (out++[z]).drop (p+1+(out.drop p).length)=[]:=List.drop_of_length_le (by simp;omega)
 rw[h1,h2,h3,List.append_nil]
 obtain⟨y,hy⟩: ∃y,(out++[z])[p]? =some y:=⟨_,aD (by simp;omega)⟩
 rw[dM hy,List.take_append_of_le_length hp,List.append_assoc]
 have hl: (out.take p).length=p:=by simp;omega
 rw[List.set_append,if_neg (by omega),hl,Nat.sub_self]
 rfl
def zP:Place:=⟨0,0,0,[],[],0,0⟩
abbrev Zd:V:= .agg [vi 0,vi 0,vi 0,.str [],.str [],vi 0,vi 0]
theorem Hs {out:List Place}:out.map Place.v++[Zd]=(out++[zP]).map Place.v:=by simp[zP,Place.v]
theorem yx {out:List Place} {x:Place} {p o i n d k:Nat} (hp:p≤out.length) (ho:o=p+1) (hn:n=out.length - p) (hd:d=p) (hk:k=out.length+1 - p) (hi:i=p):
  ((overwrite (out.map Place.v++[Zd]) o (((((out++[zP]).drop d).take k).map Place.v).take n)).set i x.v)=(out.take p++x::out.drop p).map Place.v:=by
 subst ho hn hd hk hi
 rw[Hs,←JD (z:=zP) (x:=x) hp]
 unfold overwrite
 simp only[List.map_set,List.map_append,List.map_take,List.map_drop,List.length_take,List.length_map,List.length_drop,List.length_append,List.map_cons,List.map_nil,List.length_cons,List.length_nil]
theorem MX {out:List Place} {o n:Nat}:aJ (out.map Place.v++[Zd]) o n=(((out++[zP]).drop o).take n).map Place.v:=by
 rw[Hs];unfold aJ;simp[List.map_drop,List.map_take]
theorem MY {l:List Place} {n:Nat}: ((l.map Place.v).take n).all (aO · 7)=true:=by
 rw[←List.map_take];exact AM.mr (fun _=>rfl) _
theorem rL {A Y:List V} {o i:Nat} {e:V} (h:A[i]? =some e) (ho:i<o): (overwrite A o Y)[i]? =some e:=by
 have hl:=(List.getElem?_eq_some_iff.1 h).1
 unfold overwrite
 rw[List.append_assoc,List.getElem?_append_left (by simp;omega),List.getElem?_take_of_lt ho,h]
theorem xa {l:List Place} {x:Place} (h:x.name≠[]):named (l++[x])=named l++[x]:=by unfold named;rw[List.filter_append];simp[h]
theorem Aq {l:List Place} {x:Place} (h:x.name=[]):named (l++[x])=named l:=by unfold named;rw[List.filter_append];simp[h]
theorem xb (l:List Place): (named l).length≤l.length:=List.length_filter_le _ _
theorem Db {out:List Place} {x:Place} {p:Nat} (hp:p≤out.length) (h1: ∀j y,p≤j→out[j]? =some y→eC x y=true) (h2:p=0∨ ∃y,out[p - 1]? =some y∧eC x y=false):qa eC x out=out.take p++x::out.drop p:=by
 have:=Ct (c:=eC) (x:=x) (pre:=out.take p) (mid:=out.drop p) (fun y hy=>by
  obtain⟨j,hj⟩:=List.mem_iff_getElem?.1 hy
  rw[List.getElem?_drop] at hj
  exact h1 _ y (by omega) hj) (fun y hy=>by
  rcases h2 with rfl| ⟨z,hz,hf⟩
  · simp at hy
  · have hl:=(List.getElem?_eq_some_iff.1 hz).1
    by_cases zK:p=0
    · subst zK;simp at hy
    rw[List.getLast?_eq_getElem?,List.length_take,Nat.min_eq_left hp,List.getElem?_take_of_lt (by omega),hz] at hy
    injection hy with hy;subst hy;exact hf)
 rwa [List.take_append_drop] at this
theorem sE {m:bk} (hm:m.au.length< 1000):Ev E 619 [m.v] ⟨.own 7 ((cU m.au).map Place.v),[]⟩:=by
 obtain⟨ps,vG⟩: ∃ps,m.au=ps:=⟨_,rfl⟩
 refine Ev.aT UU (UW _) rfl ?_
 rw[vG]
 (conv=>whnf);repeat' ((first| intro g| refine st ?_| (first| refine b1 ?_ ?_| refine b2 ?_ ?_| refine Br.mk ?_ ?_) <;>intro hc| exact rfl) <;>conv=>whnf)
 rename_i dn _
 refine aI.by (fun ((k,out,g):Nat×List Place×Nat)=> ⟨[(1,.ptr 32 dn 0 0),(3,.sl 65 g 0 out.length),(4,aC k)],[(32,⟨dn,4,false,false,some [m.v]⟩),(65,⟨g,7,true,false,some (out.map Place.v)⟩)]⟩) (fun (k,out,_)=>k≤m.au.length∧out=cU (m.au.take k)) (fun (k,_)=>m.au.length - k) (0,[],g) (by(refine⟨?_,?_⟩ <;>repeat' (first| exact True.intro| refine ai ?_| refine And.intro ?_ ?_))) ⟨by simp,by simp[cU,named,fh]⟩ ?_
 clear g
 rintro⟨k,out,g5⟩ ⟨hk,ho⟩
 try dsimp only at hk ho
 have hlen:out.length≤k:=by rw[ho];unfold cU;rw[dt];exact Nat.le_trans (xb _) (by simp;omega)
 by_cases bp:k<m.au.length
 case neg=>
   rw[List.take_of_length_le (by omega),vG] at ho
   rw[←ho]
   (conv=>whnf);repeat' ((first| intro g| refine st ?_| (first| refine b1 ?_ ?_| refine b2 ?_ ?_| refine Br.mk ?_ ?_) <;>intro hc| exact rfl) <;>conv=>whnf)
 obtain⟨x,hx⟩: ∃x,m.au[k]? =some x:=⟨_,aD bp⟩
 have vq:=dM hx
 by_cases Is:x.name=[]
 · (conv=>whnf);repeat' ((first| intro g| refine aN.mk _ (al hx rfl) ?_| refine st ?_| (first| refine b1 ?_ ?_| refine b2 ?_ ?_| refine Br.mk ?_ ?_) <;>intro hc| exact rfl) <;>conv=>whnf)
   exact aE.mk (k+1,out,g5) (by first| omega| (dsimp only;omega)) ⟨by omega,by rw[vq];unfold cU;rw[Aq Is];exact ho⟩ (by(refine⟨?_,?_⟩ <;>repeat' (first| exact True.intro| refine ai ?_| refine And.intro ?_ ?_)))
 have dX:cU (m.au.take (k+1))=qa eC x out:=by
   rw[vq,ho];unfold cU;rw[xa Is,ud]
 obtain⟨n,hn⟩: ∃n,out.length=n:=⟨_,rfl⟩
 (conv=>whnf);repeat' ((first| intro g| refine aN.mk _ (al hx rfl) ?_| refine st ?_| (first| refine b1 ?_ ?_| refine b2 ?_ ?_| refine Br.mk ?_ ?_) <;>intro hc| exact rfl) <;>conv=>whnf)
 obtain⟨I5,hg⟩: ∃x,x=g:=⟨_,rfl⟩
 rw[←hg];clear hg
 refine aI.by (fun p:Nat=> ⟨[(1,.ptr 32 dn 0 0),(3,.sl 65 g5 0 n),(4,aC k),(5,.ptr 96 I5 0 0),(6,aC p)],[(32,⟨dn,4,false,false,some [m.v]⟩),(65,⟨g5,7,true,false,some (out.map Place.v)⟩),(96,⟨I5,7,false,false,some [x.v]⟩)]⟩) (fun p=>p≤n∧ ∀j y,p≤j→out[j]? =some y→eC x y=true) (fun p=>p) n (by rw[←hn]; (refine⟨?_,?_⟩ <;>repeat' (first| exact True.intro| refine ai ?_| refine And.intro ?_ ?_))) ⟨Nat.le_refl _,fun j y hj hy=>by have:=(List.getElem?_eq_some_iff.1 hy).1;omega⟩ ?_
 rintro p ⟨hp,hbf⟩
 have w2:IntKind.i64.wrap ((p:Int)+1)=((p+1:Nat):Int):=(wrap64 (by omega) (by omega)).trans (by omega)
 obtain⟨y,hy⟩: ∃y,(out++[zP])[p]? =some y:=⟨_,aD (by simp;omega)⟩
 have hA: (out.map Place.v++[Zd])[p]? =some y.v:=by rw[Hs,List.getElem?_map,hy];rfl
 have Yd:p≤out.length:=by omega
 have xQ:n+1=(out.take p++x::out.drop p).length:=by simp;omega
 by_cases zK:p=0
 · have hq:qa eC x out=out.take p++x::out.drop p:=Db Yd hbf (.inl zK)
   rw[hq] at dX
   (conv=>whnf);repeat' ((first| ((exfalso;omega)) | intro g| refine eA.mk (⟨rfl,rfl,rfl,rfl,(by simp only[List.length_append,List.length_map,List.length_cons,List.length_nil];rw[w2];omega),MY⟩) ?_| refine aN.mk _ (al hx rfl) ?_| refine aN.mk _ (MX) ?_| refine aN.mk _ (rL hA (by rw[w2];omega)) ?_| refine st ?_| (first| refine b1 ?_ ?_| refine b2 ?_ ?_| refine Br.mk ?_ ?_) <;>intro hc| exact rfl) <;>conv=>whnf)
   refine aE.mk (k+1,out.take p++x::out.drop p,g) ?_ ⟨?_,dX.symm⟩ (by(refine⟨?_,?_⟩ <;>repeat' (first| exact True.intro| refine And.intro (congrArg (fun es=>Obj.mk g 7 true false (some es)) (yx Yd (by rw[w2];omega) (by rw[w2];simp only[List.length_cons,List.length_nil];omega) (by omega) (by simp only[List.length_cons,List.length_nil];omega) (by omega))) ?_| refine And.intro (congrArg (V.sl 65 g 0) xQ) ?_| refine ai ?_| refine And.intro ?_ ?_)))
   · dsimp only;omega
   · omega
 have wq:IntKind.i64.wrap ((p:Int) - 1)=((p - 1:Nat):Int):=(wrap64 (by omega) (by omega)).trans (by omega)
 obtain⟨z,hz⟩: ∃z,out[p - 1]? =some z:=⟨_,aD (by omega)⟩
 by_cases hb:eC x z=true
 · have Ye: ∀j y,p - 1≤j→out[j]? =some y→eC x y=true:=fun j y hj hy=>by
     by_cases e:j=p - 1
     · subst e;rw[hz] at hy;injection hy with hy;subst hy;exact hb
     · exact hbf j y (by omega) hy
   simp only[eC,Bool.or_eq_true,Bool.and_eq_true,decide_eq_true_eq] at hb
   rcases hb with hb| ⟨tq,Jr⟩
   · (conv=>whnf);repeat' ((first| ((exfalso;omega)) | intro g| refine aN.mk _ (al hx rfl) ?_| refine aN.mk _ (al hz wq) ?_| refine st ?_| (first| refine b1 ?_ ?_| refine b2 ?_ ?_| refine Br.mk ?_ ?_) <;>intro hc| exact rfl) <;>conv=>whnf)
     exact aE.mk (p - 1) (by omega) ⟨by omega,Ye⟩ (by(refine⟨?_,?_⟩ <;>repeat' (first| exact True.intro| refine ai ?_| refine And.intro ?_ ?_)))
   · (conv=>whnf);repeat' ((first| ((exfalso;omega)) | intro g| refine aN.mk _ (al hx rfl) ?_| refine aN.mk _ (al hz wq) ?_| refine st ?_| (first| refine b1 ?_ ?_| refine b2 ?_ ?_| refine Br.mk ?_ ?_) <;>intro hc| exact rfl) <;>conv=>whnf)
     exact aE.mk (p - 1) (by omega) ⟨by omega,Ye⟩ (by(refine⟨?_,?_⟩ <;>repeat' (first| exact True.intro| refine ai ?_| refine And.intro ?_ ?_)))
 · have hf:eC x z=false:=by simpa using hb
   have hq:qa eC x out=out.take p++x::out.drop p:=Db Yd hbf (.inr ⟨z,hz,hf⟩)
   rw[hq] at dX
   simp only[eC,Bool.or_eq_true,Bool.and_eq_true,decide_eq_true_eq] at hb
   have tq: ¬z.weight<x.weight:=fun h=>hb (.inl h)
   by_cases Jr:x.weight=z.weight
   · have Ya: ¬x.id<z.id:=fun h=>hb (.inr ⟨Jr,h⟩)
     (conv=>whnf);repeat' ((first| ((exfalso;omega)) | intro g| refine eA.mk (⟨rfl,rfl,rfl,rfl,(by simp only[List.length_append,List.length_map,List.length_cons,List.length_nil];rw[w2];omega),MY⟩) ?_| refine aN.mk _ (al hx rfl) ?_| refine aN.mk _ (al hz wq) ?_| refine aN.mk _ (MX) ?_| refine aN.mk _ (rL hA (by rw[w2];omega)) ?_| refine st ?_| (first| refine b1 ?_ ?_| refine b2 ?_ ?_| refine Br.mk ?_ ?_) <;>intro hc| exact rfl) <;>conv=>whnf)
     refine aE.mk (k+1,out.take p++x::out.drop p,g) ?_ ⟨?_,dX.symm⟩ (by(refine⟨?_,?_⟩ <;>repeat' (first| exact True.intro| refine And.intro (congrArg (fun es=>Obj.mk g 7 true false (some es)) (yx Yd (by rw[w2];omega) (by rw[w2];simp only[List.length_cons,List.length_nil];omega) (by omega) (by simp only[List.length_cons,List.length_nil];omega) (by omega))) ?_| refine And.intro (congrArg (V.sl 65 g 0) xQ) ?_| refine ai ?_| refine And.intro ?_ ?_)))
     · dsimp only;omega
     · omega
   · (conv=>whnf);repeat' ((first| ((exfalso;omega)) | intro g| refine eA.mk (⟨rfl,rfl,rfl,rfl,(by simp only[List.length_append,List.length_map,List.length_cons,List.length_nil];rw[w2];omega),MY⟩) ?_| refine aN.mk _ (al hx rfl) ?_| refine aN.mk _ (al hz wq) ?_| refine aN.mk _ (MX) ?_| refine aN.mk _ (rL hA (by rw[w2];omega)) ?_| refine st ?_| (first| refine b1 ?_ ?_| refine b2 ?_ ?_| refine Br.mk ?_ ?_) <;>intro hc| exact rfl) <;>conv=>whnf)
     refine aE.mk (k+1,out.take p++x::out.drop p,g) ?_ ⟨?_,dX.symm⟩ (by(refine⟨?_,?_⟩ <;>repeat' (first| exact True.intro| refine And.intro (congrArg (fun es=>Obj.mk g 7 true false (some es)) (yx Yd (by rw[w2];omega) (by rw[w2];simp only[List.length_cons,List.length_nil];omega) (by omega) (by simp only[List.length_cons,List.length_nil];omega) (by omega))) ?_| refine And.intro (congrArg (V.sl 65 g 0) xQ) ?_| refine ai ?_| refine And.intro ?_ ?_)))
     · dsimp only;omega
     · omega
end Go.AM
set_option maxHeartbeats 4000000
namespace Go.AM
theorem vr (l:List bI) (ps:List Place) (p:Place):fK l (ps++[p])=fK l ps++[p9 l (fK l ps) p]:=by unfold fK;rw[List.foldl_append];rfl
theorem rM (l:List bI) (ps:List Place): (fK l ps).length=ps.length:=by
 have: ∀ (ps:List Place) (out:List dq),(ps.foldl (fun lT p=>lT++[p9 l lT p]) out).length=out.length+ps.length:=by
  intro ps
  induction ps with
  | nil=>intro out;simp
  | cons p ps ih=>intro out;rw[List.foldl_cons,ih];simp;omega
 simpa [fK] using this ps []
theorem Ar (l:List bI) (h:bI) (id:Int):iq (l++[h]) id=lS (iq l id) (jL h id):=by unfold iq;rw[List.foldl_append];rfl
theorem sF (x:dq) (l:List dq) (y:dq) (u:Int):ji x (l++[y]) u=lS (ji x l u) (Dy x y):=by unfold ji;rw[List.foldl_append];rfl
theorem Ht {x y:dq} {u:Int} (hu:u≤1024):lS u (Dy x y)=if gG y x<y.mw then lS u (gG y x) else u:=by
 unfold Dy
 split
 · rfl
 · unfold lS;rw[if_neg (by omega)]
theorem jA (ps:List Place): (cU ps).length≤ps.length:=by unfold cU;rw[dt];exact xb _
theorem B6 {m:bk} (hm:m.au.length< 1000):Ev E 601 [m.v] ⟨.own 1 (((cU m.au).map Place.id).map vi),[]⟩:=by
 have hs:=sE hm
 have hql:=jA m.au
 generalize cU m.au=qs at*
 refine Ev.aT Uz (UA _) rfl ?_
 (conv=>whnf);repeat' ((first| intro g| refine ah.mk _ (hs) ?_| refine st ?_| (first| refine b1 ?_ ?_| refine b2 ?_ ?_| refine Br.mk ?_ ?_) <;>intro hc| exact rfl) <;>conv=>whnf)
 refine aI.by (fun ((k,L,g):Nat×List Int×Nat)=> ⟨[(3,.sl 65 g 0 L.length),(4,.lit 7 (qs.map Place.v)),(5,aC k)],[(65,⟨g,1,true,false,some (L.map vi)⟩)]⟩) (fun (k,L,_)=>k≤qs.length∧L=(qs.take k).map Place.id) (fun (k,_)=>qs.length - k) (0,[],g) (by(refine⟨?_,?_⟩ <;>repeat' (first| exact True.intro| refine ai ?_| refine And.intro ?_ ?_))) ⟨by simp,by simp⟩ ?_
 clear g
 rintro⟨k,L,gl⟩ ⟨hk,hL⟩
 try dsimp only at hk hL
 have hlen:L.length≤k:=by rw[hL];simp;omega
 by_cases bp:k<qs.length
 case neg=>
  rw[List.take_of_length_le (by omega)] at hL
  rw[←hL]
  (conv=>whnf);repeat' ((first| intro g| refine st ?_| (first| refine b1 ?_ ?_| refine b2 ?_ ?_| refine Br.mk ?_ ?_) <;>intro hc| exact rfl) <;>conv=>whnf)
 obtain⟨y,hy⟩: ∃x,qs[k]? =some x:=⟨_,aD bp⟩
 (conv=>whnf);repeat' ((first| intro g| refine aN.mk _ (al hy rfl) ?_| refine st ?_| (first| refine b1 ?_ ?_| refine b2 ?_ ?_| refine Br.mk ?_ ?_) <;>intro hc| exact rfl) <;>conv=>whnf)
 exact aE.mk (k+1,L++[y.id],g) (by first| omega| (dsimp only;omega)) ⟨by omega,by rw[dM hy,hL];simp⟩ (by(refine⟨?_,?_⟩ <;>repeat' (first| exact True.intro| refine ai ?_| refine And.intro ?_ ?_)))
def mY (p:Place) (u:Int):dq:=⟨p.id,p.x,p.y,Iu p.name,p.name,u⟩
theorem Eu {m:bk} (hm:m.au.length< 1000) {l:List bI} (hl:l.length< 1000000) (oU: ∀h ∈ l,h.fg.length< 1000000):Ev E 597 [m.v,.lit 2 (l.map bI.v)] ⟨.own 6 ((fK l (cU m.au)).map dq.v),[]⟩:=by
 have hs:=sE hm
 have hql:=jA m.au
 generalize cU m.au=qs at*
 refine Ev.aT Ur (Us _) rfl ?_
 (conv=>whnf);repeat' ((first| intro g| refine ah.mk _ (hs) ?_| refine st ?_| (first| refine b1 ?_ ?_| refine b2 ?_ ?_| refine Br.mk ?_ ?_) <;>intro hc| exact rfl) <;>conv=>whnf)
 refine aI.by (fun ((i,out,g):Nat×List dq×Nat)=> ⟨[(1,.lit 2 (l.map bI.v)),(5,.sl 97 g 0 i),(6,.lit 7 (qs.map Place.v)),(7,aC i)],[(97,⟨g,6,true,false,some (out.map dq.v)⟩)]⟩) (fun (i,out,_)=>i≤qs.length∧out=fK l (qs.take i)) (fun (i,_)=>qs.length - i) (0,[],g) (by(refine⟨?_,?_⟩ <;>repeat' (first| exact True.intro| refine ai ?_| refine And.intro ?_ ?_))) ⟨by simp,by simp[fK]⟩ ?_
 clear g
 rintro⟨i,out,g5⟩ ⟨hi,ho⟩
 try dsimp only at hi ho
 have MZ:out.length=i:=by rw[ho,rM];simp;omega
 by_cases bp:i<qs.length
 case neg=>
   rw[List.take_of_length_le (by omega)] at ho
   rw[←ho]
   (conv=>whnf);repeat' ((first| intro g| refine st ?_| (first| refine b1 ?_ ?_| refine b2 ?_ ?_| refine Br.mk ?_ ?_) <;>intro hc| exact rfl) <;>conv=>whnf)
 obtain⟨p,hp⟩: ∃x,qs[i]? =some x:=⟨_,aD bp⟩
 have hr:=Ap p.name
 have dX:fK l (qs.take (i+1))=out++[p9 l out p]:=by rw[dM hp,vr,ho]
 (conv=>whnf);repeat' ((first| intro g| refine aN.mk _ (al hp rfl) ?_| refine ah.mk _ (hr) ?_| refine st ?_| (first| refine b1 ?_ ?_| refine b2 ?_ ?_| refine Br.mk ?_ ?_) <;>intro hc| exact rfl) <;>conv=>whnf)
 rename_i fi
 obtain⟨zd,hg⟩: ∃x,x=g:=⟨_,rfl⟩
 rw[←hg];clear hg
 refine aI.by (fun ((k,u):Nat×Int)=> ⟨[(1,.lit 2 (l.map bI.v)),(5,.sl 97 g5 0 i),(6,.lit 7 (qs.map Place.v)),(7,aC i),(8,.ptr 144 fi 0 0),(9,.ptr 160 zd 0 0),(10,aC k)],
     [(97,⟨g5,6,true,false,some (out.map dq.v)⟩),(144,⟨fi,7,false,false,some [p.v]⟩),(160,⟨zd,6,false,false,some [(mY p u).v]⟩)]⟩) (fun (k,u)=>k≤l.length∧u=iq (l.take k) p.id) (fun (k,_)=>l.length - k) (0,1024) (by(refine⟨?_,?_⟩ <;>repeat' (first| exact True.intro| refine ai ?_| refine And.intro ?_ ?_))) ⟨by simp,by simp[iq]⟩ ?_
 rintro⟨k,u⟩ ⟨hk,hu⟩
 try dsimp only at hk hu
 by_cases Ib:k<l.length
 · obtain⟨h,hh⟩: ∃x,l[k]? =some x:=⟨_,aD Ib⟩
   have h1:=Et (oU h (List.mem_of_getElem? hh)) p.id
   generalize hla:jL h p.id=la at h1
   (conv=>whnf);repeat' ((first| intro g| refine aN.mk _ (al hh rfl) ?_| refine ah.mk _ (h1) ?_| refine st ?_| (first| refine b1 ?_ ?_| refine b2 ?_ ?_| refine Br.mk ?_ ?_) <;>intro hc| exact rfl) <;>conv=>whnf)
   exact aE.mk (k+1,lS u la) (by first| omega| (dsimp only;omega)) ⟨by omega,by rw[dM hh,Ar,←hu,hla]⟩ (by(refine⟨?_,?_⟩ <;>repeat' (first| exact True.intro| refine ai ?_| refine And.intro ?_ ?_)))
 rw[List.take_of_length_le (by omega)] at hu
 (conv=>whnf);repeat' ((first| intro g| refine st ?_| (first| refine b1 ?_ ?_| refine b2 ?_ ?_| refine Br.mk ?_ ?_) <;>intro hc| exact rfl) <;>conv=>whnf)
 refine aI.by (fun ((k,w):Nat×Int)=> ⟨[(1,.lit 2 (l.map bI.v)),(5,.sl 97 g5 0 i),(6,.lit 7 (qs.map Place.v)),(7,aC i),(9,.ptr 160 zd 0 0),(11,aC k)],
     [(97,⟨g5,6,true,false,some (out.map dq.v)⟩),(160,⟨zd,6,false,false,some [(mY p w).v]⟩)]⟩) (fun (k,w)=>k≤i∧w=ji (ki p) (out.take k) u) (fun (k,_)=>i - k) (0,u) (by(refine⟨?_,?_⟩ <;>repeat' (first| exact True.intro| refine ai ?_| refine And.intro ?_ ?_))) ⟨by simp,by simp[ji]⟩ ?_
 rintro⟨j,w⟩ ⟨hj,hw⟩
 try dsimp only at hj hw
 have hw9:w≤1024:=by rw[hw];exact q7 _ _ _ (by rw[hu];exact wy _ _)
 by_cases YM:j<i
 · obtain⟨y,hy⟩: ∃x,out[j]? =some x:=⟨_,aD (by omega)⟩
   have h1:=B4 y (mY p w)
   have sS:gG y (mY p w)=gG y (ki p):=rfl
   have cE:=Ht (x:=ki p) (y:=y) hw9
   rw[sS] at h1
   generalize gG y (ki p)=z at h1 cE
   by_cases hz:z<y.mw
   · rw[if_pos hz] at cE
     (conv=>whnf);repeat' ((first| intro g| refine aN.mk _ (al hy rfl) ?_| refine ah.mk _ (h1) ?_| refine st ?_| (first| refine b1 ?_ ?_| refine b2 ?_ ?_| refine Br.mk ?_ ?_) <;>intro hc| exact rfl) <;>conv=>whnf)
     exact aE.mk (j+1,lS w z) (by first| omega| (dsimp only;omega)) ⟨by omega,by rw[dM hy,sF,←hw,cE]⟩ (by(refine⟨?_,?_⟩ <;>repeat' (first| exact True.intro| refine ai ?_| refine And.intro ?_ ?_)))
   · rw[if_neg hz] at cE
     (conv=>whnf);repeat' ((first| intro g| refine aN.mk _ (al hy rfl) ?_| refine ah.mk _ (h1) ?_| refine st ?_| (first| refine b1 ?_ ?_| refine b2 ?_ ?_| refine Br.mk ?_ ?_) <;>intro hc| exact rfl) <;>conv=>whnf)
     exact aE.mk (j+1,w) (by first| omega| (dsimp only;omega)) ⟨by omega,by rw[dM hy,sF,←hw,cE]⟩ (by(refine⟨?_,?_⟩ <;>repeat' (first| exact True.intro| refine ai ?_| refine And.intro ?_ ?_)))
 rw[List.take_of_length_le (by omega)] at hw
 have hx:p9 l out p=mY p w:=by unfold p9;rw[hw,hu];rfl
 rw[hx] at dX
 (conv=>whnf);repeat' ((first| intro g| refine st ?_| (first| refine b1 ?_ ?_| refine b2 ?_ ?_| refine Br.mk ?_ ?_) <;>intro hc| exact rfl) <;>conv=>whnf)
 exact aE.mk (i+1,out++[mY p w],g) (by first| omega| (dsimp only;omega)) ⟨by omega,dX.symm⟩ (by(refine⟨?_,?_⟩ <;>repeat' (first| exact True.intro| refine ai ?_| refine And.intro ?_ ?_)))
end Go.AM
