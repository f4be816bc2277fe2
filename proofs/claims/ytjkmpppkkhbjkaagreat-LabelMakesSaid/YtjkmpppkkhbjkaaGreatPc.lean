/-
  Texts of the proof: LbG, LbH.
-/
import Derived.Test.YtjkmpppkkhbjkaaGreatTa
import Derived.Test.YtjkmpppkkhbjkaaGreatPa
set_option maxRecDepth 20000
set_option linter.unusedSimpArgs false
set_option linter.unusedVariables false
set_option maxHeartbeats 4000000
namespace Go.AM
theorem At: ∀n:Nat,∃s:Nat,s*s≤n∧n< (s+1)*(s+1)
 | 0=> ⟨0,by omega,by omega⟩
 | n+1=>by
   obtain⟨s,h1,h2⟩:=At n
   have e1: (s+1)*(s+1)=s*s+2*s+1:=by simp only[Nat.mul_add,Nat.add_mul];omega
   have e2: (s+1+1)*(s+1+1)=s*s+4*s+4:=by simp only[Nat.mul_add,Nat.add_mul];omega
   by_cases h:n+1 < (s+1)*(s+1)
   · exact⟨s,by omega,h⟩
   · exact⟨s+1,by omega,by omega⟩
theorem Hw {n:Int} (h:0≤n):IsSqrt n (lJ n):=by
 obtain⟨s,h1,h2⟩:=At n.toNat
 have hs:IsSqrt n (s:Int):=by
  refine⟨by omega,?_,?_⟩
  · have: ((s*s:Nat):Int)≤(n.toNat:Int):=by exact_mod_cast h1
    rw[Int.natCast_mul] at this;omega
  · have: (n.toNat:Int) < (((s+1)*(s+1):Nat):Int):=by exact_mod_cast h2
    rw[Int.natCast_mul] at this
    simp only[Int.natCast_add,Int.natCast_one] at this
    omega
 rw[mu hs];exact hs
theorem Hx (x y:Int):decide (Lf ⟨x,y⟩)=nP x y:=by
 have e:nP x y=true↔Lf ⟨x,y⟩:=by unfold nP Lf;rw[Bool.and_eq_true,decide_eq_true_eq,decide_eq_true_eq]
 by_cases h:Lf ⟨x,y⟩
 · rw[decide_eq_true h,e.2 h]
 · rw[decide_eq_false h]
   cases hb:nP x y
   · rfl
   · exact absurd (e.1 hb) h
theorem xd (p:Pt):Ev E 189 [p.v] ⟨.bool (nP p.x p.y),[]⟩:=by
 have:=B7 p
 rwa [show decide (Lf p)=nP p.x p.y from Hx p.x p.y] at this
theorem Hy (a b:dq):Ev E 624 [a.v,b.v] ⟨vi (ib a b),[]⟩:=by
 have h1:=gF a.r
 have h2:=gF b.r
 refine Ev.aT UZ (U0 _) rfl ?_
 (conv=>whnf);repeat' ((first| intro g| refine st ?_| (first| refine b1 ?_ ?_| refine b2 ?_ ?_| refine Br.mk ?_ ?_) <;>intro hc| exact rfl) <;>conv=>whnf)
 show (⟨vi _,[]⟩:dk)=_
 have e1: ∀r:Int,(if (1000:Int) < (if r< (0:Int) then 0 else r) then(1000:Int) else(if r< (0:Int) then 0 else r))=lf r:=fun r=>by unfold lf;omega
 rw[e1,e1]
 unfold ib
 rw[wrap64 (by omega) (by omega)]
theorem Ew (a b:dq): ∃n:Int,(wx a b=true→n=Cq a b)∧Ev E 623 [a.v,b.v] ⟨.tuple [vi n,.bool (wx a b)],[]⟩:=by
 have h1:=xd ⟨a.x,a.y⟩
 have h2:=xd ⟨b.x,b.y⟩
 dsimp only at h1 h2
 refine⟨c9 (c9 (c9 (a.x - b.x)*c9 (a.x - b.x))+c9 (c9 (a.y - b.y)*c9 (a.y - b.y))),fun h=>Ki h,?_⟩
 have h3:=LB ⟨a.x,a.y⟩ ⟨b.x,b.y⟩
 have h4:=LC ⟨c9 (a.x - b.x),c9 (a.y - b.y)⟩ ⟨c9 (a.x - b.x),c9 (a.y - b.y)⟩
 unfold wx
 generalize nP a.x a.y=b1 at*
 generalize nP b.x b.y=b2 at*
 refine Ev.aT UX (UY _) rfl ?_
 cases b1
 · (conv=>whnf);repeat' ((first| intro g| refine ah.mk _ (h1) ?_| refine ah.mk _ (h2) ?_| refine ah.mk _ (h3) ?_| refine ah.mk _ (h4) ?_| refine st ?_| (first| refine b1 ?_ ?_| refine b2 ?_ ?_| refine Br.mk ?_ ?_) <;>intro hc| exact rfl) <;>conv=>whnf)
 · (conv=>whnf);repeat' ((first| intro g| refine ah.mk _ (h1) ?_| refine ah.mk _ (h2) ?_| refine ah.mk _ (h3) ?_| refine ah.mk _ (h4) ?_| refine st ?_| (first| refine b1 ?_ ?_| refine b2 ?_ ?_| refine Br.mk ?_ ?_) <;>intro hc| exact rfl) <;>conv=>whnf)
theorem Hz (a b:dq):Ev E 612 [a.v,b.v] ⟨vi (gG a b),[]⟩:=by
 have hb:=Hy a b
 have hr:=wv a b
 obtain⟨n,hn,h1⟩:=Ew a b
 by_cases tx:wx a b=true
 case neg=>
   have tx:wx a b=false:=by simpa using tx
   rw[tx] at h1
   have h2:gG a b=0:=by unfold gG;rw[tx];rfl
   rw[h2]
   refine Ev.aT FO (FP _) rfl ?_
   (conv=>whnf);repeat' ((first| intro g| refine ah.mk _ (h1) ?_| refine ah.mk _ (hb) ?_| refine st ?_| (first| refine b1 ?_ ?_| refine b2 ?_ ?_| refine Br.mk ?_ ?_) <;>intro hc| exact rfl) <;>conv=>whnf)
 have hn:=hn tx
 subst hn
 have yZ:=xB tx
 rw[tx] at h1
 by_cases hz:ib a b=0
 · rw[Dx tx hz]
   rw[hz] at hb
   refine Ev.aT FO (FP _) rfl ?_
   (conv=>whnf);repeat' ((first| intro g| refine ah.mk _ (h1) ?_| refine ah.mk _ (hb) ?_| refine st ?_| (first| refine b1 ?_ ?_| refine b2 ?_ ?_| refine Br.mk ?_ ?_) <;>intro hc| exact rfl) <;>conv=>whnf)
 have h2:gG a b=(xC (Cq a b) (ib a b) 1024:Int):=by unfold gG;rw[if_pos tx]
 rw[h2]
 clear h2 tx
 generalize Cq a b=sq at*
 generalize ib a b=r at*
 have ns:0 <r*r∧r*r≤4000000:=⟨Int.mul_pos (by omega) (by omega),Int.mul_le_mul (c:=2000) (d:=2000) hr.2 hr.2 hr.1 (by omega)⟩
 have hq0:0≤sq / (r*r):=Int.ediv_nonneg yZ.1 (by omega)
 have hq1:sq / (r*r)≤sq:=Int.ediv_le_self _ yZ.1
 have hq:IntKind.i64.wrap (sq.tdiv (IntKind.i64.wrap (r*r)))=sq / (r*r):=by
   rw[wrap64 (n:=r*r) (by omega) (by omega),Int.tdiv_eq_ediv_of_nonneg yZ.1,wrap64 (by omega) (by omega)]
 have hs:Ev E 27 [vi (IntKind.i64.wrap (sq.tdiv (IntKind.i64.wrap (r*r))))] ⟨vi (lJ (sq / (r*r))),[]⟩:=by rw[hq];exact It (by omega)
 have hl:=Dv yZ.1 (by omega) (Hw hq0)
 rw[←hl]
 generalize lJ (sq / (r*r))=s at hs
 have cO: ¬IntKind.i64.wrap (r*r)=0:=by rw[wrap64 (n:=r*r) (by omega) (by omega)];omega
 clear hl hq hq0 hq1 ns yZ
 refine Ev.aT FO (FP _) rfl ?_
 (conv=>whnf);repeat' ((first| intro g| refine eA.mk (cO) ?_| refine ah.mk _ (h1) ?_| refine ah.mk _ (hb) ?_| refine ah.mk _ (hs) ?_| refine st ?_| (first| refine b1 ?_ ?_| refine b2 ?_ ?_| refine Br.mk ?_ ?_) <;>intro hc| exact rfl) <;>conv=>whnf)
end Go.AM
set_option maxHeartbeats 4000000
namespace Go.AM
theorem JG (x:Int):Ev E 638 [.lit 1 [vi 2,vi 3,vi 4],vi x] ⟨vi (if x=2 then 0 else if x=3 then 1 else if x=4 then 2 else -1),[]⟩:=by
 refine Ev.aT VP (VQ _) rfl ?_
 (conv=>whnf);repeat' ((first| intro g| refine st ?_| (first| refine b1 ?_ ?_| refine b2 ?_ ?_| refine Br.mk ?_ ?_) <;>intro hc| exact rfl) <;>conv=>whnf)
 refine aI.by (fun i:Nat=> ⟨[(0,.lit 1 [vi 2,vi 3,vi 4]),(1,vi x),(7,aC 3),(8,aC i)],[]⟩) (fun i=>i≤3∧(1≤i→x≠2)∧(2≤i→x≠3)∧(3≤i→x≠4)) (fun i=>3 - i) 0 (by(refine⟨?_,?_⟩ <;>repeat' (first| exact True.intro| refine ai ?_| refine And.intro ?_ ?_))) ⟨by omega,by omega,by omega,by omega⟩ ?_
 rintro i ⟨hi,h1,h2,h3⟩
 rcases(by omega:i=0∨i=1∨i=2∨i=3) with rfl| rfl| rfl| rfl
 · by_cases e:x=2
   · subst e
     (conv=>whnf);repeat' ((first| intro g| refine st ?_| (first| refine b1 ?_ ?_| refine b2 ?_ ?_| refine Br.mk ?_ ?_) <;>intro hc| exact rfl) <;>conv=>whnf)
   · (conv=>whnf);repeat' ((first| intro g| refine st ?_| (first| refine b1 ?_ ?_| refine b2 ?_ ?_| refine Br.mk ?_ ?_) <;>intro hc| exact rfl) <;>conv=>whnf)
     exact aE.mk 1 (by first| omega| (dsimp only;omega)) ⟨by omega,by omega,by omega,by omega⟩ (by(refine⟨?_,?_⟩ <;>repeat' (first| exact True.intro| refine ai ?_| refine And.intro ?_ ?_)))
 · have e2:=h1 (by omega)
   rw[if_neg e2]
   by_cases e:x=3
   · subst e
     (conv=>whnf);repeat' ((first| intro g| refine st ?_| (first| refine b1 ?_ ?_| refine b2 ?_ ?_| refine Br.mk ?_ ?_) <;>intro hc| exact rfl) <;>conv=>whnf)
   · (conv=>whnf);repeat' ((first| intro g| refine st ?_| (first| refine b1 ?_ ?_| refine b2 ?_ ?_| refine Br.mk ?_ ?_) <;>intro hc| exact rfl) <;>conv=>whnf)
     exact aE.mk 2 (by first| omega| (dsimp only;omega)) ⟨by omega,by omega,by omega,by omega⟩ (by(refine⟨?_,?_⟩ <;>repeat' (first| exact True.intro| refine ai ?_| refine And.intro ?_ ?_)))
 · have e2:=h1 (by omega)
   have e3:=h2 (by omega)
   rw[if_neg e2,if_neg e3]
   by_cases e:x=4
   · subst e
     (conv=>whnf);repeat' ((first| intro g| refine st ?_| (first| refine b1 ?_ ?_| refine b2 ?_ ?_| refine Br.mk ?_ ?_) <;>intro hc| exact rfl) <;>conv=>whnf)
   · (conv=>whnf);repeat' ((first| intro g| refine st ?_| (first| refine b1 ?_ ?_| refine b2 ?_ ?_| refine Br.mk ?_ ?_) <;>intro hc| exact rfl) <;>conv=>whnf)
     exact aE.mk 3 (by first| omega| (dsimp only;omega)) ⟨by omega,by omega,by omega,by omega⟩ (by(refine⟨?_,?_⟩ <;>repeat' (first| exact True.intro| refine ai ?_| refine And.intro ?_ ?_)))
 · rw[if_neg (h1 (by omega)),if_neg (h2 (by omega)),if_neg (h3 (by omega))]
   (conv=>whnf);repeat' ((first| intro g| refine st ?_| (first| refine b1 ?_ ?_| refine b2 ?_ ?_| refine Br.mk ?_ ?_) <;>intro hc| exact rfl) <;>conv=>whnf)
theorem JH (x:Int):Ev E 627 [.lit 1 [vi 2,vi 3,vi 4],vi x] ⟨.bool (decide (2≤x∧x≤4)),[]⟩:=by
 have h:=JG x
 have e:decide ((0:Int)≤if x=2 then 0 else if x=3 then 1 else if x=4 then 2 else -1)=decide (2≤x∧x≤4):=by
  rw[decide_eq_decide];omega
 generalize hz: (if x=2 then(0:Int) else if x=3 then 1 else if x=4 then 2 else -1)=z at*
 rw[←e]
 refine Ev.aT Vh (Vi _) rfl ?_
 (conv=>whnf);repeat' ((first| intro g| refine ah.mk _ (h) ?_| refine st ?_| (first| refine b1 ?_ ?_| refine b2 ?_ ?_| refine Br.mk ?_ ?_) <;>intro hc| exact rfl) <;>conv=>whnf)
theorem HA (e:Event) (id:Int):Ev E 626 [e.v,.eptr (vi id) 0] ⟨.bool (nY id e),[]⟩:=by
 have h:=JH e.kind
 unfold nY
 by_cases hi:e.id=id
 · rw[decide_eq_true hi,Bool.true_and]
   generalize decide (2≤e.kind∧e.kind≤4)=b at*
   refine Ev.aT Kv (Kw _) rfl ?_
   (conv=>whnf);repeat' ((first| intro g| refine ah.mk _ (h) ?_| refine st ?_| (first| refine b1 ?_ ?_| refine b2 ?_ ?_| refine Br.mk ?_ ?_) <;>intro hc| exact rfl) <;>conv=>whnf)
 · rw[decide_eq_false hi,Bool.false_and]
   refine Ev.aT Kv (Kw _) rfl ?_
   (conv=>whnf);repeat' ((first| intro g| refine st ?_| (first| refine b1 ?_ ?_| refine b2 ?_ ?_| refine Br.mk ?_ ?_) <;>intro hc| exact rfl) <;>conv=>whnf)
theorem HB {l:List Event} {g:Nat} {caps:List V} (hc:V.aq caps=true) {p:Event→Bool} (hlen:l.length< 4611686018427387904)
  (hp: ∀x,Ev E g (x.v::caps) ⟨.bool (p x),[]⟩) (hm:c6 E g=[]):Ev E 625 [.lit 5 (l.map Event.v),.fn g caps] ⟨vi (firstIdx p l),[]⟩:=by
 refine Ev.aT Vf (Vg _) rfl ?_
 (conv=>whnf);repeat' ((first| intro g| refine st ?_| (first| refine b1 ?_ ?_| refine b2 ?_ ?_| refine Br.mk ?_ ?_) <;>intro hc| exact rfl) <;>conv=>whnf)
 refine aI.by (fun i:Nat=> ⟨[(0,.lit 5 (l.map Event.v)),(1,.fn g caps),(7,aC (l.map Event.v).length),(8,aC i)],[]⟩) (fun i=>i≤l.length∧ ∀ (j:Nat) y,j<i→l[j]? =some y→p y=false) (fun i=>l.length - i) 0 (by(refine⟨?_,?_⟩ <;>repeat' (first| exact True.intro| refine ai ?_| refine And.intro ?_ ?_))) ⟨by omega,by simp⟩ ?_
 rintro i ⟨hi,eh⟩
 have cE:=hc
 (conv=>whnf);repeat' ((first| intro g| refine pZ (by assumption) (by first| assumption| rfl| (simp only[V.aq,V.aB,Bool.and_self,Bool.true_and,Bool.and_true, *])) (hp _) rfl ?_| refine st ?_| (first| refine b1 ?_ ?_| refine b2 ?_ ?_| refine Br.mk ?_ ?_) <;>intro hc| exact rfl) <;>conv=>whnf)
 · rw[di eh (aD (by omega)) hc]
 · exact aE.mk (i+1) (by first| omega| (dsimp only;omega)) ⟨by omega,yw eh (aD (by omega)) hc⟩ (by(refine⟨?_,?_⟩ <;>repeat' (first| exact True.intro| refine ai ?_| refine And.intro ?_ ?_)))
 · rw[Da eh (by omega)]
theorem JI {h:bI} (hl:h.fg.length< 1000000) (id:Int):Ev E 610 [h.v,vi id] ⟨vi (jh h id),[]⟩:=by
 have hi:Ev E 625 _ ⟨vi (jh h id),[]⟩:=HB (l:=h.fg) (caps:=[.eptr (vi id) 0]) rfl (by omega) (fun x=>HA x id) rfl
 refine Ev.aT UR (US _) rfl ?_
 (conv=>whnf);repeat' ((first| intro g| refine ah.mk _ (hi) ?_| refine st ?_| (first| refine b1 ?_ ?_| refine b2 ?_ ?_| refine Br.mk ?_ ?_) <;>intro hc| exact rfl) <;>conv=>whnf)
theorem JJ {h:bI} (hl:h.fg.length< 1000000) (p:Place):Ev E 616 [.eptr h.v 0,.eptr p.v 0] ⟨vi (jL h p.id),[]⟩:=by
 have hg:=JI hl p.id
 rcases bV (nY p.id) h.fg with⟨hk,_⟩ | ⟨i,x,hk,hx,_⟩
 · have hk:jh h p.id= -1:=hk
   rw[vl hk]
   rw[hk] at hg
   refine Ev.aT CH (CI _) rfl ?_
   (conv=>whnf);repeat' ((first| intro g| refine ah.mk _ (hg) ?_| refine st ?_| (first| refine b1 ?_ ?_| refine b2 ?_ ?_| refine Br.mk ?_ ?_) <;>intro hc| exact rfl) <;>conv=>whnf)
 have hk:jh h p.id=i:=hk
 have Zc:=(List.getElem?_eq_some_iff.1 hx).1
 cases i with
 | zero=>
   rw[vm hk]
   rw[hk] at hg
   refine Ev.aT CH (CI _) rfl ?_
   (conv=>whnf);repeat' ((first| intro g| refine ah.mk _ (hg) ?_| refine st ?_| (first| refine b1 ?_ ?_| refine b2 ?_ ?_| refine Br.mk ?_ ?_) <;>intro hc| exact rfl) <;>conv=>whnf)
 | succ k=>
   obtain⟨e,he⟩: ∃e,h.fg[k]? =some e:=⟨_,aD (by omega)⟩
   have w1:IntKind.i64.wrap (((k+1:Nat):Int) - 1)=(k:Int):=(wrap64 (by omega) (by omega)).trans (by omega)
   rw[vn hk he]
   rw[hk] at hg
   by_cases hb:1024 <e.at_
   · rw[if_pos (.inr hb)]
     refine Ev.aT CH (CI _) rfl ?_
     (conv=>whnf);repeat' ((first| ((exfalso;omega)) | intro g| refine aN.mk _ (al he w1) ?_| refine ah.mk _ (hg) ?_| refine st ?_| (first| refine b1 ?_ ?_| refine b2 ?_ ?_| refine Br.mk ?_ ?_) <;>intro hc| exact rfl) <;>conv=>whnf)
   · have e9: (if e.at_< 0∨1024 <e.at_ then(0:Int) else e.at_)=if e.at_< 0 then 0 else e.at_:=by omega
     rw[e9]
     refine Ev.aT CH (CI _) rfl ?_
     (conv=>whnf);repeat' ((first| ((exfalso;omega)) | intro g| refine aN.mk _ (al he w1) ?_| refine ah.mk _ (hg) ?_| refine st ?_| (first| refine b1 ?_ ?_| refine b2 ?_ ?_| refine Br.mk ?_ ?_) <;>intro hc| exact rfl) <;>conv=>whnf)
theorem JK (x y:dq):Ev E 617 [.eptr x.v 0,.eptr y.v 0] ⟨vi (if gG x y<y.mw then gG x y else 1024),[]⟩:=by
 have h:=Hz x y
 generalize gG x y=z at*
 by_cases hz:z<y.mw
 · rw[if_pos hz]
   refine Ev.aT Ko (Kp _) rfl ?_
   (conv=>whnf);repeat' ((first| intro g| refine ah.mk _ (h) ?_| refine st ?_| (first| refine b1 ?_ ?_| refine b2 ?_ ?_| refine Br.mk ?_ ?_) <;>intro hc| exact rfl) <;>conv=>whnf)
 · rw[if_neg hz]
   refine Ev.aT Ko (Kp _) rfl ?_
   (conv=>whnf);repeat' ((first| intro g| refine ah.mk _ (h) ?_| refine st ?_| (first| refine b1 ?_ ?_| refine b2 ?_ ?_| refine Br.mk ?_ ?_) <;>intro hc| exact rfl) <;>conv=>whnf)
end Go.AM
