/- Texts of the proof. -/
import Derived.Test.YtdldmebldkgcnaaGreatGad
set_option maxRecDepth 20000
set_option maxHeartbeats 4000000
set_option linter.unusedSimpArgs false
set_option linter.unusedVariables false
namespace Go.AM.Dr
theorem Hp (a b c d p:Pt): ∃r:Bool,Ev E 566 [p.v,.eptr (.agg [vi a.x,vi a.y,vi b.x,vi b.y]) 0,.eptr (.agg [vi c.x,vi c.y,vi d.x,vi d.y]) 0] ⟨.bool r,[]⟩:=by
 refine a8 (Ev.bD rfl rfl rfl ?_)
 conv=>whnf
 repeat' (first| intro g| apply ca (Hm a b p) | apply ca (Hm c d p) | refine st ?_| refine br ?_ ?_<;>intro hc| rfl) <;>conv=>whnf
 all_goals exact⟨_,rfl⟩
noncomputable def acI (a b c d p:Pt):Bool:=(Hp a b c d p).choose
theorem u7 (a b c d p:Pt):Ev E 566 [p.v,.eptr (.agg [vi a.x,vi a.y,vi b.x,vi b.y]) 0,.eptr (.agg [vi c.x,vi c.y,vi d.x,vi d.y]) 0] ⟨.bool (acI a b c d p),[]⟩:=(Hp a b c d p).choose_spec
theorem Kh (l:List Pt) (hl:l.length< 1000000): ∃r:Bool,Ev E 183 [.lit 2 (l.map Pt.v)] ⟨.bool r,[]⟩:=by
 refine a8 (Ev.bD rfl rfl rfl ?_)
 by_cases h3:3 <l.length
 ·obtain⟨x,hx⟩: ∃x,l[0]? =some x:=⟨_,aH (by omega)⟩
  obtain⟨y,hy⟩: ∃y,l[l.length - 1]? =some y:=⟨_,aH (by omega)⟩
  have hw:IntKind.i64.wrap (((l.map Pt.v).length:Int) - 1)=((l.length - 1:Nat):Int):=by
   rw[List.length_map];exact wt
  conv=>whnf
  repeat' (first| intro g| refine wi (aq hx rfl) ?_| refine wi (aq hy hw) ?_| refine st ?_| refine br ?_ ?_<;>intro hc| rfl) <;>conv=>whnf
  all_goals exact⟨_,rfl⟩
 ·exact aiN
theorem tl0 {Q:aR→SS→Prop} {i xg gK jD Ki y6 g:Nat} {a b c d e p:Pt} {L:List V} (hL:L[i]? =some p.v) (hi:i< 2)
  (hR: ∀T' O',lk T' 10=some (.bool true)→Q .ret ⟨T',O'⟩)
  (hN: ∀T' O',SS.Sub ⟨[(5,.ptr 96 xg 0 0),(6,.ptr 112 gK 0 0),(7,.ptr 128 jD 0 0),(8,.ptr 144 Ki 0 0),(9,.ptr 160 y6 0 0),(28,.sl 464 g 0 2),(29,av 2),(30,av (i+1))],
    [(96,⟨xg,2,false,false,some [a.v]⟩),(112,⟨gK,2,false,false,some [b.v]⟩),(128,⟨jD,2,false,false,some [c.v]⟩),(144,⟨Ki,2,false,false,some [d.v]⟩),(160,⟨y6,2,false,false,some [e.v]⟩),(464,⟨g,2,true,false,some L⟩)]⟩ ⟨T',O'⟩→Q .normal ⟨T',O'⟩):
  kW E U3 ⟨[(5,.ptr 96 xg 0 0),(6,.ptr 112 gK 0 0),(7,.ptr 128 jD 0 0),(8,.ptr 144 Ki 0 0),(9,.ptr 160 y6 0 0),(28,.sl 464 g 0 2),(29,av 2),(30,av i)],
    [(96,⟨xg,2,false,false,some [a.v]⟩),(112,⟨gK,2,false,false,some [b.v]⟩),(128,⟨jD,2,false,false,some [c.v]⟩),(144,⟨Ki,2,false,false,some [d.v]⟩),(160,⟨y6,2,false,false,some [e.v]⟩),(464,⟨g,2,true,false,some L⟩)]⟩ Q:=by
 conv=>whnf
 repeat' (first| intro g| refine wi hL ?_| apply ca (Rw _ _ _ _) | refine st ?_| refine br ?_ ?_<;>intro hc| rfl) <;>conv=>whnf
 all_goals first| exact hR _ _ rfl| exact hN _ _ su
theorem tl1 {Q:aR→SS→Prop} {i xg jD Kj g:Nat} {a c d e x y:Pt} {L:List V} (hL:L[i]? =some (.agg [vi x.x,vi x.y,vi y.x,vi y.y])) (hi:i< 3)
  (hR: ∀T' O',lk T' 10=some (.bool true)→Q .ret ⟨T',O'⟩)
  (hN: ∀T' O',SS.Sub ⟨[(5,.ptr 96 xg 0 0),(7,.ptr 128 jD 0 0),(13,.ptr 224 Kj 0 0),(62,.sl 1008 g 0 3),(63,av 3),(64,av (i+1))],
    [(96,⟨xg,2,false,false,some [a.v]⟩),(128,⟨jD,2,false,false,some [c.v]⟩),(224,⟨Kj,4,false,false,some [.agg [vi d.x,vi d.y,vi e.x,vi e.y]]⟩),(1008,⟨g,4,true,false,some L⟩)]⟩ ⟨T',O'⟩→Q .normal ⟨T',O'⟩):
  kW E U4 ⟨[(5,.ptr 96 xg 0 0),(7,.ptr 128 jD 0 0),(13,.ptr 224 Kj 0 0),(62,.sl 1008 g 0 3),(63,av 3),(64,av i)],
    [(96,⟨xg,2,false,false,some [a.v]⟩),(128,⟨jD,2,false,false,some [c.v]⟩),(224,⟨Kj,4,false,false,some [.agg [vi d.x,vi d.y,vi e.x,vi e.y]]⟩),(1008,⟨g,4,true,false,some L⟩)]⟩ Q:=by
 conv=>whnf
 repeat' (first| intro g| refine wi hL ?_| apply ca (AK d e x y) | apply ca (u7 d e x y _) | refine st ?_| refine br ?_ ?_<;>intro hc| rfl) <;>conv=>whnf
 all_goals first| exact hR _ _ rfl| exact hN _ _ su
theorem yr (a b c d e:Pt): ∃r:Bool,Ev E 553 [a.v,b.v,c.v,d.v,e.v] ⟨.bool r,[]⟩:=by
 refine a8 (Ev.bD rfl rfl rfl ?_)
 have hr:Ev E 181 [.lit 2 [a.v,b.v,c.v,d.v,e.v]] ⟨.bool (E8 [a,b,c,d,e]),[]⟩:=AJ [a,b,c,d,e] (by simp)
 have Rx: ∀T' O',lk T' 10=some (V.bool true)→yW aeu.results [a.v,b.v,c.v,d.v,e.v] (fun res=> ∃r:Bool,res=⟨.bool r,[]⟩) .ret ⟨T',O'⟩:=by
  intro T' O' h
  show qd [.tmp 10] [a.v,b.v,c.v,d.v,e.v] ⟨T',O'⟩ (fun res=> ∃r:Bool,res=⟨.bool r,[]⟩)
  unfold qd
  simp only[JM,h]
  conv=>whnf
  repeat' (first| intro g| refine st ?_| refine br ?_ ?_<;>intro hc| rfl) <;>conv=>whnf
  exact⟨_,rfl⟩
 conv=>whnf
 repeat' (first| intro g| apply ca hr| refine st ?_| refine br ?_ ?_<;>intro hc| rfl) <;>conv=>whnf
 ·exact⟨_,rfl⟩
 rename_i xg gK jD Ki y6 ait
 clear hr hc
 refine aL.by (fun (i:Nat)=> ⟨[(5,.ptr 96 xg 0 0),(6,.ptr 112 gK 0 0),(7,.ptr 128 jD 0 0),(8,.ptr 144 Ki 0 0),(9,.ptr 160 y6 0 0),(28,.sl 464 g 0 2),(29,av 2),(30,av i)],
   [(96,⟨xg,2,false,false,some [a.v]⟩),(112,⟨gK,2,false,false,some [b.v]⟩),(128,⟨jD,2,false,false,some [c.v]⟩),(144,⟨Ki,2,false,false,some [d.v]⟩),(160,⟨y6,2,false,false,some [e.v]⟩),(464,⟨g,2,true,false,some [d.v,e.v]⟩)]⟩)
  (fun i=>i≤2) (fun i=>2 - i) 0 su (by simp) ?_
 rintro i hi
 rcases(by omega:i=0∨i=1∨i=2) with rfl| rfl| rfl
 ·exact tl0 rfl (by omega) (fun T' O' h=>Rx T' O' h) fun T' O' hs=>aK.mk 1 om (by simp) hs
 ·exact tl0 rfl (by omega) (fun T' O' h=>Rx T' O' h) fun T' O' hs=>aK.mk 2 om (by simp) hs
 clear hi
 conv=>whnf
 repeat' (first| intro g| refine st ?_| refine br ?_ ?_<;>intro hc| rfl) <;>conv=>whnf
 rename_i aiu Kj
 refine aL.by (fun (i:Nat)=> ⟨[(5,.ptr 96 xg 0 0),(7,.ptr 128 jD 0 0),(13,.ptr 224 Kj 0 0),(62,.sl 1008 g 0 3),(63,av 3),(64,av i)],
   [(96,⟨xg,2,false,false,some [a.v]⟩),(128,⟨jD,2,false,false,some [c.v]⟩),(224,⟨Kj,4,false,false,some [.agg [vi d.x,vi d.y,vi e.x,vi e.y]]⟩),(1008,⟨g,4,true,false,some [.agg [vi a.x,vi a.y,vi b.x,vi b.y],.agg [vi b.x,vi b.y,vi c.x,vi c.y],.agg [vi c.x,vi c.y,vi a.x,vi a.y]]⟩)]⟩)
  (fun i=>i≤3) (fun i=>3 - i) 0 su (by simp) ?_
 rintro i hi
 rcases(by omega:i=0∨i=1∨i=2∨i=3) with rfl| rfl| rfl| rfl
 ·exact tl1 (x:=a) (y:=b) rfl (by omega) (fun T' O' h=>Rx T' O' h) fun T' O' hs=>aK.mk 1 om (by simp) hs
 ·exact tl1 (x:=b) (y:=c) rfl (by omega) (fun T' O' h=>Rx T' O' h) fun T' O' hs=>aK.mk 2 om (by simp) hs
 ·exact tl1 (x:=c) (y:=a) rfl (by omega) (fun T' O' h=>Rx T' O' h) fun T' O' hs=>aK.mk 3 om (by simp) hs
 ·exact aiN
noncomputable def Ry (a b c d e:Pt):Bool:=(yr a b c d e).choose
theorem Kk (a b c d e:Pt):Ev E 553 [a.v,b.v,c.v,d.v,e.v] ⟨.bool (Ry a b c d e),[]⟩:=(yr a b c d e).choose_spec
end Go.AM.Dr
namespace Go.AM.Dr
theorem js: ∀ (ps:List Pt) (i k:Nat),(fu i (ps.map Pt.v))[k]? =match ps[k]?,ps[k+1]? with
   | some p,some q=>some [.int .i64 ((i+k:Nat):Int),.agg [vi p.x,vi p.y,vi q.x,vi q.y]]
   | _,_=>none
 | [],i,k=>by simp[fu]
 | [p],i,k=>by cases k<;>simp[fu]
 | p::q::r,i,0=>by simp[fu,Pt.v,V.cells]
 | p::q::r,i,k+1=>by
   have ih:=js (q::r) (i+1) k
   simp only[List.map_cons,fu,List.getElem?_cons_succ] at ih ⊢
   rw[ih]
   have:i+1+k=i+(k+1):=by omega
   rw[this]
theorem ot: ∀ (ps:List V) (i:Nat),∀x ∈ fu i ps,x.length=2
 | [],i,x,h=>by simp[fu] at h
 | [p],i,x,h=>by simp[fu] at h
 | p::q::r,i,x,h=>by
   rw[fu] at h
   rcases List.mem_cons.1 h with rfl| h
   ·rfl
   ·exact ot (q::r) (i+1) x h
theorem nc (l:List Pt):Ev E 182 [iP l] ⟨.fn 221 [.eptr (iP l) 0],[]⟩:=by
 refine Ev.aD rfl rfl rfl ?_
 exact aiN
theorem Hq {l:List Pt} (hl:l.length< 1000000):E.iter 221 [(iP l).eptr 0]=some (fu 0 (l.map Pt.v)):=by
 show (if (l.map Pt.v).length< 4611686018427387904 then some (fu 0 (l.map Pt.v)) else none)=_
 rw[if_pos (by simp;omega)]
theorem NL (l:List Pt) (hl:l.length< 1000000): ∃r:Int,Ev E 144 [iP l] ⟨vi r,[]⟩:=by
 refine a8 (Ev.bD rfl rfl rfl ?_)
 have hr:Ev E 181 [iP l] ⟨.bool (E8 l),[]⟩:=AJ l (by omega)
 have Vi:=nc l
 conv=>whnf
 repeat' (first| intro g| apply ca hr| apply ca Vi| refine st ?_| refine br ?_ ?_<;>intro hc| rfl) <;>conv=>whnf
 ·exact⟨_,rfl⟩
 ·exact⟨_,rfl⟩
 ·exact⟨_,rfl⟩
 rename_i PV rQ u5 Vj
 obtain⟨cl,iB⟩:=Kh l hl
 generalize hz:IntKind.i64.wrap (((l.map Pt.v).length:Int) - 2)=z
 refine tH.by (fu 0 (l.map Pt.v)) rfl (Hq hl) (fun x hx=>ot _ _ x hx) (fun (_:Unit)=> [(32,⟨PV,1,false,false,some [iP l]⟩),(64,⟨Vj,1,false,false,some [vi 0]⟩),(80,⟨g,1,false,false,some [vi z]⟩)]) (fun k a=>True) () (by(repeat' (first| exact True.intro| refine ai ?_| refine And.intro ?_ ?_))) trivial ?_ ?_
 ·rintro k x u hx v
  rw[js] at hx
  cases hp:l[k]? with
  | none=>rw[hp] at hx;cases hx
  | some p=>
  cases hq:l[k+1]? with
  | none=>rw[hp,hq] at hx;cases hx
  | some q=>
  rw[hp,hq] at hx
  injection hx with hx;subst hx
  have hk:=(List.getElem?_eq_some_iff.1 hq).1
  have hw:IntKind.i64.wrap (((0+k:Nat):Int)+1)=((k+1:Nat):Int):=wt
  have Mi:Ev E 182 [V.lit 2 (aG (l.map Pt.v) 0 ((IntKind.i64.wrap (((0+k:Nat):Int)+1)).toNat - 0))] ⟨.fn 221 [.eptr (iP (l.take (k+1))) 0],[]⟩:=by
   rw[hw]
   have e:aG (l.map Pt.v) 0 (((k+1:Nat):Int).toNat - 0)=(l.take (k+1)).map Pt.v:=by
    simp[aG,List.map_take]
   rw[e];exact nc _
  have Rb: (l.take (k+1)).length< 1000000:=by simp;omega
  generalize l.take (k+1)=m at Mi Rb
  generalize ((0+k:Nat):Int)=kk at hw Mi
  clear Vi hr hp hq hz hc rQ u5
  conv=>whnf
  repeat' (first| intro g| apply ca Mi| refine st ?_| refine br ?_ ?_<;>intro hc| rfl) <;>conv=>whnf
  ·exact⟨_,rfl⟩
  rename_i Mj xg
  refine tH.by (fu 0 (m.map Pt.v)) rfl (Hq Rb) (fun x hx=>ot _ _ x hx) (fun (_:Unit)=> [(32,⟨PV,1,false,false,some [iP l]⟩),(64,⟨Vj,1,false,false,some [vi 0]⟩),(80,⟨Mj,1,false,false,some [vi z]⟩),
   (96,⟨xg,1,false,false,some [vi kk]⟩),(112,⟨g,4,false,false,some [.agg [vi p.x,vi p.y,vi q.x,vi q.y]]⟩)]) (fun k a=>True) () (by(repeat' (first| exact True.intro| refine ai ?_| refine And.intro ?_ ?_))) trivial ?_ ?_
  ·rintro k2 x2 u2 Mk v2
   rw[js] at Mk
   cases JS:m[k2]? with
   | none=>rw[JS] at Mk;cases Mk
   | some p2=>
   cases UB:m[k2+1]? with
   | none=>rw[JS,UB] at Mk;cases Mk
   | some q2=>
   rw[JS,UB] at Mk
   injection Mk with Mk;subst Mk
   generalize ((0+k2:Nat):Int)=kk2
   clear JS UB Rb Mi
   conv=>whnf
   repeat' (first| intro g| apply ca iB| apply ca (AK p q p2 q2) | refine st ?_| refine br ?_ ?_<;>intro hc| rfl) <;>conv=>whnf
   all_goals first| (refine Qo.mk () trivial ?_; (repeat' (first| exact True.intro| refine ai ?_| refine And.intro ?_ ?_))) | exact⟨_,rfl⟩
  ·rintro _ _
   conv=>whnf
   repeat' (first| intro g| refine st ?_| refine br ?_ ?_<;>intro hc| rfl) <;>conv=>whnf
   exact Qo.mk () trivial (by(repeat' (first| exact True.intro| refine ai ?_| refine And.intro ?_ ?_)))
 ·rintro _ _
  conv=>whnf
  repeat' (first| intro g| refine st ?_| refine br ?_ ?_<;>intro hc| rfl) <;>conv=>whnf
  exact⟨_,rfl⟩
end Go.AM.Dr
namespace Go.AM.Dr
def IsSqrt (n s:Int):Prop:=0≤s∧s*s≤n∧n< (s+1)*(s+1)
theorem fe {a b:Int} (h0:0≤a) (h:a≤b):a*a≤b*b:=Int.mul_le_mul h h h0 (by omega)
theorem IsSqrt.uniq {n s t:Int} (h:IsSqrt n s) (k:IsSqrt n t):s=t:=by
 obtain⟨h1,h2,h3⟩:=h
 obtain⟨k1,k2,k3⟩:=k
 rcases Int.lt_trichotomy s t with hl| hl| hl
 ·have:=fe (a:=s+1) (b:=t) (by omega) (by omega);omega
 ·exact hl
 ·have:=fe (a:=t+1) (b:=s) (by omega) (by omega);omega
open Classical in
noncomputable def jG (n:Int):Int:=if h: ∃s,IsSqrt n s then h.choose else 0
theorem kz {n s:Int} (h:IsSqrt n s):jG n=s:=by
 have hex: ∃s,IsSqrt n s:=⟨s,h⟩
 unfold jG;rw[dif_pos hex];exact hex.choose_spec.uniq h
theorem wW {n:Int} (h:n≤0):jG n=0:=by
 by_cases hz:n=0
 ·subst hz;exact kz ⟨by omega,by omega,by omega⟩
 ·unfold jG;rw[dif_neg]
  rintro⟨s,h1,h2,h3⟩
  have:=Int.mul_nonneg h1 h1
  omega
theorem qm {b r:Nat} (h:FloatKind.f64.format.sqrt b=some r):Ev E 41 [.float b] ⟨.float r,[]⟩:=by
 have Ao:Ev E 52 [.float b] ⟨.float r,[]⟩:=Ev.ext (by rw[ack];simp[C1,h])
 refine Ev.aD rfl rfl rfl ?_
 exact aiN
theorem vb {n:Int} (h1:n≤9223372036854775807):Ev E 27 [vi n] ⟨vi (jG n),[]⟩:=by
 by_cases h0:0 <n
 case neg=>
  rw[wW (by omega)]
  refine Ev.aD rfl rfl rfl ?_
  conv=>whnf
  repeat' (first| intro g| refine st ?_| refine br ?_ ?_<;>intro hc| rfl) <;>conv=>whnf
  all_goals trivial
 obtain⟨r,m,hr,hm,Jk,Xj⟩:=GO h0 h1
 have e1:IntKind.i64.min≤m:=by simp[IntKind.min,IntKind.signed,IntKind.bits];omega
 have e2:m≤IntKind.i64.max:=by simp[IntKind.max,IntKind.signed,IntKind.bits];omega
 refine Ev.aD rfl rfl rfl ?_
 conv=>whnf
 repeat' (first| intro g| refine wi ((⟨hm,e1,e2⟩:_∧_∧_)) ?_| apply ca (qm hr) | refine st ?_| refine br ?_ ?_<;>intro hc| rfl) <;>conv=>whnf
 generalize hs0: (if 3037000499 <m then(3037000499:Int) else m)=s0
 have Ap:0≤s0∧s0≤3037000499:=by split at hs0<;>omega
 refine aL.by (fun s:Int=> ⟨[(0,vi n),(3,vi s)],[]⟩) (fun s=>0≤s∧s≤3037000499) (fun s=>s.toNat) s0 ?_ Ap ?_
 ·exact su
 rintro s ⟨iv,mn⟩
 have Ao:=fe iv mn
 have QK:0≤s*s:=Int.mul_nonneg iv iv
 have hw:IntKind.i64.wrap (s*s)=s*s:=wrap64 (by omega) (by omega)
 conv=>whnf
 repeat' (first| intro g| refine st ?_| refine br ?_ ?_<;>intro hc| rfl) <;>conv=>whnf
 ·rw[hw] at hc
  have:0 <s:=by
   rcases Int.lt_or_le 0 s with h| h
   ·exact h
   · have:s=0:=by omega
     subst this;omega
  refine aK.mk (s - 1) om ?_ su
  exact⟨by omega,by omega⟩
 rw[hw] at hc
 refine aL.by (fun s:Int=> ⟨[(0,vi n),(3,vi s)],[]⟩) (fun s=>0≤s∧s≤3037000499∧s*s≤n) (fun s=> (3037000499 - s).toNat) s ?_ ⟨iv,mn,by omega⟩ ?_
 ·exact su
 clear hw Ao QK hc iv mn s
 rintro s ⟨iv,mn,hle⟩
 by_cases bl:s< 3037000499
 ·have Ao:=fe (a:=s+1) (b:=3037000499) (by omega) (by omega)
  have QK:0≤(s+1)*(s+1):=Int.mul_nonneg (by omega) (by omega)
  have GL:IntKind.i64.wrap (s+1)=s+1:=wrap64 (by omega) (by omega)
  have hw:IntKind.i64.wrap ((s+1)*(s+1))=(s+1)*(s+1):=wrap64 (by omega) (by omega)
  conv=>whnf
  repeat' (first| intro g| refine st ?_| refine br ?_ ?_<;>intro hc| rfl) <;>conv=>whnf
  ·rw[GL,hw] at hc
   refine aK.mk (s+1) om ?_ su
   exact⟨by omega,by omega,hc⟩
  ·rw[GL,hw] at hc
   rw[kz ⟨iv,hle,by omega⟩]
 ·conv=>whnf
  repeat' (first| intro g| refine st ?_| refine br ?_ ?_<;>intro hc| rfl) <;>conv=>whnf
  have:=fe (a:=3037000500) (b:=s+1) (by omega) (by omega)
  rw[kz ⟨iv,hle,by omega⟩]
end Go.AM.Dr
namespace Go.AM.Dr
theorem wY (l:List Edge) (h:l.length< 1000000):Ev E 28 [.lit 4 (l.map Edge.v)] ⟨.own 4 (l.map Edge.v),[]⟩:=
 Ev.ext (by rw[acf];simp[dI];omega)
theorem rS (l:List aW) (h:l.length< 1000000):Ev E 29 [.lit 5 (l.map aW.v)] ⟨.own 5 (l.map aW.v),[]⟩:=
 Ev.ext (by rw[acg];simp[dI];omega)
theorem rT (l:List Way) (h:l.length< 1000000):Ev E 30 [.lit 8 (l.map Way.v)] ⟨.own 8 (l.map Way.v),[]⟩:=
 Ev.ext (by rw[ach];simp[dI];omega)
theorem lP (l:List Place) (h:l.length< 1000000):Ev E 31 [.lit 7 (l.map Place.v)] ⟨.own 7 (l.map Place.v),[]⟩:=
 Ev.ext (by rw[ace];simp[dI];omega)
theorem eR (l:List Pt) (h:l.length< 1000000):Ev E 32 [iP l] ⟨.own 2 (l.map Pt.v),[]⟩:=
 Ev.ext (by rw[aci];simp[dI,iP];omega)
theorem NM (e:Edge) (id:Int):Ev E 557 [e.v,.eptr (vi id) 0] ⟨.bool (decide (e.id=id)),[]⟩:=by
 refine Ev.aD rfl rfl rfl ?_
 exact aiN
def yt (es:List Edge) (id:Int):Int:=firstIdx (fun e=>decide (e.id=id)) es
theorem vv {m:aI} (h:m.Fit) (id:Int):Ev E 543 [m.v,vi id] ⟨vi (yt m.aB id),[]⟩:=by
 have he:=h.e
 have hi:=Rk (l:=m.aB) (caps:=[.eptr (vi id) 0]) rfl (by omega) (fun x=>NM x id) rfl
 refine Ev.aD rfl rfl rfl ?_
 conv=>whnf
 repeat' (first| intro g| apply ca hi| refine st ?_| refine br ?_ ?_<;>intro hc| rfl) <;>conv=>whnf
 all_goals rfl
structure y7 (m:aI) where
 k:Nat
 n:Nat
 e:Edge
 a:Pt
 b:Pt
 c:Pt
 he:m.aB[k]? =some e
 hf:yt m.aB e.id=(k:Int)
 hn:1≤n
 ha:e.line[n - 1]? =some a
 hb:e.line[n]? =some b
 hc:e.line[n+1]? =some c
 sO:m.aB.length< 1000000
 hl:e.line.length< 1000000
def y7.v {m:aI} (q:y7 m):V:= .agg [av q.k,av q.n,vi q.a.x,vi q.a.y,vi q.b.x,vi q.b.y,vi q.c.x,vi q.c.y]
theorem Rz {m:aI} (h:m.Fit) (q:y7 m):Ev E 534 [m.v,vi q.e.id,av q.n] ⟨.tuple [q.v,vi 0],[]⟩:=by
 have hf:=vv h q.e.id
 obtain⟨k,n,e,a,b,c,he,UY,hn,ha,hb,hc,sO,hl⟩:=q
 dsimp only at hf ⊢
 rw[UY] at hf
 have hk:=(List.getElem?_eq_some_iff.1 he).1
 have iB:=(List.getElem?_eq_some_iff.1 hc).1
 have w1:IntKind.i64.wrap ((n:Int) - 1)=((n - 1:Nat):Int):=wt
 have w2:IntKind.i64.wrap ((n:Int)+1)=((n+1:Nat):Int):=wt
 have w3:IntKind.i64.wrap (((e.line.map Pt.v).length:Int) - 2)=(e.line.length:Int) - 2:=by rw[List.length_map];exact wrap64 (by omega) (by omega)
 refine Ev.aD rfl rfl rfl ?_
 conv=>whnf
 repeat' (first| ((exfalso;omega)) | intro g| refine wi (aq he rfl) ?_| refine wi (aq ha w1) ?_| refine wi (aq hb rfl) ?_| refine wi (aq hc w2) ?_| apply ca hf| refine st ?_| refine br ?_ ?_<;>intro hc| rfl) <;>conv=>whnf
theorem RA (x:Int): -9223372036854775808≤gC x∧gC x≤9223372036854775807:=by
 unfold gC IntKind.wrap
 simp only[IntKind.bits,IntKind.signed]
 simp
 omega
theorem NN (f:aW) (id:Int):Ev E 551 [f.v,.eptr (vi id) 0] ⟨.bool (decide (f.id=id)),[]⟩:=by
 refine Ev.aD rfl rfl rfl ?_
 exact aiN
theorem AL {m:aI} (h:m.Fit) (id:Int): ∃r:Int,Ev E 550 [vi id,.eptr m.v 0] ⟨vi r,[]⟩:=by
 refine a8 (Ev.bD rfl rfl rfl ?_)
 have hf:=h.f
 have hi:=Rm (l:=m.an) (caps:=[.eptr (vi id) 0]) rfl (by omega) (fun x=>NN x id) rfl
 rcases cI (fun f:aW=>decide (f.id=id)) m.an with⟨h1,_⟩ | ⟨i,x,h1,h2,h3⟩
 ·rw[h1] at hi
  exact aiN
 ·rw[h1] at hi
  have:=(List.getElem?_eq_some_iff.1 h2).1
  exact dr1
theorem xh {m:aI} (h:m.Fit) (e:Edge): ∃r:Int,Ev E 540 [m.v,e.v] ⟨vi r,[]⟩:=by
 refine a8 (Ev.bD rfl rfl rfl ?_)
 obtain⟨r1,h1⟩:=AL h e.left
 obtain⟨r2,h2⟩:=AL h e.right
 exact aiN
def RB (a b:Pt):Int:=gC (gC (a.x*b.y) - gC (a.y*b.x))
theorem RC (a b:Pt):Ev E 219 [a.v,b.v] ⟨vi (RB a b),[]⟩:=by
 refine Ev.aD rfl rfl rfl ?_
 exact aiN
def Vk (a b:Pt):Pt:=⟨gC (a.x - b.x),gC (a.y - b.y)⟩
def y7.acJ {m:aI} (q:y7 m):Int:=RB (Vk q.b q.a) (Vk q.c q.a)
def Vl (x:Int):Int:=if x<gC (0 - x) then gC (0 - x) else x
theorem Vm {x:Int} (h:x≤9223372036854775807):Vl x≤9223372036854775807:=by
 unfold Vl
 split
 ·exact(RA _).2
 ·exact h
noncomputable def y7.cost {m:aI} (q:y7 m):Int:=jG (Vl q.acJ)
theorem zp {m:aI} (h:m.Fit) (q:y7 m):Ev E 527 [m.v,vi q.e.id,av q.n] ⟨vi q.cost,[]⟩:=by
 have kj:=Rz h q
 have hs:=vb (n:=Vl q.acJ) (Vm (RA _).2)
 refine Ev.aD rfl rfl rfl ?_
 conv=>whnf
 repeat' (first| intro g| apply ca kj| apply ca (qn q.b q.a) | apply ca (qn q.c q.a) | apply ca (RC (Vk q.b q.a) (Vk q.c q.a)) | apply ca hs| refine st ?_| refine br ?_ ?_<;>intro hc| rfl) <;>conv=>whnf
end Go.AM.Dr
namespace Go.AM.Dr
theorem Hr {l:List Pt} {i:Nat} (hi:i<l.length) (h:l.length< 1000000):Ev E 547 [.msl 2 (l.map Pt.v) 0 l.length,av i,vi (IntKind.i64.wrap ((i:Int)+1))] ⟨.sl 0 0 0 (l.length - 1),[(0,(l.eraseIdx i).map Pt.v++[(Pt.mk 0 0).v])]⟩:=by
 have hw:IntKind.i64.wrap ((i:Int)+1)=((i+1:Nat):Int):=wt
 rw[hw]
 refine Ev.aD rfl rfl rfl ?_
 have E0:aG (l.map Pt.v) (0+((i+1:Nat):Int).toNat) (l.length - ((i+1:Nat):Int).toNat)=(l.drop (i+1)).map Pt.v:=by
  rw[gG]
  congr 1
  rw[List.take_of_length_le (by simp)]
  simp
 conv=>whnf
 repeat' (first| intro g| refine nd (by first| ((and_intros<;>first| rfl| exact bj (bj (Pt.aN _) (Pt.aN _)) (bE rfl) | exact eH (bj (bj (Pt.aN _) (Pt.aN _)) (bE rfl)) | (simp only[overwrite,aG,List.length_map,List.length_append,List.length_cons,List.length_nil,List.length_take,List.length_drop];omega) | omega)) | fail) ?_| refine wi E0 ?_| refine st ?_| refine br ?_ ?_<;>intro hc| rfl) <;>conv=>whnf
 obtain⟨A,x,B,rfl,hA⟩: ∃A x B,l=A++x::B∧A.length=i:=⟨l.take i,l[i],l.drop (i+1),by simp,by simp;omega⟩
 have e1: (A++x::B).drop (i+1)=B:=by
  rw[←hA];simp[List.drop_append]
 have e2: (A++x::B).eraseIdx i=A++B:=by
  rw[←hA];simp[List.eraseIdx_append_of_length_le]
 have e3: ((i:Int).toNat - 0+((B).map Pt.v).length)=A.length+B.length:=by simp;omega
 rw[e1,e2,e3]
 have e4: ((A.length+B.length:Nat):Int).toNat=A.length+B.length:=by omega
 have e5: (((A++x::B).length:Nat):Int).toNat - (A.length+B.length)=1:=by simp;omega
 have e6: (A++x::B).length - 1=A.length+B.length:=by simp
 rw[e4,e5,e6]
 subst hA
 show (⟨V.sl 0 0 0 _,[(0,_)]⟩:eZ)=_
 congr 3
 simp[overwrite,List.take_append,List.drop_append]
 rw[List.take_of_length_le (by simp),List.drop_eq_nil_of_le (by simp;omega),List.drop_eq_nil_of_le (by simp;omega),List.drop_eq_nil_of_le (by simp;omega),List.drop_eq_nil_of_le (by simp;omega)]
 rfl
def y7.rest {m:aI} (q:y7 m):List Pt:=q.e.line.eraseIdx q.n
theorem Ml {m:aI} (q:y7 m):Ev E 535 [q.v,m.v] ⟨.own 2 (q.rest.map Pt.v),[]⟩:=by
 have iB:=eR q.e.line q.hl
 have hb:=(List.getElem?_eq_some_iff.1 q.hb).1
 have E1:=Hr (i:=q.n) hb q.hl
 have hle:q.e.line.length - 1=q.rest.length:=by simp[y7.rest,List.length_eraseIdx,hb]
 have acK:Ev E 547 [.msl 2 (q.e.line.map Pt.v) 0 (q.e.line.map Pt.v).length,av q.n,vi (IntKind.i64.wrap ((q.n:Int)+1))] ⟨.sl 0 0 0 (q.e.line.length - 1),[(0,q.rest.map Pt.v++[(Pt.mk 0 0).v])]⟩:=by
  rw[List.length_map];exact E1
 refine Ev.aD rfl rfl rfl ?_
 have he:=q.he
 conv=>whnf
 repeat' (first| intro g| refine wi (aq he rfl) ?_| refine wi (rP hle) ?_| apply ca iB| apply ca acK| refine st ?_| refine br ?_ ?_<;>intro hc| rfl) <;>conv=>whnf
end Go.AM.Dr
namespace Go.AM.Dr
theorem Hs (skip:Bool) (n:Int): ∀ (ps:List Pt) (i:Nat),∀x ∈ yS skip n i (ps.map Pt.v),∃p q:Pt,x=[p.v,q.v]
 | [],i,x,h=>by simp[yS] at h
 | [p],i,x,h=>by simp[yS] at h
 | p::q::r,i,x,h=>by
   simp only[List.map_cons,yS] at h
   rcases List.mem_append.1 h with h| h
   ·split at h
    ·simp at h
    ·exact⟨p,q,by simpa using h⟩
   ·exact Hs skip n (q::r) (i+1) x h
theorem Ht (e n:Int): ∀ (es:List Edge) (k:Nat),(∀x ∈ es,x.line.length< 1000000)→ ∃xs,Gx e n k (es.map Edge.v)=some xs∧ ∀x ∈ xs,∃p q:Pt,x=[p.v,q.v]
 | [],k,_=> ⟨[],rfl,by simp⟩
 | a::es,k,h=>by
   obtain⟨xs,h1,h2⟩:=Ht e n es (k+1) fun x hx=>h x (by simp[hx])
   have ha:=h a (by simp)
   have hc: (a.line.map Pt.v).length< 4611686018427387904∧(a.line.map Pt.v).all US=true:=by
    refine⟨by simp;omega,?_⟩
    rw[List.all_eq_true]
    intro v hv
    obtain⟨p,_,rfl⟩:=List.mem_map.1 hv
    rfl
   refine⟨yS (decide ((k:Int)=e)) n 0 (a.line.map Pt.v)++xs,?_,fun x hx=> ?_⟩
   ·show (if (a.line.map Pt.v).length< 4611686018427387904∧(a.line.map Pt.v).all US=true then(Gx e n (k+1) (es.map Edge.v)).map (yS (decide ((k:Int)=e)) n 0 (a.line.map Pt.v)++ ·) else none)=_
    rw[if_pos hc,h1];rfl
   ·rcases List.mem_append.1 hx with hx| hx
    ·exact Hs _ _ _ _ x hx
    ·exact h2 x hx
theorem RD {m:aI} (h:m.Fit) (q:y7 m): ∃xs,E.iter 564 [.eptr m.v 0,.eptr q.v 0]=some xs∧ ∀x ∈ xs,∃p q:Pt,x=[p.v,q.v]:=by
 obtain⟨xs,h1,h2⟩:=Ht (q.k:Int) (q.n:Int) m.aB 0 h.el
 refine⟨xs,?_,h2⟩
 have hb:=(List.getElem?_eq_some_iff.1 q.hb).1
 have:=q.hl
 have:=h.e
 show (if (m.aB.map Edge.v).length< 4611686018427387904∧(0:Int)≤(q.n:Int)∧(q.n:Int) < 4611686018427387904 then Gx (q.k:Int) (q.n:Int) 0 (m.aB.map Edge.v) else none)=_
 rw[if_pos ⟨by simp;omega,by omega,by omega⟩,h1]
theorem NO {m:aI} (q:y7 m):Ev E 552 [q.v,m.v] ⟨.fn 564 [.eptr m.v 0,.eptr q.v 0],[]⟩:=by
 refine Ev.aD rfl rfl rfl ?_
 exact aiN
theorem NP {m:aI} (q:y7 m) (p:Place): ∃r:Bool,Ev E 555 [p.v,.eptr q.v 0] ⟨.bool r,[]⟩:=by
 refine a8 (Ev.bD rfl rfl rfl ?_)
 conv=>whnf
 repeat' (first| intro g| refine ca (YV q.a q.b q.c ⟨p.x,p.y⟩) ?_| refine st ?_| refine br ?_ ?_<;>intro hc| rfl) <;>conv=>whnf
 all_goals exact⟨_,rfl⟩
theorem NQ {m:aI} (h:m.Fit) (q:y7 m): ∃r:Bool,Ev E 541 [q.v,m.v] ⟨.bool r,[]⟩:=by
 refine a8 (Ev.bD rfl rfl rfl ?_)
 have hp:=h.p
 obtain⟨cb,hc⟩: ∃cb:Bool,Ev E 554 [.lit 7 (m.az.map Place.v),.fn 555 [.eptr q.v 0]] ⟨.bool cb,[]⟩:=⟨_,NK (l:=m.az) (caps:=[.eptr q.v 0]) rfl (by omega) (fun x=> (NP q x).choose_spec) rfl⟩
 obtain⟨xs,hx,Kl⟩:=RD h q
 conv=>whnf
 repeat' (first| intro g| apply ca (NO q) | refine st ?_| refine br ?_ ?_<;>intro hc| rfl) <;>conv=>whnf
 rename_i yZ Vj
 refine tH.by xs rfl hx (fun x hx=>by obtain⟨p,q,rfl⟩:=Kl x hx;rfl) (fun (_:Unit)=> [(48,⟨yZ,8,false,false,some [q.v]⟩),(64,⟨Vj,4,false,false,some [m.v]⟩),(96,⟨g,1,false,false,some [.bool true]⟩)]) (fun k a=>True) () (by(repeat' (first| exact True.intro| refine ai ?_| refine And.intro ?_ ?_))) trivial ?_ ?_
 ·rintro k x u Mk v
  obtain⟨d,e,rfl⟩:=Kl x (List.mem_of_getElem? Mk)
  conv=>whnf
  repeat' (first| intro g| apply ca (Kk q.a q.b q.c d e) | apply ca hc| refine st ?_| refine br ?_ ?_<;>intro hc| rfl) <;>conv=>whnf
  all_goals first| (refine Qo.mk () trivial ?_; (repeat' (first| exact True.intro| refine ai ?_| refine And.intro ?_ ?_))) | exact⟨_,rfl⟩
 ·rintro _ _
  exact aiN
theorem Mm {m:aI} (h:m.Fit) (q:y7 m): ∃r:Int,Ev E 526 [m.v,vi q.e.id,av q.n] ⟨vi r,[]⟩:=by
 refine a8 (Ev.bD rfl rfl rfl ?_)
 have kj:=Rz h q
 have Vn:=Ml q
 obtain⟨r1,h1⟩:=xh h q.e
 obtain⟨r2,h2⟩:=NQ h q
 obtain⟨r3,h3⟩:=NL q.rest (by simp[y7.rest,List.length_eraseIdx];have:=q.hl;split<;>omega)
 have he:=q.he
 exact aiN
end Go.AM.Dr
namespace Go.AM.Dr
open Classical in
noncomputable def AN (m:aI) (e:Edge):Int:=if h:m.Fit then(xh h e).choose else 0
theorem RE {m:aI} (h:m.Fit) (e:Edge):Ev E 540 [m.v,e.v] ⟨vi (AN m e),[]⟩:=by
 unfold AN
 rw[dif_pos h]
 exact(xh h e).choose_spec
end Go.AM.Dr
namespace Go.AM.Dr
def mxI (x:Int):Int:=if 1 <x then x else 1
section
variable (fc gx:Int→Int→Int) (m:aI) (d:Int)
def DD (id:Int):Nat→List Event
 | 0=> []
 | j+1=>DD id j++if fc id ((j+1:Nat):Int)=0 then [⟨1,mxI (gx id ((j+1:Nat):Int)),id,0,((j+1:Nat):Int)⟩] else []
def YW (k:Nat) (e:Edge):Prop:=yt m.aB e.id=k∧AN m e=d
noncomputable instance (k:Nat) (e:Edge):Decidable (YW m d k e):=inferInstanceAs (Decidable (_∧_))
noncomputable def YX (k:Nat):List Event:=match m.aB[k]? with
 | some e=>if YW m d k e then DD fc gx e.id (e.line.length - 2) else []
 | none=> []
noncomputable def y8:Nat→List Event
 | 0=> []
 | k+1=>y8 k++YX fc gx m d k
theorem E9 (id:Int): ∀j,(DD fc gx id j).length≤j
 | 0=>by simp[DD]
 | j+1=>by
   have:=E9 id j
   simp only[DD,List.length_append]
   split<;>simp<;>omega
theorem Hu (hl: ∀e ∈ m.aB,e.line.length< 10): ∀k,(y8 fc gx m d k).length≤7*k
 | 0=>by simp[y8]
 | k+1=>by
   have ih:=Hu hl k
   simp only[y8,YX,List.length_append]
   cases he:m.aB[k]? with
   | none=>simp;omega
   | some e=>
     dsimp only
     have h1:=hl e (List.mem_of_getElem? he)
     have h2:=E9 fc gx e.id (e.line.length - 2)
     split
     ·omega
     ·simp;omega
end
end Go.AM.Dr
namespace Go.AM.Dr
section
variable {m:aI} {fc gx:Int→Int→Int}
 (hc: ∀id n,Ev E 526 [m.v,vi id,vi n] ⟨vi (fc id n),[]⟩) (hx: ∀id n,Ev E 527 [m.v,vi id,vi n] ⟨vi (gx id n),[]⟩)
 (hf: ∀id,Ev E 543 [m.v,vi id] ⟨vi (yt m.aB id),[]⟩) (hd: ∀e:Edge,Ev E 540 [m.v,e.v] ⟨vi (AN m e),[]⟩)
include hc hx
theorem RF {e:Edge} {d:Int} {k j ne yZ DE jD:Nat} {A:List Event} {Q:aR→SS→Prop} (hle:e.line.length< 10) (hA:A.length< 1000)
  (hQ: ∀T' O' g,SS.Sub ⟨[(1,vi d),(2,.ptr 48 yZ 0 0),(5,.sl 97 g 0 (A++DD fc gx e.id (j+1)).length),(7,.ptr 128 jD 0 0),(8,av (j+2)),(13,.lit 4 (m.aB.map Edge.v)),(14,av ne),(15,av k)],
    [(48,⟨yZ,4,false,false,some [m.v]⟩),(97,⟨g,5,true,false,some ((A++DD fc gx e.id (j+1)).map Event.v)⟩),(128,⟨jD,4,false,false,some [e.v]⟩)]⟩ ⟨T',O'⟩→Q .normal ⟨T',O'⟩) (bl:j+2 <e.line.length):
  kW E U0 ⟨[(1,vi d),(2,.ptr 48 yZ 0 0),(5,.sl 97 DE 0 (A++DD fc gx e.id j).length),(7,.ptr 128 jD 0 0),(8,av (j+1)),(13,.lit 4 (m.aB.map Edge.v)),(14,av ne),(15,av k)],
    [(48,⟨yZ,4,false,false,some [m.v]⟩),(97,⟨DE,5,true,false,some ((A++DD fc gx e.id j).map Event.v)⟩),(128,⟨jD,4,false,false,some [e.v]⟩)]⟩ Q:=by
 have h1:=hc e.id ((j+1:Nat):Int)
 have h2:=hx e.id ((j+1:Nat):Int)
 have sO:=E9 fc gx e.id j
 have Xp: (A++DD fc gx e.id j).length=A.length+(DD fc gx e.id j).length:=by simp
 have w1:IntKind.i64.wrap (((j+1:Nat):Int)+1)=((j+2:Nat):Int):=wt
 have eW:A++DD fc gx e.id (j+1)=(A++DD fc gx e.id j)++if fc e.id ((j+1:Nat):Int)=0 then [⟨1,mxI (gx e.id ((j+1:Nat):Int)),e.id,0,((j+1:Nat):Int)⟩] else []:=by
  rw[List.append_assoc];rfl
 have hLb: (A++DD fc gx e.id j).length< 2000:=by omega
 rw[eW] at hQ
 clear eW hc hx sO Xp
 generalize A++DD fc gx e.id j=L at*
 by_cases h0:fc e.id ((j+1:Nat):Int)=0
 ·rw[if_pos h0] at hQ
  rw[h0] at h1
  conv=>whnf
  repeat' (first| ((exfalso;omega)) | intro g| apply ca h1| apply ca h2| refine st ?_| refine br ?_ ?_<;>intro hc| rfl) <;>conv=>whnf
  refine hQ _ _ g ?_
  exact su
 ·rw[if_neg h0,List.append_nil] at hQ
  conv=>whnf
  repeat' (first| ((exfalso;omega)) | contradiction| intro g| apply ca h1| refine st ?_| refine br ?_ ?_<;>intro hc| rfl) <;>conv=>whnf
  refine hQ _ _ DE ?_
  exact su
include hf hd
theorem JX (h1:m.aB.length≤25) (hl: ∀e ∈ m.aB,e.line.length< 10) (d:Int): ∃l':List Event,l'.length≤7*m.aB.length∧Ev E 529 [m.v,vi d] ⟨.own 5 (l'.map Event.v),[]⟩:=by
 have iO:=Hu fc gx m d hl
 have hz: (if d< 1 then [] else y8 fc gx m d m.aB.length).length≤7*m.aB.length:=by
  have:=iO m.aB.length
  split
  ·simp
  ·omega
 obtain⟨l',p1,GU⟩:=QN (l:=if d< 1 then [] else y8 fc gx m d m.aB.length) (by omega)
 have hlen:l'.length< 2000:=by rw[p1.length_eq];omega
 have YB:=p1.length_eq
 refine⟨l',by omega,?_⟩
 clear p1 hz
 refine Ev.aD rfl rfl rfl ?_
 conv=>whnf
 repeat' (first| intro g| refine st ?_| refine br ?_ ?_<;>intro hc| rfl) <;>conv=>whnf
 rename_i yZ _
 refine aL.by (fun ((k,L,DE):Nat×List Event×Nat)=> ⟨[(1,vi d),(2,.ptr 48 yZ 0 0),(5,.sl 97 DE 0 L.length),(13,.lit 4 (m.aB.map Edge.v)),(14,av (m.aB.map Edge.v).length),(15,av k)],
   [(48,⟨yZ,4,false,false,some [m.v]⟩),(97,⟨DE,5,true,false,some (L.map Event.v)⟩)]⟩)
  (fun p=>p.1≤m.aB.length∧p.2.1=if d< 1 then [] else y8 fc gx m d p.1) (fun p=>m.aB.length - p.1) (0,[],g) su ⟨by simp,by simp[y8]⟩ ?_
 rintro⟨k,L,DE⟩ ⟨hk,hL⟩
 dsimp only at hk hL
 by_cases bl:k<m.aB.length
 ·obtain⟨e,he⟩: ∃e,m.aB[k]? =some e:=⟨_,aH bl⟩
  have hle:=hl e (List.mem_of_getElem? he)
  have f1:=hf e.id
  have f2:=hd e
  by_cases Hv:d< 1
  ·conv=>whnf
   repeat' (first| ((exfalso;omega)) | intro g| refine wi (aq he rfl) ?_| refine st ?_| refine br ?_ ?_<;>intro hc| rfl) <;>conv=>whnf
   exact aK.mk (k+1,L,DE) om ⟨om,by simpa [Hv] using hL⟩ su
  rw[if_neg Hv] at hL
  have eW:y8 fc gx m d (k+1)=L++(if YW m d k e then DD fc gx e.id (e.line.length - 2) else []):=by
   simp only[y8,YX,he,hL]
  by_cases s1:yt m.aB e.id=k
  case neg=>
   rw[if_neg (fun h=>s1 h.1),List.append_nil] at eW
   conv=>whnf
   repeat' (first| ((exfalso;omega)) | contradiction| intro g| refine wi (aq he rfl) ?_| apply ca f1| refine st ?_| refine br ?_ ?_<;>intro hc| rfl) <;>conv=>whnf
   exact aK.mk (k+1,L,DE) om ⟨om,by dsimp only;rw[if_neg Hv,eW]⟩ su
  by_cases s2:AN m e=d
  case neg=>
   rw[if_neg (fun h=>s2 h.2),List.append_nil] at eW
   conv=>whnf
   repeat' (first| ((exfalso;omega)) | contradiction| intro g| refine wi (aq he rfl) ?_| apply ca f1| apply ca f2| refine st ?_| refine br ?_ ?_<;>intro hc| rfl) <;>conv=>whnf
   exact aK.mk (k+1,L,DE) om ⟨om,by dsimp only;rw[if_neg Hv,eW]⟩ su
  rw[if_pos ⟨s1,s2⟩] at eW
  have Xp:L.length< 1000:=by have:=iO k;rw[hL];omega
  rw[s1] at f1
  rw[s2] at f2
  conv=>whnf
  repeat' (first| ((exfalso;omega)) | contradiction| intro g| refine wi (aq he rfl) ?_| apply ca f1| apply ca f2| refine st ?_| refine br ?_ ?_<;>intro hc| rfl) <;>conv=>whnf
  refine aL.by (fun ((j,DE):Nat×Nat)=> ⟨[(1,vi d),(2,.ptr 48 yZ 0 0),(5,.sl 97 DE 0 (L++DD fc gx e.id j).length),(7,.ptr 128 g 0 0),(8,av (j+1)),(13,.lit 4 (m.aB.map Edge.v)),(14,av (m.aB.map Edge.v).length),(15,av k)],
   [(48,⟨yZ,4,false,false,some [m.v]⟩),(97,⟨DE,5,true,false,some ((L++DD fc gx e.id j).map Event.v)⟩),(128,⟨g,4,false,false,some [e.v]⟩)]⟩)
   (fun p=>p.1≤e.line.length - 2) (fun p=>e.line.length - 2 - p.1) (0,DE) ?_ om ?_
  ·simp only[DD,List.append_nil]
   exact su
  rintro⟨j,DE⟩ hj
  dsimp only at hj
  by_cases jU:j+2 <e.line.length
  ·exact RF hc hx hle Xp (fun T' O' g' hs=>aK.mk (j+1,g') om om hs) jU
  have w1:IntKind.i64.wrap (((j+1:Nat):Int)+1)=((j+2:Nat):Int):=wt
  obtain rfl:j=e.line.length - 2:=by omega
  conv=>whnf
  repeat' (first| ((exfalso;omega)) | intro g| refine st ?_| refine br ?_ ?_<;>intro hc| rfl) <;>conv=>whnf
  exact aK.mk (k+1,L++DD fc gx e.id (e.line.length - 2),DE) om ⟨om,by dsimp only;rw[if_neg Hv,eW]⟩ su
 ·obtain rfl:k=m.aB.length:=by omega
  subst hL
  conv=>whnf
  repeat' (first| intro g| apply ca GU| refine st ?_| refine br ?_ ?_<;>intro hc| rfl) <;>conv=>whnf
  refine aL.by (fun ((i,YY):Nat×Nat)=> ⟨[(9,.sl 161 YY 0 (l'.take i).length),(67,.sl 97 DE 0 l'.length),(68,av l'.length),(69,av i)],
   [(97,⟨DE,5,true,false,some (l'.map Event.v)⟩),(161,⟨YY,5,true,false,some ((l'.take i).map Event.v)⟩)]⟩)
   (fun p=>p.1≤l'.length) (fun p=>l'.length - p.1) (0,g) ?_ om ?_
  ·have e3:V.sl 97 DE 0 (if d< 1 then [] else y8 fc gx m d m.aB.length).length= .sl 97 DE 0 l'.length:=by rw[YB]
   have e4:av (if d< 1 then [] else y8 fc gx m d m.aB.length).length=av l'.length:=by rw[YB]
   dsimp only
   rw[List.take_zero]
   (refine⟨?_,?_⟩ <;>repeat' (first| exact True.intro| refine And.intro (e3) ?_| refine And.intro (e4) ?_| refine ai ?_| refine And.intro ?_ ?_))
  rintro⟨i,YY⟩ hi
  dsimp only at hi
  by_cases jU:i<l'.length
  ·obtain⟨x,Mk⟩: ∃x,l'[i]? =some x:=⟨_,aH jU⟩
   have y9:l'.take (i+1)=l'.take i++[x]:=by rw[List.take_add_one,Mk];rfl
   have htl: (l'.take i).length=i:=by simp;omega
   conv=>whnf
   repeat' (first| intro g| refine wi (aq Mk rfl) ?_| refine st ?_| refine br ?_ ?_<;>intro hc| rfl) <;>conv=>whnf
   refine aK.mk (i+1,g) om om ?_
   dsimp only
   rw[y9]
   exact su
  obtain rfl:i=l'.length:=by omega
  dsimp only
  rw[List.take_length]
  conv=>whnf
  repeat' (first| intro g| refine wi (gI (by simp)) ?_| refine st ?_| refine br ?_ ?_<;>intro hc| rfl) <;>conv=>whnf
end
end Go.AM.Dr
namespace Go.AM.Dr
def y7.es {m:aI} (q:y7 m):List Edge:=m.aB.set q.k ⟨q.e.id,q.rest,q.e.left,q.e.right⟩
theorem RG {m:aI} (h:m.Fit) (q:y7 m) (iF:Ev E 526 [m.v,vi q.e.id,av q.n] ⟨vi 0,[]⟩):
  Ev E 524 [m.v,vi q.e.id,av q.n] ⟨.tuple [.agg [.own 4 (q.es.map Edge.v),.own 5 (m.an.map aW.v),.own 8 (m.ways.map Way.v),.own 7 (m.az.map Place.v)],vi 0],[]⟩:=by
 have hle:=h.e
 have hlw:=h.w
 have kj:=Rz h q
 have Vn:=Ml q
 have hqe:=q.he
 have hqk:=(List.getElem?_eq_some_iff.1 hqe).1
 have c1:=wY m.aB h.e
 have c2:=rS m.an h.f
 have c3:=rT m.ways h.w
 have c4:=lP m.az h.p
 refine Ev.aD rfl rfl rfl ?_
 conv=>whnf
 repeat' (first| intro g| apply ca iF| apply ca kj| apply ca c1| apply ca c2| apply ca c3| apply ca c4| refine st ?_| refine br ?_ ?_<;>intro hc| rfl) <;>conv=>whnf
 rename_i Vj gK y6 NR Vo NS Vp
 have hE: ∀ {l:List Edge} {i:Nat} {x:Edge},l[i]? =some x→(l.map Edge.v).set (i:Int).toNat (.agg [vi x.id,.lit 2 (x.line.map Pt.v),vi x.left,vi x.right])=l.map Edge.v:=fun h=>uZ h
 have hW: ∀ {l:List Way} {i:Nat} {x:Way},l[i]? =some x→(l.map Way.v).set (i:Int).toNat (.agg [vi x.id,.lit 2 (x.line.map Pt.v),vi x.level,.str x.cls,.str x.name,.bool x.Ai,vi x.weight,vi x.bG])=l.map Way.v:=fun h=>uZ h
 refine aL.by (fun (i:Nat)=> ⟨[(3,.ptr 64 Vj 0 0),(6,.ptr 112 gK 0 0),(9,.ptr 160 y6 0 0),(11,.ptr 192 g 0 0),(44,av (m.aB.map Edge.v).length),(45,av i)],
   [(64,⟨Vj,4,false,false,some [m.v]⟩),(112,⟨gK,4,false,false,some [.agg [.lit 4 [],.lit 5 [],.lit 8 [],.lit 7 []]]⟩),(160,⟨y6,8,false,false,some [q.v]⟩),(192,⟨g,4,false,false,some [.agg [.sl 512 NR 0 (m.aB.map Edge.v).length,.sl 560 Vo 0 (m.an.map aW.v).length,.sl 608 NS 0 (m.ways.map Way.v).length,.sl 656 Vp 0 (m.az.map Place.v).length]]⟩),
    (512,⟨NR,4,true,false,some (m.aB.map Edge.v)⟩),(560,⟨Vo,5,true,false,some (m.an.map aW.v)⟩),(608,⟨NS,8,true,false,some (m.ways.map Way.v)⟩),(656,⟨Vp,7,true,false,some (m.az.map Place.v)⟩)]⟩)
  (fun i=>i≤m.aB.length) (fun i=>m.aB.length - i) 0 su (by simp) ?_
 clear c1 c2 c3 c4 iF kj
 rintro i hi
 by_cases bl:i<m.aB.length
 ·obtain⟨e,he⟩: ∃e,m.aB[i]? =some e:=⟨_,aH bl⟩
  have iB:=eR e.line (h.el e (List.mem_of_getElem? he))
  conv=>whnf
  repeat' (first| intro g| refine wi (aq he rfl) ?_| apply ca iB| refine st ?_| refine br ?_ ?_<;>intro hc| rfl) <;>conv=>whnf
  have e1: (⟨NR,4,true,false,some ((m.aB.map Edge.v).set (i:Int).toNat (.agg [vi e.id,.lit 2 (e.line.map Pt.v),vi e.left,vi e.right]))⟩:Obj)=⟨NR,4,true,false,some (m.aB.map Edge.v)⟩:=by rw[hE he]
  exact aK.mk (i+1) om (by omega) (by(refine⟨?_,?_⟩ <;>repeat' (first| exact True.intro| refine And.intro (e1) ?_| refine ai ?_| refine And.intro ?_ ?_)))
 obtain rfl:i=m.aB.length:=by omega
 conv=>whnf
 repeat' (first| intro g| refine st ?_| refine br ?_ ?_<;>intro hc| rfl) <;>conv=>whnf
 refine aL.by (fun (i:Nat)=> ⟨[(3,.ptr 64 Vj 0 0),(6,.ptr 112 gK 0 0),(9,.ptr 160 y6 0 0),(11,.ptr 192 g 0 0),(63,av (m.ways.map Way.v).length),(64,av i)],
   [(64,⟨Vj,4,false,false,some [m.v]⟩),(112,⟨gK,4,false,false,some [.agg [.lit 4 [],.lit 5 [],.lit 8 [],.lit 7 []]]⟩),(160,⟨y6,8,false,false,some [q.v]⟩),(192,⟨g,4,false,false,some [.agg [.sl 512 NR 0 (m.aB.map Edge.v).length,.sl 560 Vo 0 (m.an.map aW.v).length,.sl 608 NS 0 (m.ways.map Way.v).length,.sl 656 Vp 0 (m.az.map Place.v).length]]⟩),
    (512,⟨NR,4,true,false,some (m.aB.map Edge.v)⟩),(560,⟨Vo,5,true,false,some (m.an.map aW.v)⟩),(608,⟨NS,8,true,false,some (m.ways.map Way.v)⟩),(656,⟨Vp,7,true,false,some (m.az.map Place.v)⟩)]⟩)
  (fun i=>i≤m.ways.length) (fun i=>m.ways.length - i) 0 su (by simp) ?_
 rintro i hi
 by_cases bl:i<m.ways.length
 ·obtain⟨e,he⟩: ∃e,m.ways[i]? =some e:=⟨_,aH bl⟩
  have iB:=eR e.line (h.wl e (List.mem_of_getElem? he))
  conv=>whnf
  repeat' (first| intro g| refine wi (aq he rfl) ?_| apply ca iB| refine st ?_| refine br ?_ ?_<;>intro hc| rfl) <;>conv=>whnf
  have e1: (⟨NS,8,true,false,some ((m.ways.map Way.v).set (i:Int).toNat (.agg [vi e.id,.lit 2 (e.line.map Pt.v),vi e.level,.str e.cls,.str e.name,.bool e.Ai,vi e.weight,vi e.bG]))⟩:Obj)=⟨NS,8,true,false,some (m.ways.map Way.v)⟩:=by rw[hW he]
  exact aK.mk (i+1) om (by omega) (by(refine⟨?_,?_⟩ <;>repeat' (first| exact True.intro| refine And.intro (e1) ?_| refine ai ?_| refine And.intro ?_ ?_)))
 obtain rfl:i=m.ways.length:=by omega
 have hqs:q.es.map Edge.v=(m.aB.map Edge.v).set (q.k:Int).toNat (.agg [vi q.e.id,.lit 2 (q.rest.map Pt.v),vi q.e.left,vi q.e.right]):=by
  simp[y7.es,List.map_set,Edge.v,iP]
 rw[hqs]
 conv=>whnf
 repeat' (first| intro g| refine wi (aq hqe rfl) ?_| refine wi (gI rfl) ?_| refine wi (gI (by simp)) ?_| apply ca Vn| refine st ?_| refine br ?_ ?_<;>intro hc| rfl) <;>conv=>whnf
end Go.AM.Dr
namespace Go.AM.Dr
def Hw:V:= .agg [vi 0,vi 0,vi 0,vi 0,vi 0,vi 0,vi 0,vi 0]
theorem Vq {m:aI} (h:m.Fit) {id n:Int} (hf:yt m.aB id= -1):Ev E 534 [m.v,vi id,vi n] ⟨.tuple [Hw,vi 5],[]⟩:=by
 have hi:=vv h id
 rw[hf] at hi
 refine Ev.aD rfl rfl rfl ?_
 exact aiN
theorem YZ {m:aI} (h:m.Fit) {id n:Int} {k:Nat} {e:Edge} (hf:yt m.aB id=k) (he:m.aB[k]? =some e) (hn:n< 1∨(e.line.length:Int) - 2 <n):Ev E 534 [m.v,vi id,vi n] ⟨.tuple [Hw,vi 1],[]⟩:=by
 have hi:=vv h id
 rw[hf] at hi
 have hl:=h.el e (List.mem_of_getElem? he)
 have w3:IntKind.i64.wrap (((e.line.map Pt.v).length:Int) - 2)=(e.line.length:Int) - 2:=by rw[List.length_map];exact wrap64 (by omega) (by omega)
 refine Ev.aD rfl rfl rfl ?_
 exact dr1
theorem AO {m:aI} (h:m.Fit) (id n:Int): (∃x:Int,x≠0∧Ev E 534 [m.v,vi id,vi n] ⟨.tuple [Hw,vi x],[]⟩)∨ ∃q:y7 m,q.e.id=id∧(q.n:Int)=n:=by
 rcases cI (fun e:Edge=>decide (e.id=id)) m.aB with⟨h1,_⟩ | ⟨k,e,h1,h2,h3⟩
 ·exact .inl ⟨5,by decide,Vq h h1⟩
 ·have hl:=h.el e (List.mem_of_getElem? h2)
  by_cases hn:n< 1∨(e.line.length:Int) - 2 <n
  ·exact .inl ⟨1,by decide,YZ h h1 h2 hn⟩
  ·have PL:e.id=id:=by simpa using h3
   obtain⟨a,ha⟩: ∃x,e.line[n.toNat - 1]? =some x:=⟨_,aH (by omega)⟩
   obtain⟨b,hb⟩: ∃x,e.line[n.toNat]? =some x:=⟨_,aH (by omega)⟩
   obtain⟨c,hc⟩: ∃x,e.line[n.toNat+1]? =some x:=⟨_,aH (by omega)⟩
   exact .inr ⟨⟨k,n.toNat,e,a,b,c,h2,by rw[PL];exact h1,by omega,ha,hb,hc,h.e,hl⟩,PL,by show ((n.toNat:Nat):Int)=n;omega⟩
theorem RH {m:aI} {id n x:Int} (hx:x≠0) (kj:Ev E 534 [m.v,vi id,vi n] ⟨.tuple [Hw,vi x],[]⟩):Ev E 526 [m.v,vi id,vi n] ⟨vi x,[]⟩:=by
 refine Ev.aD rfl rfl rfl ?_
 conv=>whnf
 repeat' (first| contradiction| intro g| apply ca kj| refine st ?_| refine br ?_ ?_<;>intro hc| rfl) <;>conv=>whnf
theorem Vr {m:aI} {id n x:Int} (hx:x≠0) (kj:Ev E 534 [m.v,vi id,vi n] ⟨.tuple [Hw,vi x],[]⟩):Ev E 527 [m.v,vi id,vi n] ⟨vi 0,[]⟩:=by
 refine Ev.aD rfl rfl rfl ?_
 conv=>whnf
 repeat' (first| contradiction| intro g| apply ca kj| refine st ?_| refine br ?_ ?_<;>intro hc| rfl) <;>conv=>whnf
theorem Mn {m:aI} (h:m.Fit) (id n:Int): ∃r:Int,Ev E 526 [m.v,vi id,vi n] ⟨vi r,[]⟩:=by
 rcases AO h id n with⟨x,hx,kj⟩ | ⟨q,rfl,rfl⟩
 ·exact⟨x,RH hx kj⟩
 ·exact Mm h q
theorem Hx {m:aI} (h:m.Fit) (id n:Int): ∃r:Int,Ev E 527 [m.v,vi id,vi n] ⟨vi r,[]⟩:=by
 rcases AO h id n with⟨x,hx,kj⟩ | ⟨q,rfl,rfl⟩
 ·exact⟨0,Vr hx kj⟩
 ·exact⟨_,zp h q⟩
theorem DF {m:aI} {id n x:Int} (hx:x≠0) (hc:Ev E 526 [m.v,vi id,vi n] ⟨vi x,[]⟩):Ev E 524 [m.v,vi id,vi n] ⟨.tuple [aI.zero.v,vi x],[]⟩:=by
 refine Ev.aD rfl rfl rfl ?_
 conv=>whnf
 repeat' (first| contradiction| intro g| apply ca hc| refine st ?_| refine br ?_ ?_<;>intro hc| rfl) <;>conv=>whnf
theorem Vs {m:aI} (h:m.Fit) (h1:m.aB.length≤25) (hl: ∀e ∈ m.aB,e.line.length< 10) (d:Int): ∃l:List Event,l.length≤7*m.aB.length∧Ev E 529 [m.v,vi d] ⟨.own 5 (l.map Event.v),[]⟩:=by
 obtain⟨fc,hc⟩:=sk2 (Mn h)
 obtain⟨gx,hx⟩:=sk2 (Hx h)
 exact JX hc hx (fun id=>vv h id) (fun e=>RE h e) h1 hl d
theorem NT {m:aI} (h:m.Fit) (id n:Int): ∃ (v:V) (M:aI) (c:Int),Ev E 524 [m.v,vi id,vi n] ⟨v,[]⟩∧PT v (.tuple [M.v,vi c])∧(M=aI.zero∨(∃q:y7 m,M=⟨q.es,m.an,m.ways,m.az⟩)):=by
 rcases AO h id n with⟨x,hx,kj⟩ | ⟨q,rfl,rfl⟩
 ·exact⟨_,aI.zero,x,DF hx (RH hx kj),fun _ _=>rfl,.inl rfl⟩
 ·obtain⟨r,hr⟩:=Mm h q
  by_cases h0:r=0
  ·subst h0
   exact⟨_,⟨q.es,m.an,m.ways,m.az⟩,0,RG h q hr,YK (m:=⟨q.es,m.an,m.ways,m.az⟩) (.inl rfl) (.inl rfl) (.inl rfl) (.inl rfl),.inr ⟨q,rfl⟩⟩
  ·exact⟨_,aI.zero,r,DF h0 hr,fun _ _=>rfl,.inl rfl⟩
end Go.AM.Dr
namespace Go.AM
theorem qy (k:Bool) {m:aI} (h:m.an.length< 1000000):Ev E 500 [m.kv k] ⟨.mlit (bK k m.an m.an.length),[]⟩:=by
 cases k
 ·skip
  refine Ev.aD rfl rfl rfl ?_
  conv=>whnf
  repeat' (first| intro g| refine st ?_| refine br ?_ ?_<;>intro hc| rfl) <;>conv=>whnf
  rename_i g1
  refine aL.by (fun (n:Nat)=> ⟨[(1,.ptr 32 g1 0 0),(3,.mp 112 g),(8,E4 false (m.an.map aW.v)),(9,av (m.an.map aW.v).length),(10,av n)],
     [(32,⟨g1,4,false,false,some [m.kv false]⟩),(112,⟨g,0,false,false,some (bK false m.an n)⟩)]⟩) (fun n=>n≤m.an.length) (fun n=>m.an.length - n) 0 su abW ?_
  intro n hn
  by_cases bl:n<m.an.length
  ·obtain⟨f,hf⟩: ∃f,m.an[n]? =some f:=⟨_,aH bl⟩
   cases hq:findF (m.an.take n) f.id with
   | none=>
     have fE:=GX false hf hq
     conv=>whnf
     repeat' (first| intro g| refine wi (aq hf rfl) ?_| refine wi (xa _ hq) ?_| refine wi fE ?_| refine st ?_| refine br ?_ ?_<;>intro hc| rfl) <;>conv=>whnf
     exact aK.mk (n+1) om abV su
   | some i=>
     obtain⟨f',Vt,_⟩:=ej hq
     have Km:m.an[i]? =some f':=by
      have Cw:i<n:=by have:=(aiS.1 Vt).1;simp at this;omega
      rw[ajl] at Vt;simpa [Cw] using Vt
     have hs:=Df false hf (by rw[hq];simp)
     conv=>whnf
     repeat' (first| intro g| refine wi (aq hf rfl) ?_| refine wi (xb _ hq Km) ?_| refine st ?_| refine br ?_ ?_<;>intro hc| rfl) <;>conv=>whnf
     exact aK.mk (n+1) om abV (by(refine⟨?_,?_⟩ <;>repeat' (first| exact True.intro| refine And.intro ((by(conv=>whnf);rw[hs])) ?_| refine ai ?_| refine And.intro ?_ ?_)))
  obtain rfl:n=m.an.length:=abV
  have hp:=iZ false m.an m.an.length
  have ht:=qt false m.an m.an.length
  have NU:=ki false m.an m.an.length
  conv=>whnf
  repeat' (first| intro g| refine st ?_| refine br ?_ ?_<;>intro hc| rfl) <;>conv=>whnf
  rw[NU]
  exact aiN
 ·skip
  refine Ev.aD rfl rfl rfl ?_
  conv=>whnf
  repeat' (first| intro g| refine st ?_| refine br ?_ ?_<;>intro hc| rfl) <;>conv=>whnf
  rename_i g1
  refine aL.by (fun (n:Nat)=> ⟨[(1,.ptr 32 g1 0 0),(3,.mp 112 g),(8,E4 true (m.an.map aW.v)),(9,av (m.an.map aW.v).length),(10,av n)],
     [(32,⟨g1,4,false,false,some [m.kv true]⟩),(112,⟨g,0,false,false,some (bK true m.an n)⟩)]⟩) (fun n=>n≤m.an.length) (fun n=>m.an.length - n) 0 su abW ?_
  intro n hn
  by_cases bl:n<m.an.length
  ·obtain⟨f,hf⟩: ∃f,m.an[n]? =some f:=⟨_,aH bl⟩
   cases hq:findF (m.an.take n) f.id with
   | none=>
     have fE:=GX true hf hq
     conv=>whnf
     repeat' (first| intro g| refine wi (aq hf rfl) ?_| refine wi (xa _ hq) ?_| refine wi fE ?_| refine st ?_| refine br ?_ ?_<;>intro hc| rfl) <;>conv=>whnf
     exact aK.mk (n+1) om abV su
   | some i=>
     obtain⟨f',Vt,_⟩:=ej hq
     have Km:m.an[i]? =some f':=by
      have Cw:i<n:=by have:=(aiS.1 Vt).1;simp at this;omega
      rw[ajl] at Vt;simpa [Cw] using Vt
     have hs:=Df true hf (by rw[hq];simp)
     conv=>whnf
     repeat' (first| intro g| refine wi (aq hf rfl) ?_| refine wi (xb _ hq Km) ?_| refine st ?_| refine br ?_ ?_<;>intro hc| rfl) <;>conv=>whnf
     exact aK.mk (n+1) om abV (by(refine⟨?_,?_⟩ <;>repeat' (first| exact True.intro| refine And.intro ((by(conv=>whnf);rw[hs])) ?_| refine ai ?_| refine And.intro ?_ ?_)))
  obtain rfl:n=m.an.length:=abV
  have hp:=iZ true m.an m.an.length
  have ht:=qt true m.an m.an.length
  have NU:=ki true m.an m.an.length
  conv=>whnf
  repeat' (first| intro g| refine st ?_| refine br ?_ ?_<;>intro hc| rfl) <;>conv=>whnf
  rw[NU]
  exact aiN
def aW.zero:aW:=⟨0,[],[],0,0⟩
end Go.AM
