/-
  Texts of the proof, joined by program: FkS, FkA, FkB, FkC, FkD. Own work.
-/
import Derived.Test.YtinmckmdbepjcaaGreatData
import Derived.Test.YtinmckmdbepjcaaGreatOpsC
import Derived.Test.YtinmckmdbepjcaaGreatGb
import Derived.Test.YtinmckmdbepjcaaGreatLb
set_option linter.unusedSimpArgs false
set_option linter.unusedVariables false
set_option maxRecDepth 20000
namespace Go.AM
def IsSqrt (n s:Int):Prop:=0≤s∧s*s≤n∧n< (s+1)*(s+1)
theorem aaA {a b:Int} (h0:0≤a) (h:a≤b):a*a≤b*b:=Int.mul_le_mul h h h0 (by omega)
theorem IsSqrt.uniq {n s t:Int} (h:IsSqrt n s) (k:IsSqrt n t):s=t:=by
 obtain⟨h1,h2,h3⟩:=h
 obtain⟨k1,k2,k3⟩:=k
 rcases Int.lt_trichotomy s t with hl| hl| hl
 · have:=aaA (a:=s+1) (b:=t) (by omega) (by omega);omega
 · exact hl
 · have:=aaA (a:=t+1) (b:=s) (by omega) (by omega);omega
open Classical in
noncomputable def aaS (n:Int):Int:=if h: ∃s,IsSqrt n s then h.choose else 0
theorem aaJ {n s:Int} (h:IsSqrt n s):aaS n=s:=by
 have hex: ∃s,IsSqrt n s:=⟨s,h⟩
 unfold aaS;rw[dif_pos hex];exact hex.choose_spec.uniq h
theorem aa9 {n:Int} (h:n≤0):aaS n=0:=by
 by_cases hz:n=0
 · subst hz;exact aaJ ⟨by omega,by omega,by omega⟩
 · unfold aaS;rw[dif_neg]
   rintro⟨s,h1,h2,h3⟩
   have:=Int.mul_nonneg h1 h1
   omega
theorem abm {b r:Nat} (h:FloatKind.f64.format.sqrt b=some r):Ev E 41 [.float b] ⟨.float r,[]⟩:=by
 have hsq:Ev E 52 [.float b] ⟨.float r,[]⟩:=Ev.ext (by rw[adU];simp[Em,h])
 refine Ev.bU adS (adT _) rfl ?_
 (conv=>whnf);repeat' ((first| intro g| refine ag.mk _ (hsq) ?_| refine st ?_| (first| refine b1 ?_ ?_| refine b2 ?_ ?_| refine Br.mk ?_ ?_) <;>intro hc| exact rfl) <;>conv=>whnf)
theorem ab8 {n:Int} (h1:n≤9223372036854775807):Ev E 27 [vi n] ⟨vi (aaS n),[]⟩:=by
 by_cases h0:0 <n
 case neg=>
   rw[aa9 (by omega)]
   refine Ev.bU adp (adq _) rfl ?_
   (conv=>whnf);repeat' ((first| intro g| refine st ?_| (first| refine b1 ?_ ?_| refine b2 ?_ ?_| refine Br.mk ?_ ?_) <;>intro hc| exact rfl) <;>conv=>whnf)
   all_goals trivial
 obtain⟨r,m,hr,hm,EW,Pn⟩:=abR h0 h1
 have e1:IntKind.i64.min≤m:=by simp[IntKind.min,IntKind.signed,IntKind.bits];omega
 have e2:m≤IntKind.i64.max:=by simp[IntKind.max,IntKind.signed,IntKind.bits];omega
 refine Ev.bU adp (adq _) rfl ?_
 (conv=>whnf);repeat' ((first| intro g| refine aH.mk _ ((⟨hm,e1,e2⟩:_∧_∧_)) ?_| refine ag.mk _ (abm hr) ?_| refine st ?_| (first| refine b1 ?_ ?_| refine b2 ?_ ?_| refine Br.mk ?_ ?_) <;>intro hc| exact rfl) <;>conv=>whnf)
 generalize VZ: (if 3037000499 <m then(3037000499:Int) else m)=s0
 have xo:0≤s0∧s0≤3037000499:=by split at VZ<;>omega
 refine ba.by (fun s:Int=> ⟨[(0,vi n),(3,vi s)],[]⟩) (fun s=>0≤s∧s≤3037000499) (fun s=>s.toNat) s0 ?_ xo ?_
 · (refine⟨?_,?_⟩ <;>repeat' (first| exact True.intro| refine ai ?_| refine And.intro ?_ ?_))
 rintro s ⟨B3,DA⟩
 have hsq:=aaA B3 DA
 have adC:0≤s*s:=Int.mul_nonneg B3 B3
 have hw:IntKind.i64.wrap (s*s)=s*s:=wrap64 (by omega) (by omega)
 (conv=>whnf);repeat' ((first| intro g| refine st ?_| (first| refine b1 ?_ ?_| refine b2 ?_ ?_| refine Br.mk ?_ ?_) <;>intro hc| exact rfl) <;>conv=>whnf)
 · rw[ hw] at hc
   have:0 <s:=by
     rcases Int.lt_or_le 0 s with h| h
     · exact h
     · have:s=0:=by omega
       subst this;omega
   refine bc.mk (s - 1) (by first| omega| (dsimp only;omega)) ?_ (by(refine⟨?_,?_⟩ <;>repeat' (first| exact True.intro| refine ai ?_| refine And.intro ?_ ?_)))
   exact⟨by omega,by omega⟩
 rw[hw] at hc
 refine ba.by (fun s:Int=> ⟨[(0,vi n),(3,vi s)],[]⟩) (fun s=>0≤s∧s≤3037000499∧s*s≤n) (fun s=> (3037000499 - s).toNat) s ?_ ⟨B3,DA,by omega⟩ ?_
 · (refine⟨?_,?_⟩ <;>repeat' (first| exact True.intro| refine ai ?_| refine And.intro ?_ ?_))
 clear hw hsq adC hc B3 DA s
 rintro s ⟨B3,DA,hle⟩
 by_cases bk:s< 3037000499
 · have hsq:=aaA (a:=s+1) (b:=3037000499) (by omega) (by omega)
   have adC:0≤(s+1)*(s+1):=Int.mul_nonneg (by omega) (by omega)
   have Ps:IntKind.i64.wrap (s+1)=s+1:=wrap64 (by omega) (by omega)
   have hw:IntKind.i64.wrap ((s+1)*(s+1))=(s+1)*(s+1):=wrap64 (by omega) (by omega)
   (conv=>whnf);repeat' ((first| intro g| refine st ?_| (first| refine b1 ?_ ?_| refine b2 ?_ ?_| refine Br.mk ?_ ?_) <;>intro hc| exact rfl) <;>conv=>whnf)
   · rw[Ps,hw] at hc
     refine bc.mk (s+1) (by first| omega| (dsimp only;omega)) ?_ (by(refine⟨?_,?_⟩ <;>repeat' (first| exact True.intro| refine ai ?_| refine And.intro ?_ ?_)))
     exact⟨by omega,by omega,hc⟩
   · rw[Ps,hw] at hc
     rw[aaJ ⟨B3,hle,by omega⟩]
 · (conv=>whnf);repeat' ((first| intro g| refine st ?_| (first| refine b1 ?_ ?_| refine b2 ?_ ?_| refine Br.mk ?_ ?_) <;>intro hc| exact rfl) <;>conv=>whnf)
   have:=aaA (a:=3037000500) (b:=s+1) (by omega) (by omega)
   rw[aaJ ⟨B3,hle,by omega⟩]
theorem abS {n:Int} (hn:n≤9223372036854775807):Ev E 127 [vi n] ⟨vi (aaS n),[]⟩:=by
 refine Ev.bU adv (adw _) rfl ?_
 (conv=>whnf);repeat' ((first| intro g| refine st ?_| (first| refine b1 ?_ ?_| refine b2 ?_ ?_| refine Br.mk ?_ ?_) <;>intro hc| exact rfl) <;>conv=>whnf)
 refine ba.by (fun (p:Nat×Int)=> ⟨[(0,vi n),(3,vi p.2),(4,vi ((p.1:Int) - 1))],[]⟩)
   (fun p=>p.1≤32∧0≤p.2∧(p.2*p.2≤n∨p.2=0)∧p.2≤3037000499∧(n< (p.2+2 ^ p.1)*(p.2+2 ^ p.1)∨3037000500≤p.2+2 ^ p.1)) (fun p=>p.1) (32,0) ?_ ?_ ?_
 · (refine⟨?_,?_⟩ <;>repeat' (first| exact True.intro| refine ai ?_| refine And.intro ?_ ?_))
 · simp
 rintro⟨k,s⟩ ⟨h1,h2,h3,h4,h5⟩
 dsimp only at h1 h2 h3 h4 h5
 cases k with
 | zero=>
   (conv=>whnf);repeat' ((first| intro g| refine st ?_| (first| refine b1 ?_ ?_| refine b2 ?_ ?_| refine Br.mk ?_ ?_) <;>intro hc| exact rfl) <;>conv=>whnf)
   show (⟨vi s,[]⟩:fK)=_
   congr 2
   rw[show (2:Int) ^ 0=1 from rfl] at h5
   by_cases abw:n≤0
   · rw[aa9 abw]
     rcases h3 with h3| h3
     · by_cases hs:s=0
       · exact hs
       · have:=Int.mul_pos (show 0 <s by omega) (show 0 <s by omega);omega
     · exact h3
   · have M1:s*s≤n:=by
       rcases h3 with h3| h3
       · exact h3
       · subst h3;omega
     refine(aaJ ⟨h2,M1,?_⟩).symm
     rcases h5 with h5| h5
     · exact h5
     · have hs:s=3037000499:=by omega
       rw[hs,show ((3037000499:Int)+1)*(3037000499+1)=9223372037000250000 from rfl]
       omega
 | succ j=>
   have hj:min (((j+1:Nat):Int) - 1).toNat IntKind.i64.bits=j:=by
     have:IntKind.i64.bits=64:=rfl
     rw[this];omega
   have DO: (1:Int)≤2 ^ j:=by
     have:=Nat.one_le_two_pow (n:=j)
     exact_mod_cast this
   have hle: (2:Int) ^ j≤2147483648:=by
     have h31: (2:Nat) ^ j≤2147483648:=Nat.le_trans (show (2:Nat) ^ j≤2 ^ 31 from Nat.pow_le_pow_right (by omega) (by omega)) (by decide)
     have h32: ((2 ^ j:Nat):Int)≤((2147483648:Nat):Int):=Int.ofNat_le.2 h31
     rw[Int.natCast_pow] at h32
     exact h32
   have h2p: (2:Int) ^ (j+1)=2*2 ^ j:=by rw[Int.pow_succ];omega
   rw[h2p] at h5
   have hp:IntKind.i64.wrap (1*2 ^ min (((j+1:Nat):Int) - 1).toNat IntKind.i64.bits)=2 ^ j:=by
     rw[hj,Int.one_mul];exact wrap64 (by omega) (by omega)
   have hw:IntKind.i64.wrap (s+2 ^ j)=s+2 ^ j:=wrap64 (by omega) (by omega)
   have oK:s+2 ^ j+2 ^ j=s+2*2 ^ j:=by omega
   have hsq:s+2 ^ j≤3037000499→IntKind.i64.wrap ((s+2 ^ j)*(s+2 ^ j))=(s+2 ^ j)*(s+2 ^ j):=fun h=>by
     have:=aaA (a:=s+2 ^ j) (b:=3037000499) (by omega) h
     have:=Int.mul_nonneg (show 0≤s+2 ^ j by omega) (show 0≤s+2 ^ j by omega)
     exact wrap64 (by omega) (by omega)
   (conv=>whnf);repeat' ((first| intro g| refine st ?_| (first| refine b1 ?_ ?_| refine b2 ?_ ?_| refine Br.mk ?_ ?_) <;>intro hc| exact rfl) <;>conv=>whnf)
   · rename_i BK
     rw[hp,hw] at BK
     rw[hp,hw,hsq BK] at hc
     refine bc.mk (j,s+2 ^ j) (by dsimp only;omega) ?_ ?_
     · exact⟨by omega,by omega,.inl hc,BK,by dsimp only;rw[oK];exact h5⟩
     · have e1:V.int .i64 (IntKind.i64.wrap (s+IntKind.i64.wrap (1*2 ^ min (((j+1:Nat):Int) - 1).toNat IntKind.i64.bits)))=vi (s+2 ^ j):=by rw[hp,hw]
       (refine⟨?_,?_⟩ <;>repeat' (first| exact True.intro| refine And.intro (e1) ?_| refine ai ?_| refine And.intro ?_ ?_))
   · rename_i BK
     rw[hp,hw] at BK
     rw[hp,hw,hsq BK] at hc
     refine bc.mk (j,s) (by dsimp only;omega) ?_ (by(refine⟨?_,?_⟩ <;>repeat' (first| exact True.intro| refine ai ?_| refine And.intro ?_ ?_)))
     exact⟨by omega,by omega,h3,h4,.inl (by dsimp only;omega)⟩
   · rw[hp,hw] at hc
     refine bc.mk (j,s) (by dsimp only;omega) ?_ (by(refine⟨?_,?_⟩ <;>repeat' (first| exact True.intro| refine ai ?_| refine And.intro ?_ ?_)))
     exact⟨by omega,by omega,h3,h4,.inr (by dsimp only;omega)⟩
end Go.AM
set_option maxRecDepth 20000
namespace Go.AM
theorem ab9 (n:Int):IntKind.i64.wrap n≤9223372036854775807:=by
 simp[IntKind.wrap,IntKind.bits,IntKind.signed]
 split<;>omega
def abT (p q:Pt):Int:=EE (EE (EE (q.x - p.x)*EE (q.x - p.x))+EE (EE (q.y - p.y)*EE (q.y - p.y)))
theorem abn (p q:Pt):abT p q≤9223372036854775807:=ab9 _
noncomputable def abo (l:List Pt):Nat→Int
 | 0=>0
 | k+1=>match l[k]?,l[k+1]? with
   | some p,some q=>EE (abo l k+aaS (abT p q))
   | _,_=>abo l k
noncomputable def aal (l:List Pt):Int:=abo l (l.length - 1)
theorem aba {l:List Pt} {k:Nat} {p q:Pt} (hp:l[k]? =some p) (hq:l[k+1]? =some q):abo l (k+1)=EE (abo l k+aaS (abT p q)):=by
 simp only[abo,hp,hq]
theorem acJ (a b:Pt):Ev E 37 [a.v,b.v] ⟨(Pt.mk (EE (a.x - b.x)) (EE (a.y - b.y))).v,[]⟩:=by
 refine Ev.bU adO (adP _) rfl ?_
 (conv=>whnf);repeat' ((first| intro g| refine st ?_| (first| refine b1 ?_ ?_| refine b2 ?_ ?_| refine Br.mk ?_ ?_) <;>intro hc| exact rfl) <;>conv=>whnf)
theorem acK (a b:Pt):Ev E 38 [a.v,b.v] ⟨vi (EE (EE (a.x*b.x)+EE (a.y*b.y))),[]⟩:=by
 refine Ev.bU adQ (adR _) rfl ?_
 (conv=>whnf);repeat' ((first| intro g| refine st ?_| (first| refine b1 ?_ ?_| refine b2 ?_ ?_| refine Br.mk ?_ ?_) <;>intro hc| exact rfl) <;>conv=>whnf)
theorem aca (a b:Pt):Ev E 161 [a.v,b.v] ⟨(Pt.mk (EE (a.x - b.x)) (EE (a.y - b.y))).v,[]⟩:=by
 refine Ev.bU OG (OH _) rfl ?_
 (conv=>whnf);repeat' ((first| intro g| refine st ?_| (first| refine b1 ?_ ?_| refine b2 ?_ ?_| refine Br.mk ?_ ?_) <;>intro hc| exact rfl) <;>conv=>whnf)
theorem acb (a b:Pt):Ev E 166 [a.v,b.v] ⟨vi (EE (EE (a.x*b.x)+EE (a.y*b.y))),[]⟩:=by
 refine Ev.bU adx (ady _) rfl ?_
 (conv=>whnf);repeat' ((first| intro g| refine st ?_| (first| refine b1 ?_ ?_| refine b2 ?_ ?_| refine Br.mk ?_ ?_) <;>intro hc| exact rfl) <;>conv=>whnf)
theorem acd {l:List Pt} (hl:l.length< 1000000):Ev E 513 [iP l] ⟨vi (aal l),[]⟩:=by
 refine Ev.bU adt (adu _) rfl ?_
 (conv=>whnf);repeat' ((first| intro g| refine st ?_| (first| refine b1 ?_ ?_| refine b2 ?_ ?_| refine Br.mk ?_ ?_) <;>intro hc| exact rfl) <;>conv=>whnf)
 refine ba.by (fun (k:Nat)=> ⟨[(0,iP l),(3,vi (abo l k)),(4,aF k)],[]⟩) (fun k=>k≤l.length - 1) (fun k=>l.length - k) 0 (by(refine⟨?_,?_⟩ <;>repeat' (first| exact True.intro| refine ai ?_| refine And.intro ?_ ?_))) (by omega) ?_
 intro k hk
 try dsimp only at hk
 by_cases bk:k+1 <l.length
 · obtain⟨p,hp⟩: ∃p,l[k]? =some p:=⟨_,aL (by omega)⟩
   obtain⟨q,hq⟩: ∃q,l[k+1]? =some q:=⟨_,aL bk⟩
   have zQ: (l.map Pt.v)[k]? =some p.v:=by simp[hp]
   have FH: (l.map Pt.v)[k+1]? =some q.v:=by simp[hq]
   have hsq:=abS (abn p q)
   have hw:IntKind.i64.wrap ((k:Int)+1)=((k+1:Nat):Int):=wrap64 (by omega) (by omega)
   have hn: (((k+1:Nat):Int)).toNat=k+1:=by omega
   have R8: (l.map Pt.v)[(IntKind.i64.wrap ((k:Int)+1)).toNat]? =some q.v:=by rw[hw,hn];exact FH
   have adW:IntKind.i64.wrap ((k:Int)+1) < (l.length:Int):=by rw[hw];omega
   have wk:0≤IntKind.i64.wrap ((k:Int)+1):=by rw[hw];omega
   have oK:=aba hp hq
   (conv=>whnf);repeat' ((first| intro g| refine eY.mk (⟨wk,rfl⟩) ?_| refine aH.mk _ (zQ) ?_| refine aH.mk _ (R8) ?_| refine ag.mk _ (aca q p) ?_| refine ag.mk _ (acb _ _) ?_| refine ag.mk _ (hsq) ?_| refine st ?_| (first| refine b1 ?_ ?_| refine b2 ?_ ?_| refine Br.mk ?_ ?_) <;>intro hc| exact rfl) <;>conv=>whnf)
   refine bc.mk (k+1) (by first| omega| (dsimp only;omega)) (by omega) ?_
   simp only[oK]
   (refine⟨?_,?_⟩ <;>repeat' (first| exact True.intro| refine ai ?_| refine And.intro ?_ ?_))
 · obtain IK:k=l.length - 1:=by omega
   subst IK
   have adW: ¬IntKind.i64.wrap (((l.length - 1:Nat):Int)+1) < (l.length:Int):=by
    rw[show IntKind.i64.wrap (((l.length - 1:Nat):Int)+1)=((l.length - 1:Nat):Int)+1 from wrap64 (by omega) (by omega)];omega
   (conv=>whnf);repeat' ((first| intro g| refine st ?_| (first| refine b1 ?_ ?_| refine b2 ?_ ?_| refine Br.mk ?_ ?_) <;>intro hc| exact rfl) <;>conv=>whnf)
theorem zJ: ∀ (ps:List Pt) (i k:Nat),(vl i (ps.map Pt.v))[k]? =match ps[k]?,ps[k+1]? with
   | some p,some q=>some [.int .i64 ((i+k:Nat):Int),.agg [vi p.x,vi p.y,vi q.x,vi q.y]]
   | _,_=>none
 | [],i,k=>by simp[vl]
 | [p],i,k=>by cases k<;>simp[vl]
 | p::q::r,i,0=>by simp[vl,Pt.v,V.cells]
 | p::q::r,i,k+1=>by
   have ih:=zJ (q::r) (i+1) k
   simp only[List.map_cons,vl,List.getElem?_cons_succ] at ih ⊢
   rw[ih]
   have:i+1+k=i+(k+1):=by omega
   rw[this]
theorem zI: ∀ (ps:List Pt) (i:Nat),(vl i (ps.map Pt.v)).length=ps.length - 1
 | [],i=>by simp[vl]
 | [p],i=>by simp[vl]
 | p::q::r,i=>by
   have ih:=zI (q::r) (i+1)
   simp only[List.map_cons,vl,List.length_cons] at ih ⊢
   omega
theorem abp: ∀ (ps:List V) (i:Nat),∀x ∈ vl i ps,x.length=2
 | [],i,x,h=>by simp[vl] at h
 | [p],i,x,h=>by simp[vl] at h
 | p::q::r,i,x,h=>by
   rw[vl] at h
   rcases List.mem_cons.1 h with rfl| h
   · rfl
   · exact abp (q::r) (i+1) x h
theorem abq (l:List Pt):Ev E 182 [iP l] ⟨.fn 221 [.eptr (iP l) 0],[]⟩:=by
 refine Ev.bU adn (ado _) rfl ?_
 (conv=>whnf);repeat' ((first| intro g| refine st ?_| (first| refine b1 ?_ ?_| refine b2 ?_ ?_| refine Br.mk ?_ ?_) <;>intro hc| exact rfl) <;>conv=>whnf)
theorem acL {l:List Pt} (hl:l.length< 1000000):Ev E 496 [iP l] ⟨vi (aal l),[]⟩:=by
 have adX:=abq l
 refine Ev.bU ac9 (ada _) rfl ?_
 (conv=>whnf);repeat' ((first| intro g| refine ag.mk _ (adX) ?_| refine st ?_| (first| refine b1 ?_ ?_| refine b2 ?_ ?_| refine Br.mk ?_ ?_) <;>intro hc| exact rfl) <;>conv=>whnf)
 have hi:E.iter 221 [(iP l).eptr 0]=some (vl 0 (l.map Pt.v)):=by
   show (if (l.map Pt.v).length< 4611686018427387904 then some (vl 0 (l.map Pt.v)) else none)=_
   rw[if_pos (by simp;omega)]
 refine z8.by (vl 0 (l.map Pt.v)) rfl hi (fun x hx=>abp _ _ x hx) (fun (k:Nat)=> [(48,⟨g,1,false,false,some [vi (abo l k)]⟩)]) (fun k a=>a=k) 0 ?_ rfl ?_ ?_
 · (repeat' (first| exact True.intro| refine ai ?_| refine And.intro ?_ ?_))
 · rintro _ x k hx rfl
   rw[zJ] at hx
   cases hp:l[k]? with
   | none=>rw[hp] at hx;cases hx
   | some p=>
   cases hq:l[k+1]? with
   | none=>rw[hp,hq] at hx;cases hx
   | some q=>
   rw[hp,hq] at hx
   injection hx with hx;subst hx
   have oK:=aba hp hq
   have hsq:=ab8 (abn p q)
   (conv=>whnf);repeat' ((first| intro g| refine ag.mk _ (acJ q p) ?_| refine ag.mk _ (acK _ _) ?_| refine ag.mk _ (hsq) ?_| refine st ?_| (first| refine b1 ?_ ?_| refine b2 ?_ ?_| refine Br.mk ?_ ?_) <;>intro hc| exact rfl) <;>conv=>whnf)
   refine Su.mk (k+1) rfl ?_
   simp only[oK]
   (repeat' (first| exact True.intro| refine ai ?_| refine And.intro ?_ ?_))
 · rintro a rfl
   rw[zI]
   (conv=>whnf);repeat' ((first| intro g| refine st ?_| (first| refine b1 ?_ ?_| refine b2 ?_ ?_| refine Br.mk ?_ ?_) <;>intro hc| exact rfl) <;>conv=>whnf)
end Go.AM
set_option maxRecDepth 20000
namespace Go.AM
theorem aaU {α:Type} (p:α→Bool) (l:List α): (firstIdx p l= -1∧ ∀ (i:Nat) (x:α),l[i]? =some x→p x=false)∨ ∃ (i:Nat) (x:α),firstIdx p l=(i:Int)∧l[i]? =some x∧p x=true∧ ∀ (j:Nat) (y:α),j<i→l[j]? =some y→p y=false:=by
 rcases aaY p l with h| ⟨i,x,h1,h2,h3⟩
 · exact .inl h
 · refine .inr ⟨i,x,h1,h2,h3,?_⟩
   unfold firstIdx at h1
   cases h:l.findIdx? p with
   | none=>rw[h] at h1;simp at h1
   | some k=>
     rw[h] at h1
     rw[List.findIdx?_eq_some_iff_getElem] at h
     obtain⟨hl,hp,kf⟩:=h
     intro j y hj hy
     obtain⟨bT,rfl⟩:=List.getElem?_eq_some_iff.1 hy
     have:k=i:=by simp at h1;omega
     subst this
     simpa using kf j hj
theorem abr {α:Type} {p:α→Bool} {l:List α} {i:Nat} {x:α} (h:l[i]? =some x): (l.take (i+1)).filter p=(l.take i).filter p++(if p x then [x] else []):=by
 rw[List.take_add_one,h,Option.toList_some,List.filter_append]
 simp[List.filter_cons]
def aab (g:Nat) (caps:List V) (f:Int→V):Prop:=V.aq caps=true∧gv E g=[]∧ ∀x,Ev E g (vi x::caps) ⟨f x,[]⟩
theorem acM {l:List Int} {g:Nat} {caps:List V} {p:Int→Bool} (hlen:l.length< 1000000) (hc:aab g caps fun x=> .bool (p x)):Ev E 280 [.lit 1 (l.map vi),.fn g caps] ⟨vi (firstIdx p l),[]⟩:=by
 obtain⟨hc,hm,hp⟩:=hc
 have acN:=iG l
 refine Ev.bU adr (ads _) rfl ?_
 (conv=>whnf);repeat' ((first| intro g| refine eY.mk (by simp[V.aq,V.aE,hc,acN]) ?_| refine st ?_| (first| refine b1 ?_ ?_| refine b2 ?_ ?_| refine Br.mk ?_ ?_) <;>intro hc| exact rfl) <;>conv=>whnf)
 refine ba.by (fun i:Nat=> ⟨[(0,.lit 1 (l.map vi)),(1,.fn g caps),(7,aF (l.map vi).length),(8,aF i)],[]⟩) (fun i=>i≤l.length∧ ∀ (j:Nat) y,j<i→l[j]? =some y→p y=false) (fun i=>l.length - i) 0 ?_ ?_ ?_
 · (refine⟨?_,?_⟩ <;>repeat' (first| exact True.intro| refine ai ?_| refine And.intro ?_ ?_))
 · simp
 rintro i ⟨hi,kf⟩
 have ed:=hc
 by_cases bk:i<l.length
 · have hx:l[i]? =some l[i]:=aL bk
   have hpx:=hp l[i]
   generalize l[i]=x at hx hpx
   have BI: (l.map vi)[i]? =some (vi x):=by simp[hx]
   (conv=>whnf);repeat' ((first| intro g| refine aH.mk _ (BI) ?_| refine tg (by assumption) (by first| assumption| rfl| (simp only[V.aq,V.aE,Bool.and_self,Bool.true_and,Bool.and_true, *])) (hpx) rfl ?_| refine st ?_| (first| refine b1 ?_ ?_| refine b2 ?_ ?_| refine Br.mk ?_ ?_) <;>intro hc| exact rfl) <;>conv=>whnf)
   · rw[aaX kf hx hc]
   · refine bc.mk (i+1) (by first| omega| (dsimp only;omega)) ?_ (by(refine⟨?_,?_⟩ <;>repeat' (first| exact True.intro| refine ai ?_| refine And.intro ?_ ?_)))
     refine⟨by omega,fun j y hj hy=> ?_⟩
     by_cases e:j=i
     · subst e
       rw[hx] at hy
       injection hy with hy;subst hy;exact hc
     · exact kf j y (by omega) hy
 · (conv=>whnf);repeat' ((first| intro g| refine st ?_| (first| refine b1 ?_ ?_| refine b2 ?_ ?_| refine Br.mk ?_ ?_) <;>intro hc| exact rfl) <;>conv=>whnf)
   rw[firstIdx_none fun j y hy=>kf j y (by have:=(List.getElem?_eq_some_iff.1 hy).1;omega) hy]
def aah (l:List Int) (p:Int→Bool):List Int:=l.filter fun x=> !p x
theorem abF (l:List Int) (p:Int→Bool): (aah l p).length≤l.length:=List.length_filter_le ..
theorem aaF {l:List Int} {p:Int→Bool} {i:Nat} {x:Int} (h:l[i]? =some x):aah (l.take (i+1)) p=aah (l.take i) p++(if p x then [] else [x]):=by
 unfold aah
 rw[abr h]
 cases p x<;>rfl
theorem abb {l:List Int} {p:Int→Bool} (h: ∀ (i:Nat) x,l[i]? =some x→p x=false):aah l p=l:=by
 unfold aah
 rw[List.filter_eq_self]
 intro y hy
 obtain⟨j,hj⟩:=List.mem_iff_getElem?.1 hy
 simp[h j y hj]
set_option maxHeartbeats 1000000 in
theorem acG {l:List Int} {g:Nat} {caps:List V} {p:Int→Bool} (hl:l.length< 1000000) (mG:aab g caps fun x=> .bool (p x)): ∃rest:List V,V.aq rest=true∧Ev E 505 [.msl 1 (l.map vi) 0 l.length,.fn g caps] ⟨.sl 0 0 0 (aah l p).length,[(0,(aah l p).map vi++rest)]⟩:=by
 have ace:=acM hl mG
 obtain⟨hc,hm,hp⟩:=mG
 have Uc:gv E 280=[]:=rfl
 have hKp:V.aq (l.map vi)=true:=iG l
 have MG:V.aq [.lit 1 (l.map vi),.fn g caps]=true:=by simp[V.aq,V.aE,hc,hKp]
 have key:=Ev.cQ (R:=fun r=> ∃ (rest:List V),V.aq rest=true∧r=⟨.sl 0 0 0 (aah l p).length,[(0,(aah l p).map vi++rest)]⟩) adb (ade [.msl 1 (l.map vi) 0 l.length,.fn g caps]) rfl ?_
 · obtain⟨r,h1,rest,h2,rfl⟩:=key
   exact⟨rest,h2,h1⟩
 rcases aaU p l with⟨h1,h2⟩ | ⟨i0,x0,h1,h2,h3,h4⟩
 · rw[h1] at ace
   have e:aah l p=l:=abb h2
   rw[e]
   (conv=>whnf);repeat' ((first| intro g| refine ag.mk _ (ace) ?_| refine st ?_| (first| refine b1 ?_ ?_| refine b2 ?_ ?_| refine Br.mk ?_ ?_) <;>intro hc| exact rfl| (simp only[List.append,eN,gr,V.aE,hc,cond_true])) <;>conv=>whnf)
   exact⟨[],rfl,by simp⟩
 · rw[ h1] at ace
   (conv=>whnf);repeat' ((first| intro g| refine ag.mk _ (ace) ?_| refine st ?_| (first| refine b1 ?_ ?_| refine b2 ?_ ?_| refine Br.mk ?_ ?_) <;>intro hc| exact rfl| (simp only[List.append,eN,gr,V.aE,hc,cond_true])) <;>conv=>whnf)
   have Yb:=(List.getElem?_eq_some_iff.1 h2).1
   have zi:aah (l.take i0) p=l.take i0:=by
     refine abb fun j y hy=> ?_
     have hji:j<i0:=by
       have:=(List.getElem?_eq_some_iff.1 hy).1
       simp at this;omega
     rw[List.getElem?_take_of_lt hji] at hy
     exact h4 j y hji hy
   refine ba.by (fun ((j,i,es):Nat×Nat×List Int)=> ⟨[(0,.sl 0 0 0 l.length),(1,.fn g caps),(5,vi i),(6,vi j)],[(0,⟨0,1,true,false,some (es.map vi)⟩)]⟩)
     (fun (j,i,es)=>j≤l.length∧i<j∧es.length=l.length∧es.take i=aah (l.take j) p∧es.drop j=l.drop j) (fun (j,_,_)=>l.length - j) (i0+1,i0,l) ?_ ?_ ?_
   · have hw:IntKind.i64.wrap ((i0:Int)+1)=((i0+1:Nat):Int):=wrap64 (by omega) (by omega)
     simp only[hw]
     (refine⟨?_,?_⟩ <;>repeat' (first| exact True.intro| refine ai ?_| refine And.intro ?_ ?_))
   · refine⟨by omega,by omega,rfl,?_,rfl⟩
     rw[aaF h2,zi];simp[h3]
   rintro⟨j,i,es⟩ ⟨hj,vr,bQ,Ia,Xf⟩
   try dsimp only at hj vr bQ Ia Xf
   have lm: (es.map vi).length=es.length:=List.length_map ..
   have ed:=hc
   by_cases bk:j<l.length
   · have hx:l[j]? =some l[j]:=aL bk
     have hpx:=hp l[j]
     generalize l[j]=x at hx hpx
     have hxe:es[j]? =some x:=by
       have h5: (es.drop j)[0]? =(l.drop j)[0]? :=by rw[Xf]
       simpa [List.getElem?_drop,hx] using h5
     have adD: (es.map vi)[j]? =some (vi x):=by simp[hxe]
     have hot:=aaF (p:=p) hx
     have adE:es.drop (j+1)=l.drop (j+1):=by
       have h5: (es.drop j).drop 1=(l.drop j).drop 1:=by rw[Xf]
       simpa [List.drop_drop,Nat.add_comm] using h5
     cases WG:p x with
     | false=>
       have jG: (es.set i x).take (i+1)=aah (l.take (j+1)) p:=by
        rw[hot,←Ia,WG]
        rw[List.take_add_one,List.take_set_of_le (by omega)]
        simp[List.getElem?_set,show i<es.length by omega]
       have adY: (es.set i x).drop (j+1)=l.drop (j+1):=by
        rw[List.drop_set_of_lt (by omega),adE]
       have e1: (⟨0,1,true,false,some ((es.map vi).set ((i:Nat):Int).toNat (vi x))⟩:Obj)=⟨0,1,true,false,some ((es.set i x).map vi)⟩:=by simp[List.map_set]
       simp only[WG] at hpx
       (conv=>whnf);repeat' ((first| intro g| refine aH.mk _ (adD) ?_| refine tg (by assumption) (by first| assumption| rfl| (simp only[V.aq,V.aE,Bool.and_self,Bool.true_and,Bool.and_true, *])) (hpx) rfl ?_| refine st ?_| (first| refine b1 ?_ ?_| refine b2 ?_ ?_| refine Br.mk ?_ ?_) <;>intro hc| exact rfl) <;>conv=>whnf)
       exact bc.mk (j+1,i+1,es.set i x) (by first| omega| (dsimp only;omega)) ⟨by omega,by omega,by simp[bQ],jG,adY⟩ (by(refine⟨?_,?_⟩ <;>repeat' (first| exact True.intro| refine And.intro (e1) ?_| refine ai ?_| refine And.intro ?_ ?_)))
     | true=>
       simp only[WG] at hpx
       (conv=>whnf);repeat' ((first| intro g| refine aH.mk _ (adD) ?_| refine tg (by assumption) (by first| assumption| rfl| (simp only[V.aq,V.aE,Bool.and_self,Bool.true_and,Bool.and_true, *])) (hpx) rfl ?_| refine st ?_| (first| refine b1 ?_ ?_| refine b2 ?_ ?_| refine Br.mk ?_ ?_) <;>intro hc| exact rfl) <;>conv=>whnf)
       exact bc.mk (j+1,i,es) (by first| omega| (dsimp only;omega)) ⟨by omega,by omega,bQ,by rw[Ia,hot];simp[WG],adE⟩ (by(refine⟨?_,?_⟩ <;>repeat' (first| exact True.intro| refine ai ?_| refine And.intro ?_ ?_)))
   · obtain rfl:j=l.length:=by omega
     rw[List.take_length] at Ia
     have V9: (aah l p).length=i:=by rw[←Ia];simp;omega
     have hKe:V.aq (es.map vi)=true:=iG es
     (conv=>whnf);repeat' ((first| intro g| refine eY.mk (by first| ((and_intros<;>first| rfl| exact j9 hKe (ka rfl) | exact mV (j9 hKe (ka rfl)) | (simp only[overwrite,List.length_append,List.length_take,List.length_replicate,List.length_drop,List.length_map];omega) | omega)) | fail) ?_| refine st ?_| (first| refine b1 ?_ ?_| refine b2 ?_ ?_| refine Br.mk ?_ ?_) <;>intro hc| exact rfl) <;>conv=>whnf)
     simp only[Int.toNat_natCast,Nat.zero_add,Nat.sub_zero,overwrite,List.append_assoc]
     rw[V9,←List.map_take,Ia]
     exact⟨_,fe (ka rfl) (dp fun y hy=>fb hKe y (List.mem_of_mem_drop hy)),rfl⟩
noncomputable def aaj (f:Int→Int) (l:List Int):Nat→Int
 | 0=>0
 | k+1=>match l[k]? with
   | some x=>if k=0∨f (aaj f l k) <f x then x else aaj f l k
   | none=>aaj f l k
noncomputable def aak (f:Int→Int) (l:List Int):Int:=aaj f l l.length
theorem aar {f:Int→Int} {l:List Int} {k:Nat} {x:Int} (h:l[k]? =some x):aaj f l (k+1)=if k=0∨f (aaj f l k) <f x then x else aaj f l k:=by
 simp only[aaj,h]
theorem abv {l:List Int} {g:Nat} {caps:List V} {f:Int→Int} (hl:l.length< 1000000) (mG:aab g caps fun x=>vi (f x)):Ev E 508 [.lit 1 (l.map vi),.fn g caps] ⟨.tuple [vi (aak f l),.bool (decide (0 <l.length))],[]⟩:=by
 obtain⟨hc,hm,hp⟩:=mG
 have acN:=iG l
 refine Ev.bU adj (adk _) rfl ?_
 (conv=>whnf);repeat' ((first| intro g| refine eY.mk (by simp[V.aq,V.aE,hc,acN]) ?_| refine st ?_| (first| refine b1 ?_ ?_| refine b2 ?_ ?_| refine Br.mk ?_ ?_) <;>intro hc| exact rfl) <;>conv=>whnf)
 refine ba.by (fun k:Nat=> ⟨[(0,.lit 1 (l.map vi)),(1,.fn g caps),(6,vi (aaj f l k)),(9,.lit 1 (l.map vi)),(10,aF (l.map vi).length),(11,aF k)],[]⟩) (fun k=>k≤l.length) (fun k=>l.length - k) 0 (by(refine⟨?_,?_⟩ <;>repeat' (first| exact True.intro| refine ai ?_| refine And.intro ?_ ?_))) (by omega) ?_
 intro k hk
 try dsimp only at hk
 have ed:=hc
 by_cases bk:k<l.length
 · have hx:l[k]? =some l[k]:=aL bk
   generalize l[k]=x at hx
   have BI: (l.map vi)[k]? =some (vi x):=by simp[hx]
   have h1:=hp x
   have h2:=hp (aaj f l k)
   have oK:=aar (f:=f) hx
   by_cases h0:k=0
   · subst h0
     rw[if_pos (.inl rfl)] at oK
     (conv=>whnf);repeat' ((first| intro g| refine aH.mk _ (BI) ?_| refine st ?_| (first| refine b1 ?_ ?_| refine b2 ?_ ?_| refine Br.mk ?_ ?_) <;>intro hc| exact rfl) <;>conv=>whnf)
     refine bc.mk 1 (by first| omega| (dsimp only;omega)) (by omega) ?_
     simp only[oK]
     (refine⟨?_,?_⟩ <;>repeat' (first| exact True.intro| refine ai ?_| refine And.intro ?_ ?_))
   · by_cases BK:f (aaj f l k) <f x
     · rw[if_pos (.inr BK)] at oK
       (conv=>whnf);repeat' ((first| intro g| refine aH.mk _ (BI) ?_| refine tg (by assumption) (by first| assumption| rfl| (simp only[V.aq,V.aE,Bool.and_self,Bool.true_and,Bool.and_true, *])) (h1) rfl ?_| refine tg (by assumption) (by first| assumption| rfl| (simp only[V.aq,V.aE,Bool.and_self,Bool.true_and,Bool.and_true, *])) (h2) rfl ?_| refine st ?_| (first| refine b1 ?_ ?_| refine b2 ?_ ?_| refine Br.mk ?_ ?_) <;>intro hc| exact rfl) <;>conv=>whnf)
       refine bc.mk (k+1) (by first| omega| (dsimp only;omega)) (by omega) ?_
       simp only[oK]
       (refine⟨?_,?_⟩ <;>repeat' (first| exact True.intro| refine ai ?_| refine And.intro ?_ ?_))
     · rw[if_neg (fun h=>h.elim h0 BK)] at oK
       (conv=>whnf);repeat' ((first| intro g| refine aH.mk _ (BI) ?_| refine tg (by assumption) (by first| assumption| rfl| (simp only[V.aq,V.aE,Bool.and_self,Bool.true_and,Bool.and_true, *])) (h1) rfl ?_| refine tg (by assumption) (by first| assumption| rfl| (simp only[V.aq,V.aE,Bool.and_self,Bool.true_and,Bool.and_true, *])) (h2) rfl ?_| refine st ?_| (first| refine b1 ?_ ?_| refine b2 ?_ ?_| refine Br.mk ?_ ?_) <;>intro hc| exact rfl) <;>conv=>whnf)
       refine bc.mk (k+1) (by first| omega| (dsimp only;omega)) (by omega) ?_
       simp only[oK]
       (refine⟨?_,?_⟩ <;>repeat' (first| exact True.intro| refine ai ?_| refine And.intro ?_ ?_))
 · obtain rfl:k=l.length:=by omega
   (conv=>whnf);repeat' ((first| intro g| refine st ?_| (first| refine b1 ?_ ?_| refine b2 ?_ ?_| refine Br.mk ?_ ?_) <;>intro hc| exact rfl) <;>conv=>whnf)
   simp[aak]
end Go.AM
set_option maxRecDepth 20000
namespace Go.AM
noncomputable def aaO (es:List Edge) (a b:Int):Nat→Int
 | 0=>0
 | i+1=>match es[i]? with
   | some e=>if b9 a b e=true then EE (aaO es a b i+aal e.line) else aaO es a b i
   | none=>aaO es a b i
noncomputable def brd (es:List Edge) (a b:Int):Int:=aaO es a b es.length
theorem abt {es:List Edge} {a b:Int} {i:Nat} {e:Edge} (h:es[i]? =some e) (ht:b9 a b e=true):aaO es a b (i+1)=EE (aaO es a b i+aal e.line):=by
 simp only[aaO,h,if_pos ht]
theorem abB {es:List Edge} {a b:Int} {i:Nat} {e:Edge} (h:es[i]? =some e) (ht:b9 a b e=false):aaO es a b (i+1)=aaO es a b i:=by
 simp only[aaO,h,ht];rfl
def ab3 (es:List Edge):Prop:=es.length< 1000000∧ ∀e ∈ es,e.line.length< 1000000
theorem abu {a b:Int} {e:Edge} (ht:b9 a b e=false): ¬ (e.left=a∧e.right=b∨e.left=b∧e.right=a):=by simpa [b9] using ht
set_option maxHeartbeats 4000000 in
theorem acO {L:List V} {e:Edge} {i n g:Nat} {a b s:Int} {c1 c2 c3:V} {Q:aW→SS→Prop} (he:L[i]? =some e.v) (hn:L.length=n) (hi:i<n) (hb:n< 1000000) (ht:b9 a b e=false)
   (hQ: ∀T' O',SS.Sub ⟨[(1,vi a),(2,vi b),(3,.ptr 64 g 0 0),(7,vi s),(8,aF (i+1))],[(64,⟨g,4,false,false,some [.agg [.lit 4 L,c1,c2,c3]]⟩)]⟩ ⟨T',O'⟩→Q .normal ⟨T',O'⟩):
   gY E abc ⟨[(1,vi a),(2,vi b),(3,.ptr 64 g 0 0),(7,vi s),(8,aF i)],[(64,⟨g,4,false,false,some [.agg [.lit 4 L,c1,c2,c3]]⟩)]⟩ Q:=by
 have ky:=abu ht
 clear ht
 by_cases h1:e.left=a
 · have h2: ¬e.right=b:=fun h=>ky (.inl ⟨h1,h⟩)
   by_cases h3:e.left=b
   · have h4: ¬e.right=a:=fun h=>ky (.inr ⟨h3,h⟩)
     clear ky
     (conv=>whnf);repeat' ((first| intro g| refine aH.mk _ (he) ?_| refine st ?_| (first| refine b1 ?_ ?_| refine b2 ?_ ?_| refine Br.mk ?_ ?_) <;>intro hc| exact rfl) <;>conv=>whnf)
     exact hQ _ _ (by(refine⟨?_,?_⟩ <;>repeat' (first| exact True.intro| refine ai ?_| refine And.intro ?_ ?_)))
   · clear ky
     (conv=>whnf);repeat' ((first| intro g| refine aH.mk _ (he) ?_| refine st ?_| (first| refine b1 ?_ ?_| refine b2 ?_ ?_| refine Br.mk ?_ ?_) <;>intro hc| exact rfl) <;>conv=>whnf)
     exact hQ _ _ (by(refine⟨?_,?_⟩ <;>repeat' (first| exact True.intro| refine ai ?_| refine And.intro ?_ ?_)))
 · by_cases h3:e.left=b
   · have h4: ¬e.right=a:=fun h=>ky (.inr ⟨h3,h⟩)
     clear ky
     (conv=>whnf);repeat' ((first| intro g| refine aH.mk _ (he) ?_| refine st ?_| (first| refine b1 ?_ ?_| refine b2 ?_ ?_| refine Br.mk ?_ ?_) <;>intro hc| exact rfl) <;>conv=>whnf)
     exact hQ _ _ (by(refine⟨?_,?_⟩ <;>repeat' (first| exact True.intro| refine ai ?_| refine And.intro ?_ ?_)))
   · clear ky
     (conv=>whnf);repeat' ((first| intro g| refine aH.mk _ (he) ?_| refine st ?_| (first| refine b1 ?_ ?_| refine b2 ?_ ?_| refine Br.mk ?_ ?_) <;>intro hc| exact rfl) <;>conv=>whnf)
     exact hQ _ _ (by(refine⟨?_,?_⟩ <;>repeat' (first| exact True.intro| refine ai ?_| refine And.intro ?_ ?_)))
set_option maxHeartbeats 4000000 in
theorem acf {L:List V} {e:Edge} {i n g:Nat} {a b s:Int} {c1 c2 c3:V} {Q:aW→SS→Prop} (he:L[i]? =some e.v) (hn:L.length=n) (hi:i<n) (hb:n< 1000000) (ht:b9 a b e=true) (R1:Ev E 513 [iP e.line] ⟨vi (aal e.line),[]⟩)
  (hQ: ∀T' O',SS.Sub ⟨[(1,vi a),(2,vi b),(3,.ptr 64 g 0 0),(7,vi (EE (s+aal e.line))),(8,aF (i+1))],[(64,⟨g,4,false,false,some [.agg [.lit 4 L,c1,c2,c3]]⟩)]⟩ ⟨T',O'⟩→Q .normal ⟨T',O'⟩):
  gY E abc ⟨[(1,vi a),(2,vi b),(3,.ptr 64 g 0 0),(7,vi s),(8,aF i)],[(64,⟨g,4,false,false,some [.agg [.lit 4 L,c1,c2,c3]]⟩)]⟩ Q:=by
 rcases nY ht with⟨h1,h2⟩ | ⟨h1,h2,h3,h4⟩ | ⟨h1,h3,h4⟩
 all_goals
  clear ht
  (conv=>whnf);repeat' ((first| intro g| refine aH.mk _ (he) ?_| refine ag.mk _ (R1) ?_| refine st ?_| (first| refine b1 ?_ ?_| refine b2 ?_ ?_| refine Br.mk ?_ ?_) <;>intro hc| exact rfl) <;>conv=>whnf)
  exact hQ _ _ (by(refine⟨?_,?_⟩ <;>repeat' (first| exact True.intro| refine ai ?_| refine And.intro ?_ ?_)))
theorem abA {m:aG} (hl:ab3 m.an) (a b:Int):Ev E 509 [m.v,vi a,vi b] ⟨vi (brd m.an a b),[]⟩:=by
 refine Ev.bU adl (adm _) rfl ?_
 (conv=>whnf);repeat' ((first| intro g| refine st ?_| (first| refine b1 ?_ ?_| refine b2 ?_ ?_| refine Br.mk ?_ ?_) <;>intro hc| exact rfl) <;>conv=>whnf)
 refine ba.by (fun i:Nat=> ⟨[(1,vi a),(2,vi b),(3,.ptr 64 g 0 0),(7,vi (aaO m.an a b i)),(8,aF i)],[(64,⟨g,4,false,false,some [m.v]⟩)]⟩) (fun i=>i≤m.an.length) (fun i=>m.an.length - i) 0 (by(refine⟨?_,?_⟩ <;>repeat' (first| exact True.intro| refine ai ?_| refine And.intro ?_ ?_))) (by omega) ?_
 intro i hi
 try dsimp only at hi
 have U1:=hl.1
 by_cases bk:i<m.an.length
 · obtain⟨e,he⟩: ∃e,m.an[i]? =some e:=⟨_,aL bk⟩
   have C6: (m.an.map Edge.v)[i]? =some e.v:=by simp[he]
   have C7: (m.an.map Edge.v).length=m.an.length:=by simp
   cases ht:b9 a b e with
   | false=>
     have hn:=abB he ht
     refine acO C6 C7 bk U1 ht fun T' O' hs=>bc.mk (i+1) (by first| omega| (dsimp only;omega)) (by omega) ?_
     simp only[hn]
     exact hs
   | true=>
     have hn:=abt he ht
     have R1:=acd (hl.2 e (List.mem_of_getElem? he))
     refine acf C6 C7 bk U1 ht R1 fun T' O' hs=>bc.mk (i+1) (by first| omega| (dsimp only;omega)) (by omega) ?_
     simp only[hn]
     exact hs
 · obtain rfl:i=m.an.length:=by omega
   (conv=>whnf);repeat' ((first| intro g| refine st ?_| (first| refine b1 ?_ ?_| refine b2 ?_ ?_| refine Br.mk ?_ ?_) <;>intro hc| exact rfl) <;>conv=>whnf)
end Go.AM
set_option maxRecDepth 20000
namespace Go.AM
set_option maxHeartbeats 4000000 in
theorem acP {L:List V} {e:Edge} {i n:Nat} {a b s:Int} {p1 p9:V} {Q:aW→SS→Prop} (he:L[i]? =some e.v) (hn:L.length=n) (hi:i<n) (hb:n< 1000000) (ht:b9 a b e=false)
   (hQ: ∀T' O',SS.Sub ⟨[(0,vi b),(1,p1),(2,.eptr (vi a) 0),(5,vi s),(9,.lit 4 L),(10,aF n),(11,aF (i+1))],[]⟩ ⟨T',O'⟩→Q .normal ⟨T',O'⟩):
   gY E G7 ⟨[(0,vi b),(1,p1),(2,.eptr (vi a) 0),(5,vi s),(9,.lit 4 L),(10,aF n),(11,aF i)],[]⟩ Q:=by
 have ky:=abu ht
 clear ht
 by_cases h1:e.left=a
 · have h2: ¬e.right=b:=fun h=>ky (.inl ⟨h1,h⟩)
   by_cases h3:e.left=b
   · have h4: ¬e.right=a:=fun h=>ky (.inr ⟨h3,h⟩)
     clear ky
     (conv=>whnf);repeat' ((first| intro g| refine aH.mk _ (he) ?_| refine st ?_| (first| refine b1 ?_ ?_| refine b2 ?_ ?_| refine Br.mk ?_ ?_) <;>intro hc| exact rfl) <;>conv=>whnf)
     exact hQ _ _ (by(refine⟨?_,?_⟩ <;>repeat' (first| exact True.intro| refine ai ?_| refine And.intro ?_ ?_)))
   · clear ky
     (conv=>whnf);repeat' ((first| intro g| refine aH.mk _ (he) ?_| refine st ?_| (first| refine b1 ?_ ?_| refine b2 ?_ ?_| refine Br.mk ?_ ?_) <;>intro hc| exact rfl) <;>conv=>whnf)
     exact hQ _ _ (by(refine⟨?_,?_⟩ <;>repeat' (first| exact True.intro| refine ai ?_| refine And.intro ?_ ?_)))
 · by_cases h3:e.left=b
   · have h4: ¬e.right=a:=fun h=>ky (.inr ⟨h3,h⟩)
     clear ky
     (conv=>whnf);repeat' ((first| intro g| refine aH.mk _ (he) ?_| refine st ?_| (first| refine b1 ?_ ?_| refine b2 ?_ ?_| refine Br.mk ?_ ?_) <;>intro hc| exact rfl) <;>conv=>whnf)
     exact hQ _ _ (by(refine⟨?_,?_⟩ <;>repeat' (first| exact True.intro| refine ai ?_| refine And.intro ?_ ?_)))
   · clear ky
     (conv=>whnf);repeat' ((first| intro g| refine aH.mk _ (he) ?_| refine st ?_| (first| refine b1 ?_ ?_| refine b2 ?_ ?_| refine Br.mk ?_ ?_) <;>intro hc| exact rfl) <;>conv=>whnf)
     exact hQ _ _ (by(refine⟨?_,?_⟩ <;>repeat' (first| exact True.intro| refine ai ?_| refine And.intro ?_ ?_)))
set_option maxHeartbeats 4000000 in
theorem acg {L:List V} {e:Edge} {i n:Nat} {a b s:Int} {p1:V} {Q:aW→SS→Prop} (he:L[i]? =some e.v) (hn:L.length=n) (hi:i<n) (hb:n< 1000000) (ht:b9 a b e=true) (R1:Ev E 496 [iP e.line] ⟨vi (aal e.line),[]⟩)
  (hQ: ∀T' O',SS.Sub ⟨[(0,vi b),(1,p1),(2,.eptr (vi a) 0),(5,vi (EE (s+aal e.line))),(9,.lit 4 L),(10,aF n),(11,aF (i+1))],[]⟩ ⟨T',O'⟩→Q .normal ⟨T',O'⟩):
  gY E G7 ⟨[(0,vi b),(1,p1),(2,.eptr (vi a) 0),(5,vi s),(9,.lit 4 L),(10,aF n),(11,aF i)],[]⟩ Q:=by
 rcases nY ht with⟨h1,h2⟩ | ⟨h1,h2,h3,h4⟩ | ⟨h1,h3,h4⟩
 all_goals
  clear ht
  (conv=>whnf);repeat' ((first| intro g| refine aH.mk _ (he) ?_| refine ag.mk _ (R1) ?_| refine st ?_| (first| refine b1 ?_ ?_| refine b2 ?_ ?_| refine Br.mk ?_ ?_) <;>intro hc| exact rfl) <;>conv=>whnf)
  exact hQ _ _ (by(refine⟨?_,?_⟩ <;>repeat' (first| exact True.intro| refine ai ?_| refine And.intro ?_ ?_)))
theorem acQ {m:aG} (hl:ab3 m.an) (a b:Int):Ev E 507 [vi b,.eptr m.v 0,.eptr (vi a) 0] ⟨vi (brd m.an a b),[]⟩:=by
 refine Ev.bU adh (adi _) rfl ?_
 (conv=>whnf);repeat' ((first| intro g| refine st ?_| (first| refine b1 ?_ ?_| refine b2 ?_ ?_| refine Br.mk ?_ ?_) <;>intro hc| exact rfl) <;>conv=>whnf)
 refine ba.by (fun i:Nat=> ⟨[(0,vi b),(1,.eptr m.v 0),(2,.eptr (vi a) 0),(5,vi (aaO m.an a b i)),(9,.lit 4 (m.an.map Edge.v)),(10,aF m.an.length),(11,aF i)],[]⟩) (fun i=>i≤m.an.length) (fun i=>m.an.length - i) 0 ?_ (by omega) ?_
 · (refine⟨?_,?_⟩ <;>repeat' (first| exact True.intro| refine And.intro ((by(conv=>whnf);simp[aaO])) ?_| refine ai ?_| refine And.intro ?_ ?_))
 intro i hi
 try dsimp only at hi
 have U1:=hl.1
 by_cases bk:i<m.an.length
 · obtain⟨e,he⟩: ∃e,m.an[i]? =some e:=⟨_,aL bk⟩
   have C6: (m.an.map Edge.v)[i]? =some e.v:=by simp[he]
   have C7: (m.an.map Edge.v).length=m.an.length:=by simp
   cases ht:b9 a b e with
   | false=>
     have hn:=abB he ht
     refine acP (p9:= .nils) C6 C7 bk U1 ht fun T' O' hs=>bc.mk (i+1) (by first| omega| (dsimp only;omega)) (by omega) ?_
     simp only[hn]
     exact hs
   | true=>
     have hn:=abt he ht
     have R1:=acL (hl.2 e (List.mem_of_getElem? he))
     refine acg C6 C7 bk U1 ht R1 fun T' O' hs=>bc.mk (i+1) (by first| omega| (dsimp only;omega)) (by omega) ?_
     simp only[hn]
     exact hs
 · obtain rfl:i=m.an.length:=by omega
   (conv=>whnf);repeat' ((first| intro g| refine st ?_| (first| refine b1 ?_ ?_| refine b2 ?_ ?_| refine Br.mk ?_ ?_) <;>intro hc| exact rfl) <;>conv=>whnf)
theorem acI {m:aG} (hl:ab3 m.an) (a:Int):aab 507 [.eptr m.v 0,.eptr (vi a) 0] fun b=>vi (brd m.an a b):=
 ⟨by have h0:V.aE m.v=true:=aG.ug false m
     simp only[V.aq,V.aE,h0];rfl,rfl,fun b=>acQ hl a b⟩
def aaw (m:aG):V:= .mlit (b5 false m.ah m.ah.length)
theorem ach {m:aG} (hs:EP m) (a b:Int):Ev E 506 [vi b,.eptr m.v 0,.eptr (aaw m) 0,.eptr (vi a) 0] ⟨.bool (decide (jX m a b≠0)),[]⟩:=by
 have hc:=ER false hs a b
 have hm:gv E 501=[]:=rfl
 have hp:V.aq [m.v,aaw m,vi a,vi b]=true:=by
  have h0:V.aE m.v=true:=aG.ug false m
  have h1:V.aE (aaw m)=true:=tq ..
  simp only[V.aq,h0,h1];rfl
 refine Ev.bU adf (adg _) rfl ?_
 (conv=>whnf);repeat' ((first| refine tg hm hp hc rfl ?_| intro g| refine st ?_| (first| refine b1 ?_ ?_| refine b2 ?_ ?_| refine Br.mk ?_ ?_) <;>intro hc| exact rfl) <;>conv=>whnf)
 all_goals simp
theorem acH {m:aG} (hs:EP m) (a:Int):aab 506 [.eptr m.v 0,.eptr (aaw m) 0,.eptr (vi a) 0] fun b=> .bool (decide (jX m a b≠0)):=
 ⟨by have h0:V.aE m.v=true:=aG.ug false m
     have h1:V.aE (aaw m)=true:=tq ..
     simp only[V.aq,V.aE,h0,h1];rfl,rfl,fun b=>ach hs a b⟩
def aat (m:aG) (a:Int):Int:=match findF m.ah a with
 | none=>0
 | some i=>match m.ah[i]? with
   | some f=>EE (4*f.weight)
   | none=>0
theorem aci {m:aG} (hs:EP m) (a b:Int):Ev E 489 [m.v,vi a,vi b] ⟨vi (aat m a),[]⟩:=by
 have hk:=yt false hs.2
 have hm:gv E 500=[]:=rfl
 have hp:V.aq [m.v]=true:=by
   have h0:V.aE m.v=true:=aG.ug false m
   simp only[V.aq,h0];rfl
 refine Ev.bU acZ (ac0 _) rfl ?_
 cases h:findF m.ah a with
 | none=>
   have e:aat m a=0:=by simp only[aat,h]
   rw[e]
   (conv=>whnf);repeat' ((first| refine tg hm hp hk (tq ..) ?_| intro g| refine aH.mk _ (kc h) ?_| refine st ?_| (first| refine b1 ?_ ?_| refine b2 ?_ ?_| refine Br.mk ?_ ?_) <;>intro hc| exact rfl) <;>conv=>whnf)
 | some i=>
   obtain⟨f,hf,_⟩:=cu h
   have e:aat m a=EE (4*f.weight):=by simp only[aat,h,hf]
   rw[e]
   have hfv: (m.ah.map ar.v)[i]? =some f.v:=by simp[hf]
   (conv=>whnf);repeat' ((first| refine tg hm hp hk (tq ..) ?_| intro g| refine aH.mk _ (bO h hf) ?_| refine aH.mk _ (hfv) ?_| refine st ?_| (first| refine b1 ?_ ?_| refine b2 ?_ ?_| refine Br.mk ?_ ?_) <;>intro hc| exact rfl) <;>conv=>whnf)
theorem abl {m:aG} (hs:EP m) (a b:Int):Ev E 490 [m.v,vi a,vi b] ⟨vi (aat m a),[]⟩:=by
 have hm:gv E 503=[]:=rfl
 have hp:V.aq [m.v,vi a]=true:=by
   have h0:V.aE m.v=true:=aG.ug false m
   simp only[V.aq,h0];rfl
 refine Ev.bU ac1 (ac2 _) rfl ?_
 cases h:findF m.ah a with
 | none=>
   have hk:=nV hs.2 h
   have e:aat m a=0:=by simp only[aat,h]
   rw[e]
   (conv=>whnf);repeat' ((first| refine tg hm hp hk rfl ?_| intro g| refine st ?_| (first| refine b1 ?_ ?_| refine b2 ?_ ?_| refine Br.mk ?_ ?_) <;>intro hc| exact rfl) <;>conv=>whnf)
 | some i=>
   obtain⟨f,hf,_⟩:=cu h
   have hk:=cj hs.2 h hf
   have e:aat m a=EE (4*f.weight):=by simp only[aat,h,hf]
   rw[e]
   (conv=>whnf);repeat' ((first| refine tg hm hp hk rfl ?_| intro g| refine st ?_| (first| refine b1 ?_ ?_| refine b2 ?_ ?_| refine Br.mk ?_ ?_) <;>intro hc| exact rfl) <;>conv=>whnf)
end Go.AM
