/-
  Texts of the proof: PRul, PRulD, PRuA, PRuB.
-/
import Derived.Test.YtjmcpijpclfakaaGreatVa
import Derived.Test.YtjmcpijpclfakaaGreatKa
import Derived.Test.YtjmcpijpclfakaaGreatPa
set_option maxRecDepth 20000
set_option maxHeartbeats 4000000
set_option linter.unusedSimpArgs false
set_option linter.unusedVariables false
namespace Go.AM
structure aP where
 name:dE
 prio:Int
 w:Ex
 c:Ex
 d:Ex
 s:Ex
def mP (s:dE):Bool:=
 match s with
 | []=>false
 | a::l=>decide ((a::l).length≤24) && !(a==32) && !((a::l).getLastD 0==32) && (a::l).all fun b=> !(decide (b< 32) || decide (126 <b) || b==34)
def Ex.want (e:Ex) (t:Int):Int:=if e.err=0 then(if e.ty=t then 0 else 30) else e.err
def aP.R7 (r:aP):Int:=
 if r.w.want 2=0 then(if r.c.want 1=0 then(if r.d.want 1=0 then r.s.want 1 else r.d.want 1) else r.c.want 1) else r.w.want 2
def aP.err (r:aP) (before:List aP):Int:=
 if mP r.name=false then 15 else if before.any (fun q=>decide (q.name=r.name))=true then 6 else if r.prio< 0∨1000 <r.prio then 3 else r.R7
def jl (before:List aP):List aP→Int
 | []=>0
 | r::l=>if r.err before=0 then jl (before++[r]) l else r.err before
def gu (l:List aP):Int:=if 40 <l.length then 2 else jl [] l
def aP.cT (K:Int→Bd) (r:aP):aP:=⟨r.name,r.prio,r.w.cT K,r.c.cT K,r.d.cT K,r.s.cT K⟩
def aP.may (K:Int→Bd) (r:aP):Bool:=decide ((r.w.bd K).hi=1)
def fe (K:Int→Bd) (l:List aP):List aP:=(l.filter (aP.may K)).map (aP.cT K)
theorem ae3 {b:Bd} (h:BN 2 b):0≤b.lo∧b.lo≤b.hi∧b.hi≤1:=by
 obtain⟨l,h',rfl,h1,h2,h3⟩:=h.two
 exact⟨h1,h2,h3⟩
structure aP.Ok (r:aP):Prop where
 name:mP r.name=true
 lo:0≤r.prio
 hi:r.prio≤1000
 w:r.w.size≤60∧r.w.b4=2
 c:r.c.size≤60∧r.c.b4=1
 d:r.d.size≤60∧r.d.b4=1
 s:r.s.size≤60∧r.s.b4=1
theorem uT (e:Ex) {t:Int} (ht:t≠0):e.want t=0↔e.size≤60∧e.b4=t:=by
 unfold Ex.want Ex.err Ex.ty
 by_cases h:60 <e.size
 · simp only[h,if_true];constructor
   · intro k;simp at k
   · intro k;omega
 · simp only[h,if_false]
   by_cases h2:e.b4=0
   · simp only[h2,if_true];constructor
     · intro k;simp at k
     · intro k;exact absurd k.2.symm ht
   · simp only[h2,if_false,if_true]
     by_cases h3:e.b4=t
     · simp only[h3,if_true,true_iff];exact⟨by omega,trivial⟩
     · simp only[h3,if_false];constructor
       · intro k;exact absurd k (by decide)
       · intro k;exact k.2.elim
theorem Ic (r:aP):r.R7=0↔r.w.want 2=0∧r.c.want 1=0∧r.d.want 1=0∧r.s.want 1=0:=by
 unfold aP.R7
 by_cases h1:r.w.want 2=0 <;>by_cases h2:r.c.want 1=0 <;>by_cases h3:r.d.want 1=0 <;>simp[h1,h2,h3]
theorem Ie (r:aP) (before:List aP):r.err before=0↔r.Ok∧ ∀q ∈ before,q.name≠r.name:=by
 unfold aP.err
 by_cases h1:mP r.name=false
 · rw[if_pos h1];constructor
   · intro k;exact absurd k (by decide)
   · intro k;rw[k.1.name] at h1;exact absurd h1 (by decide)
 · rw[ if_neg h1]
   by_cases h2:before.any (fun q=>decide (q.name=r.name))=true
   · rw[if_pos h2];constructor
     · intro k;exact absurd k (by decide)
     · intro k
       obtain⟨q,hq,e⟩:=List.any_eq_true.1 h2
       exact absurd (of_decide_eq_true e) (k.2 q hq)
   · rw[ if_neg h2]
     by_cases h3:r.prio< 0∨1000 <r.prio
     · rw[if_pos h3];constructor
       · intro k;exact absurd k (by decide)
       · intro k;have:=k.1.lo;have:=k.1.hi;omega
     · rw[if_neg h3,Ic,uT _ (by decide),uT _ (by decide),uT _ (by decide),uT _ (by decide)]
       constructor
       · intro k
         refine⟨⟨by simpa using h1,by omega,by omega,k.1,k.2.1,k.2.2.1,k.2.2.2⟩,fun q hq e=>h2 ?_⟩
         exact List.any_eq_true.2 ⟨q,hq,decide_eq_true e⟩
       · intro k;exact⟨k.1.w,k.1.c,k.1.d,k.1.s⟩
theorem xe: ∀ (l before:List aP),jl before l=0↔(∀r ∈ l,r.Ok)∧(∀r ∈ l,∀q ∈ before,q.name≠r.name)∧l.Pairwise fun q r=>q.name≠r.name
 | [],before=>by simp[jl]
 | r::l,before=>by
   rw[jl]
   by_cases h:r.err before=0
   · rw[ if_pos h,xe l]
     have h':=(Ie _ _).1 h
     constructor
     · intro⟨k1,k2,k3⟩
       refine⟨fun x hx=> ?_,fun x hx q hq=> ?_,List.pairwise_cons.2 ⟨fun x hx=> ?_,k3⟩⟩
       · rcases List.mem_cons.1 hx with rfl| hx
         · exact h'.1
         · exact k1 x hx
       · rcases List.mem_cons.1 hx with rfl| hx
         · exact h'.2 q hq
         · exact k2 x hx q (List.mem_append_left _ hq)
       · exact k2 x hx r (List.mem_append_right _ (List.mem_singleton.2 rfl))
     · intro⟨k1,k2,k3⟩
       have k4:=List.pairwise_cons.1 k3
       refine⟨fun x hx=>k1 x (List.mem_cons_of_mem _ hx),fun x hx q hq=> ?_,k4.2⟩
       rcases List.mem_append.1 hq with hq| hq
       · exact k2 x (List.mem_cons_of_mem _ hx) q hq
       · rw[List.mem_singleton.1 hq];exact k4.1 x hx
   · rw[if_neg h]
     constructor
     · intro k;exact absurd k h
     · intro⟨k1,k2,k3⟩
       exact absurd ((Ie _ _).2 ⟨k1 r (List.mem_cons_self ..),k2 r (List.mem_cons_self ..)⟩) h
structure aiZ (l:List aP):Prop where
 len:l.length≤40
 ok: ∀r ∈ l,r.Ok
 apart:l.Pairwise fun q r=>q.name≠r.name
theorem oB (l:List aP):gu l=0↔aiZ l:=by
 unfold gu
 by_cases h:40 <l.length
 · rw[if_pos h];constructor
   · intro k;exact absurd k (by decide)
   · intro k;have:=k.len;omega
 · rw[if_neg h,xe]
   exact⟨fun k=> ⟨by omega,k.1,k.2.2⟩,fun k=> ⟨k.ok,fun _ _ q hq=> (List.not_mem_nil hq).elim,k.apart⟩⟩
section
variable {K:Int→Bd} (hK: ∀v,cI v≠0→BN (cI v) (K v))
include hK
theorem aP.Ok.cT {r:aP} (h:r.Ok): (r.cT K).Ok:=by
 have f: ∀ {e:Ex} {t:Int},t≠0→e.size≤60∧e.b4=t→(e.cT K).size≤60∧(e.cT K).b4=t:=fun {e t} ht he=>
  ⟨Nat.le_trans (yU K e) he.1,(CX hK e.size e (Nat.le_refl _) (by rw[he.2];exact ht)).b4.trans he.2⟩
 exact⟨h.name,h.lo,h.hi,f (by decide) h.w,f (by decide) h.c,f (by decide) h.d,f (by decide) h.s⟩
theorem aiZ.cT {l:List aP} (h:aiZ l):aiZ (fe K l):=by
 refine⟨?_,fun r hr=> ?_,?_⟩
 · unfold fe
   rw[List.length_map]
   exact Nat.le_trans (List.length_filter_le _ _) h.len
 · obtain⟨q,hq,rfl⟩:=List.mem_map.1 hr
   exact(h.ok q (List.mem_filter.1 hq).1).cT hK
 · unfold fe
   rw[List.pairwise_map]
   exact h.apart.filter _
theorem MW {r:aP} (h:r.Ok): (r.w.bd K).hi=0∨(r.w.bd K).hi=1:=by
 have k:=Ig hK r.w.size r.w (Nat.le_refl _) (by rw[h.w.2];decide)
 rw[h.w.2] at k
 have:=ae3 k
 omega
end
def aP.holds (x:b5) (r:aP):Bool:=(r.w.eval x).b
def gb (a:List aP) (r:aP):List aP:=
 match a with
 | []=> [r]
 | h::t=>if r.prio<h.prio then h::t else if r.prio=h.prio then h::t++[r] else [r]
def counts (x:b5) (l:List aP):List aP:=(l.filter (aP.holds x)).foldl gb []
def qq (x:b5) (e:Ex) (agr:Int):Int:=cH (imax (e.eval x).n 0) agr
structure Lk where
 c:Int
 d:Int
 s:Int
 name:dE
 err:Int
def zP (x:b5):List aP→Lk
 | []=> ⟨0,0,0,[],0⟩
 | [r]=> ⟨qq x r.c 255,qq x r.d 16,qq x r.s 8,r.name,0⟩
 | r::q::_=> ⟨0,0,0,r.name++47::q.name,31⟩
theorem BD (K:Int→Bd): ∀ (l a:List aP),(l.map (aP.cT K)).foldl gb (a.map (aP.cT K))=(l.foldl gb a).map (aP.cT K)
 | [],a=>rfl
 | r::l,a=>by
   rw[List.map_cons,List.foldl_cons,List.foldl_cons,←BD K l]
   congr 1
   cases a with
   | nil=>rfl
   | cons h t=>
     show (if r.prio<h.prio then _ else if r.prio=h.prio then _ else _)=_
     unfold gb
     by_cases h1:r.prio<h.prio
     · simp only[h1,if_true];rfl
     · by_cases h2:r.prio=h.prio
       · rw[if_neg h1,if_pos h2];simp[h1,h2]
       · rw[if_neg h1,if_neg h2];simp[h1,h2]
theorem zQ ( x:b5) (l:List aP): ∀r ∈ counts x l,r ∈ l:=by
 have key: ∀ (l a:List aP),∀r ∈ l.foldl gb a,r ∈ a∨r ∈ l:=by
  intro l
  induction l with
  | nil=>intro a r hr;exact .inl hr
  | cons q l ih=>
    intro a r hr
    rcases ih _ r hr with h| h
    · cases a with
      | nil=>exact .inr (List.mem_cons.2 (.inl (List.mem_singleton.1 h)))
      | cons y t=>
        simp only[gb] at h
        split at h
        · exact .inl h
        · split at h
          · rcases List.mem_append.1 h with h| h
            · exact .inl h
            · exact .inr (List.mem_cons.2 (.inl (List.mem_singleton.1 h)))
          · exact .inr (List.mem_cons.2 (.inl (List.mem_singleton.1 h)))
    · exact .inr (List.mem_cons_of_mem _ h)
 intro r hr
 rcases key _ _ r hr with h| h
 · exact(List.not_mem_nil h).elim
 · exact(List.mem_filter.1 h).1
section
variable {K:Int→Bd} (hK: ∀v,cI v≠0→BN (cI v) (K v)) {x:b5} (hI: ∀v,cI v≠0→o9 (cI v) (K v) (x.val v))
include hK hI
theorem BE {r:aP} (h:r.Ok): (r.cT K).holds x=r.holds x:=by
 unfold aP.holds aP.cT
 rw[(CX hK r.w.size r.w (Nat.le_refl _) (by rw[h.w.2];decide)).val x hI]
theorem J2 {r:aP} (h:r.Ok) (hm:aP.may K r=false):r.holds x=false:=by
 have h0: (r.w.bd K).hi=0:=(MW hK h).resolve_right (of_decide_eq_false hm)
 have k:=xW hK hI r.w.size r.w (Nat.le_refl _) (by rw[h.w.2];decide)
 rw[h.w.2] at k
 unfold aP.holds
 rw[Ih k h0]
theorem zR: ∀ {l:List aP},(∀r ∈ l,r.Ok)→(fe K l).filter (aP.holds x)=(l.filter (aP.holds x)).map (aP.cT K)
 | [],_=>rfl
 | r::l,h=>by
   have ih:=zR (l:=l) fun q hq=>h q (List.mem_cons_of_mem _ hq)
   have hr:=h r (List.mem_cons_self ..)
   unfold fe at ih ⊢
   cases hm:aP.may K r with
   | false=>
     rw[List.filter_cons_of_neg (by rw[hm];decide),List.filter_cons_of_neg (by rw[J2 hK hI hr hm];decide),ih]
   | true=>
     rw[List.filter_cons_of_pos hm,List.map_cons]
     cases hh:r.holds x with
     | false=>rw[List.filter_cons_of_neg (by rw[BE hK hI hr,hh];decide),List.filter_cons_of_neg (by rw[hh];decide),ih]
     | true=>rw[List.filter_cons_of_pos (by rw[BE hK hI hr,hh]),List.filter_cons_of_pos hh,List.map_cons,ih]
theorem MX {l:List aP} (h:aiZ l):zP x (counts x (fe K l))=zP x (counts x l):=by
 have e:counts x (fe K l)=(counts x l).map (aP.cT K):=by
   unfold counts
   rw[zR hK hI h.ok]
   exact BD K _ []
 have hm:=zQ x l
 rw[e]
 match counts x l,hm with
 | [],_=>rfl
 | [r],hm=>
   have hr:=h.ok r (hm r (List.mem_cons_self ..))
   have f: ∀ {e:Ex} (n:Int),e.b4=1→qq x (e.cT K) n=qq x e n:=fun {e} n he=>by
     unfold qq
     rw[(CX hK e.size e (Nat.le_refl _) (by rw[he];decide)).val x hI]
   show Lk.mk _ _ _ _ _=Lk.mk _ _ _ _ _
   simp only[aP.cT]
   rw[f 255 hr.c.2,f 16 hr.d.2,f 8 hr.s.2]
 | r::q::t,_=>rfl
end
end Go.AM
namespace Go.AM
def Ex.po:Ex→Int| .mk a _ _ _ _=>a
def Ex.pv:Ex→Int| .mk _ a _ _ _=>a
def Ex.pt:Ex→Int| .mk _ _ a _ _=>a.t
def Ex.pn:Ex→Int| .mk _ _ a _ _=>a.n
def Ex.pb:Ex→Bool| .mk _ _ a _ _=>a.b
def Ex.ps:Ex→dE| .mk _ _ a _ _=>a.s
def Ex.pl:Ex→V| .mk _ _ _ nl l=>lv nl (l.map Ex.v)
theorem Ex.vp (e:Ex):e.v= .agg [vi e.po,vi e.pv,vi e.pt,vi e.pn,.bool e.pb,.str e.ps,e.pl]:=by
 cases e
 exact Ex.bN ..
theorem Ex.P9 (e:Ex):V.aj e.pl=true:=by
 have h:=e.pure
 rw[e.vp] at h
 simpa [V.aj,V.ae] using h
theorem Ex.Qa (e:Ex):V.aV e.pl=true:=by
 obtain⟨op,var,val,nl,l⟩:=e
 show V.aV (lv nl (l.map Ex.v))=true
 rcases s9 nl (l.map Ex.v) with h| h
 · rw[h.1];rfl
 · rw[h];rfl
theorem Ex.qX (e:Ex):V.aj (.agg [vi e.po,vi e.pv,vi e.pt,vi e.pn,.bool e.pb,.str e.ps,e.pl])=true:=by
 rw[←e.vp];exact e.pure
def aP.v (r:aP):V:= .agg [.str r.name,vi r.prio,
 vi r.w.po,vi r.w.pv,vi r.w.pt,vi r.w.pn,.bool r.w.pb,.str r.w.ps,r.w.pl,
 vi r.c.po,vi r.c.pv,vi r.c.pt,vi r.c.pn,.bool r.c.pb,.str r.c.ps,r.c.pl,
 vi r.d.po,vi r.d.pv,vi r.d.pt,vi r.d.pn,.bool r.d.pb,.str r.d.ps,r.d.pl,
 vi r.s.po,vi r.s.pv,vi r.s.pt,vi r.s.pn,.bool r.s.pb,.str r.s.ps,r.s.pl]
theorem aP.pure (r:aP):V.aj r.v=true:=by
 simp only[aP.v,V.aj,V.ae,Ex.P9];rfl
theorem aP.bq (l:List aP):V.ae (l.map aP.v)=true:=AM.bq aP.pure l
structure aP.Fit (r:aP):Prop where
 name:r.name.length< 1000000
 w:r.w.size< 1000000∧r.w.Fit
 c:r.c.size< 1000000∧r.c.Fit
 d:r.d.size< 1000000∧r.d.Fit
 s:r.s.size< 1000000∧r.s.Fit
def aP.ex (r:aP):List Ex:=[r.w,r.c,r.d,r.s]
end Go.AM
namespace Go.AM
def uU (b:UInt8):Bool:=decide (b< 32) || decide (126 <b) || b==34
def Kl (b:UInt8):V:= .int .u8 b.toNat
theorem EZ {l:List (UInt8)} {sv:V} (hs:td 1 (l.map Kl) sv) {g:Nat} {caps:List V} (hc:V.ae caps=true) {p:UInt8→Bool} (hlen:l.length< 4611686018427387904)
   (hp: ∀x ∈ l,Ev E g (Kl x::caps) ⟨.bool (p x),[]⟩) (hm:aD E g=[]):Ev E 279 [sv,.fn g caps] ⟨vi (firstIdx p l),[]⟩:=by
 have gO: ∀x,(Kl x).aj=true:=(fun _=>rfl)
 have kI:=AM.bq gO l
 rcases hs with rfl| ⟨h0,rfl⟩
 · refine Ev.aG Rx (Ry _) rfl ?_
   (conv=>whnf);repeat' ((first| intro g| refine bU.mk (by simp[V.ae,V.aj,hc,kI]) ?_| refine st ?_| (first| refine b1 ?_ ?_| refine b2 ?_ ?_| refine Br.mk ?_ ?_) <;>intro hc| exact rfl) <;>conv=>whnf)
   refine bj.by (fun i:Nat=> ⟨[(0,.lit 1 (l.map Kl)),(1,.fn g caps),(7,aO (l.map Kl).length),(8,aO i)],[]⟩) (fun i=>i≤l.length∧ ∀ (j:Nat) y,j<i→l[j]? =some y→p y=false) (fun i=>l.length - i) 0 ?_ ?_ ?_
   · (refine⟨?_,?_⟩ <;>repeat' (first| exact True.intro| refine ai ?_| refine And.intro ?_ ?_))
   · simp
   rintro i ⟨hi,eP⟩
   have eb:=hc
   by_cases bY:i<l.length
   · have hx:l[i]? =some l[i]:=bp bY
     have gX:=hp l[i] (List.getElem_mem bY)
     have xl:=gO l[i]
     generalize l[i]=x at hx gX xl
     have hv:Kl x=V.int .u8 x.toNat:=rfl
     (conv=>whnf);repeat' ((first| intro g| refine bD.mk _ (aA hx hv rfl) ?_| refine aq (by assumption) (by first| assumption| rfl| (simp only[V.ae,V.aj,Bool.and_self,Bool.true_and,Bool.and_true, *])) (gX) rfl ?_| refine st ?_| (first| refine b1 ?_ ?_| refine b2 ?_ ?_| refine Br.mk ?_ ?_) <;>intro hc| exact rfl) <;>conv=>whnf)
     · rw[ec eP hx hc]
     · refine bk.mk (i+1) (by first| omega| (dsimp only;omega)) ?_ (by(refine⟨?_,?_⟩ <;>repeat' (first| exact True.intro| refine ai ?_| refine And.intro ?_ ?_)))
       refine⟨by omega,fun j y hj hy=> ?_⟩
       by_cases e:j=i
       · subst e
         rw[hx] at hy
         injection hy with hy;subst hy;exact hc
       · exact eP j y (by omega) hy
   · (conv=>whnf);repeat' ((first| intro g| refine st ?_| (first| refine b1 ?_ ?_| refine b2 ?_ ?_| refine Br.mk ?_ ?_) <;>intro hc| exact rfl) <;>conv=>whnf)
     rw[firstIdx_none fun j y hy=>eP j y (by have:=(List.getElem?_eq_some_iff.1 hy).1;omega) hy]
 · have:l=[]:=by simpa using h0
   subst this
   refine Ev.aG Rx (Ry _) rfl ?_
   (conv=>whnf);repeat' ((first| intro g| refine bU.mk (by simp[V.ae,V.aj,hc]) ?_| refine st ?_| (first| refine b1 ?_ ?_| refine b2 ?_ ?_| refine Br.mk ?_ ?_) <;>intro hc| exact rfl) <;>conv=>whnf)
   refine bj.by (fun i:Nat=> ⟨[(0,.nils),(1,.fn g caps),(7,aO 0),(8,aO i)],[]⟩) (fun i=>i=0) (fun i=>0) 0 ?_ rfl ?_
   · (refine⟨?_,?_⟩ <;>repeat' (first| exact True.intro| refine ai ?_| refine And.intro ?_ ?_))
   rintro i rfl
   (conv=>whnf);repeat' ((first| intro g| refine st ?_| (first| refine b1 ?_ ?_| refine b2 ?_ ?_| refine Br.mk ?_ ?_) <;>intro hc| exact rfl) <;>conv=>whnf)
theorem GK {l:List (UInt8)} {sv:V} (hs:td 1 (l.map Kl) sv) {g:Nat} {caps:List V} (hc:V.ae caps=true) {p:UInt8→Bool} (hlen:l.length< 4611686018427387904)
  (hp: ∀x ∈ l,Ev E g (Kl x::caps) ⟨.bool (p x),[]⟩) (hm:aD E g=[]):Ev E 257 [sv,.fn g caps] ⟨.bool (l.any p),[]⟩:=by
 have h:=EZ hs hc hlen hp hm
 have gO: ∀x,(Kl x).aj=true:=(fun _=>rfl)
 have kI:=AM.bq gO l
 have cm:aD E 279=[]:=rfl
 have se:V.aj sv=true:=hs.pure (AM.bq gO l)
 have hf:l.any p=decide (0≤firstIdx p l):=fJ p l
 rw[hf]
 refine Ev.aG abL (abM _) rfl ?_
 rcases hs with rfl| ⟨h0,rfl⟩
 all_goals
  (conv=>whnf);repeat' ((first| intro g| refine bU.mk (by simp[V.ae,V.aj,hc,se]) ?_| refine st ?_| (first| refine b1 ?_ ?_| refine b2 ?_ ?_| refine Br.mk ?_ ?_) <;>intro hc| exact rfl) <;>conv=>whnf)
  refine aq cm (by simp[V.ae,V.aj,hc,kI]) h rfl ?_
  (conv=>whnf);repeat' ((first| intro g| refine st ?_| (first| refine b1 ?_ ?_| refine b2 ?_ ?_| refine Br.mk ?_ ?_) <;>intro hc| exact rfl) <;>conv=>whnf)
theorem zS {s:dE} {i:Nat} {n:Int} {x:UInt8} (h:s[i]? =some x) (hn:n=(i:Int)):s[n.toNat]? =some x:=by
 subst hn;simpa using h
theorem X2 (b:UInt8): (b< 32)↔((b.toNat:Nat):Int) < 32:=by
 rw[UInt8.lt_iff_toNat_lt];exact Int.ofNat_lt.symm
theorem X3 (b:UInt8): (126 <b)↔126 < ((b.toNat:Nat):Int):=by
 rw[UInt8.lt_iff_toNat_lt];exact Int.ofNat_lt.symm
theorem MY (b c:UInt8): (b=c)↔((b.toNat:Nat):Int)=((c.toNat:Nat):Int):=by
 rw[←UInt8.toNat_inj];exact Int.ofNat_inj.symm
theorem Ii (b:UInt8):uU b=(decide (((b.toNat:Nat):Int) < 32) || decide (126 < ((b.toNat:Nat):Int)) || decide (((b.toNat:Nat):Int)=34)):=by
 unfold uU
 rw[decide_eq_decide.2 (X2 b),decide_eq_decide.2 (X3 b)]
 congr 1
 rw[Bool.eq_iff_iff,beq_iff_eq,decide_eq_true_eq]
 exact MY b 34
theorem X4 (b:UInt8):Ev E 258 [Kl b] ⟨.bool (uU b),[]⟩:=by
 rw[Ii]
 show Ev E 258 [.int .u8 b.toNat] _
 generalize ((b.toNat:Nat):Int)=n
 refine Ev.aG abN (abO _) rfl ?_
 (conv=>whnf);repeat' ((first| intro g| refine st ?_| (first| refine b1 ?_ ?_| refine b2 ?_ ?_| refine Br.mk ?_ ?_) <;>intro hc| exact rfl) <;>conv=>whnf)
 all_goals simp[*]
theorem xf (a:UInt8) (t:dE):mP (a::t)=(decide ((a::t).length≤24) && !decide (((a.toNat:Nat):Int)=32) && !decide (((((a::t).getLastD 0).toNat:Nat):Int)=32) && !(a::t).any uU):=by
 have e: (a::t).all (fun b=> !uU b)= !(a::t).any uU:=by
  rw[List.not_any_eq_all_not]
 rw[←e]
 show (decide ((a::t).length≤24) && !(a==32) && !((a::t).getLastD 0==32) && (a::t).all fun b=> !uU b)=_
 have k: ∀c:UInt8,(c==32)=decide (((c.toNat:Nat):Int)=32):=fun c=>by
  rw[Bool.eq_iff_iff,beq_iff_eq,decide_eq_true_eq]
  exact MY c 32
 rw[k a,k]
theorem E3 (a:UInt8) (t:dE): (a::t)[t.length]? =some ((a::t).getLastD 0):=by
 have h:=List.getLast?_eq_getElem? (l:=a::t)
 have k: (a::t).getLast?=some ((a::t).getLastD 0):=by simp[List.getLast?_cons]
 rw[←k,h];rfl
theorem GL (s:dE) (hs:s.length< 1000000):Ev E 226 [.str s] ⟨.bool (mP s),[]⟩:=by
 cases s with
 | nil=>
   refine Ev.aG Rp (Rq _) rfl ?_
   (conv=>whnf);repeat' ((first| intro g| refine st ?_| (first| refine b1 ?_ ?_| refine b2 ?_ ?_| refine Br.mk ?_ ?_) <;>intro hc| exact rfl) <;>conv=>whnf)
 | cons a t=>
   have BQ:=GK (l:=a::t) (sv:= .lit 1 ((a::t).map Kl)) (.inl rfl) (g:=258) (caps:=[]) rfl (p:=uU) (by omega) (fun b _=>X4 b) rfl
   have hl:=E3 a t
   rw[xf]
   generalize (a::t).getLastD 0=z at*
   generalize hN: (a::t).any uU=N at*
   have hlen: (a::t).length=t.length+1:=rfl
   have h0: (a::t)[0]? =some a:=rfl
   generalize a::t=s at*
   have e1:s.map (fun b:UInt8=>V.int .u8 b.toNat)=s.map Kl:=rfl
   have hm:aD E 257=[]:=rfl
   refine Ev.aG Rp (Rq _) rfl ?_
   have hw:IntKind.i64.wrap (((s.length:Nat):Int) - 1)=((t.length:Nat):Int):=(wrap64 (by omega) (by omega)).trans (by omega)
   have hw0:0≤IntKind.i64.wrap (((s.length:Nat):Int) - 1):=by omega
   (conv=>whnf);repeat' ((first| intro g| refine bU.mk (hw0) ?_| refine bD.mk _ (zS h0 rfl) ?_| refine bD.mk _ (zS hl hw) ?_| refine av.mk _ (BQ) ?_| refine st ?_| (first| refine b1 ?_ ?_| refine b2 ?_ ?_| refine Br.mk ?_ ?_) <;>intro hc| exact rfl) <;>conv=>whnf)
   all_goals (simp only[hlen] at*;simp[*];try omega)
theorem GM (s:dE) (hs:s.length< 1000000):Ev E 419 [.str s] ⟨.bool (mP s),[]⟩:=by
 cases s with
 | nil=>
   refine Ev.aG Rt (Ru _) rfl ?_
   (conv=>whnf);repeat' ((first| intro g| refine st ?_| (first| refine b1 ?_ ?_| refine b2 ?_ ?_| refine Br.mk ?_ ?_) <;>intro hc| exact rfl) <;>conv=>whnf)
 | cons a t=>
   have hl:=E3 a t
   rw[xf]
   generalize (a::t).getLastD 0=z at*
   have hlen: (a::t).length=t.length+1:=rfl
   have h0: (a::t)[0]? =some a:=rfl
   generalize a::t=s at*
   refine Ev.aG Rt (Ru _) rfl ?_
   have hw:IntKind.i64.wrap (((s.length:Nat):Int) - 1)=((t.length:Nat):Int):=(wrap64 (by omega) (by omega)).trans (by omega)
   have hw0:0≤IntKind.i64.wrap (((s.length:Nat):Int) - 1):=by omega
   (conv=>whnf);repeat' ((first| intro g| refine bU.mk (hw0) ?_| refine bD.mk _ (zS h0 rfl) ?_| refine bD.mk _ (zS hl hw) ?_| refine st ?_| (first| refine b1 ?_ ?_| refine b2 ?_ ?_| refine Br.mk ?_ ?_) <;>intro hc| exact rfl) <;>conv=>whnf)
   rotate_right 1
   · refine bj.by (fun (i:Nat)=> ⟨[(0,.str s),(3,aO i)],[]⟩) (fun i=>i≤s.length∧(s.take i).any uU=false) (fun i=>s.length - i) 0 (by(refine⟨?_,?_⟩ <;>repeat' (first| exact True.intro| refine ai ?_| refine And.intro ?_ ?_))) (by simp) ?_
     rintro i ⟨hi,eP⟩
     by_cases bY:i<s.length
     · have hx:s[i]? =some s[i]:=bp bY
       generalize s[i]=x at hx
       have hb:=Ii x
       have en:uU x=true→s.any uU=true:=fun h=>List.any_eq_true.2 ⟨x,List.mem_of_getElem? hx,h⟩
       have Dc: (s.take (i+1)).any uU=uU x:=by rw[List.take_add_one,hx,List.any_append,eP];simp
       (conv=>whnf);repeat' ((first| intro g| refine bD.mk _ (zS hx rfl) ?_| refine st ?_| (first| refine b1 ?_ ?_| refine b2 ?_ ?_| refine Br.mk ?_ ?_) <;>intro hc| exact rfl) <;>conv=>whnf)
       rotate_right 1
       · exact bk.mk (i+1) (by first| omega| (dsimp only;omega)) ⟨by omega,by rw[Dc,hb];simp[*]⟩ (by(refine⟨?_,?_⟩ <;>repeat' (first| exact True.intro| refine ai ?_| refine And.intro ?_ ?_)))
       all_goals (rw[en (by rw[hb];simp[*])];simp)
     · obtain rfl:i=s.length:=by omega
       rw[List.take_length] at eP
       (conv=>whnf);repeat' ((first| intro g| refine st ?_| (first| refine b1 ?_ ?_| refine b2 ?_ ?_| refine Br.mk ?_ ?_) <;>intro hc| exact rfl) <;>conv=>whnf)
       rw[eP];simp[*];try omega
   all_goals (simp only[hlen] at*;simp[*];try omega)
end Go.AM
namespace Go.AM
theorem fg {v:V} {k:V→bR} {S:SS} {Q:KK} (hp:V.aj v=true) (h:eR E (k v) S Q):eR E (vq v k) S Q:=by
 unfold vq
 rw[hp];exact h
theorem iT {d:Nat} {v:V} {k:V→List Nat→bR} {S:SS} {Q:KK} (hp:V.aj v=true) (h:eR E (k v []) S Q):eR E (gQ d v k) S Q:=by
 cases d with
 | zero=>exact bU.mk hp h
 | succ d=>simp only[gQ,hp,cond_true];exact h
theorem R8 {α:Type} {f:α→V} {l:List α} {i n:Nat} (h:n=i):bb (l.map f) 0 n=(l.take i).map f:=by
 subst h;simp[bb]
theorem aP.bN (r:aP):r.v= .agg [.str r.name,vi r.prio,
 vi r.w.po,vi r.w.pv,vi r.w.pt,vi r.w.pn,.bool r.w.pb,.str r.w.ps,r.w.pl,
 vi r.c.po,vi r.c.pv,vi r.c.pt,vi r.c.pn,.bool r.c.pb,.str r.c.ps,r.c.pl,
 vi r.d.po,vi r.d.pv,vi r.d.pt,vi r.d.pn,.bool r.d.pb,.str r.d.ps,r.d.pl,
 vi r.s.po,vi r.s.pv,vi r.s.pt,vi r.s.pn,.bool r.s.pb,.str r.s.ps,r.s.pl]:=rfl
theorem GN {l:List (aP)} {sv:V} (hs:td 30 (l.map aP.v) sv) {g:Nat} {caps:List V} (hc:V.ae caps=true) {p:aP→Bool} (hlen:l.length< 4611686018427387904)
   (hp: ∀x ∈ l,Ev E g (aP.v x::caps) ⟨.bool (p x),[]⟩) (hm:aD E g=[]):Ev E 421 [sv,.fn g caps] ⟨vi (firstIdx p l),[]⟩:=by
 have gO: ∀x,(aP.v x).aj=true:=aP.pure
 have kI:=AM.bq gO l
 rcases hs with rfl| ⟨h0,rfl⟩
 · refine Ev.aG Rv (Rw _) rfl ?_
   (conv=>whnf);repeat' ((first| intro g| refine bU.mk (by simp[V.ae,V.aj,hc,kI]) ?_| refine st ?_| (first| refine b1 ?_ ?_| refine b2 ?_ ?_| refine Br.mk ?_ ?_) <;>intro hc| exact rfl) <;>conv=>whnf)
   refine bj.by (fun i:Nat=> ⟨[(0,.lit 30 (l.map aP.v)),(1,.fn g caps),(7,aO (l.map aP.v).length),(8,aO i)],[]⟩) (fun i=>i≤l.length∧ ∀ (j:Nat) y,j<i→l[j]? =some y→p y=false) (fun i=>l.length - i) 0 ?_ ?_ ?_
   · (refine⟨?_,?_⟩ <;>repeat' (first| exact True.intro| refine ai ?_| refine And.intro ?_ ?_))
   · simp
   rintro i ⟨hi,eP⟩
   have eb:=hc
   by_cases bY:i<l.length
   · have hx:l[i]? =some l[i]:=bp bY
     have gX:=hp l[i] (List.getElem_mem bY)
     have xl:=gO l[i]
     generalize l[i]=x at hx gX xl
     have hv:=aP.bN x;have fS:V.ae ([x.v]++caps)=true:=(by simp[V.ae,aP.pure,eb]);rw[hv] at gX xl fS
     (conv=>whnf);repeat' ((first| intro g| refine bD.mk _ (aA hx hv rfl) ?_| refine aq (by assumption) (by first| assumption| rfl| (simp only[V.ae,V.aj,Bool.and_self,Bool.true_and,Bool.and_true, *])) (gX) rfl ?_| refine st ?_| (first| refine b1 ?_ ?_| refine b2 ?_ ?_| refine Br.mk ?_ ?_) <;>intro hc| exact rfl) <;>conv=>whnf)
     · rw[ec eP hx hc]
     · refine bk.mk (i+1) (by first| omega| (dsimp only;omega)) ?_ (by(refine⟨?_,?_⟩ <;>repeat' (first| exact True.intro| refine ai ?_| refine And.intro ?_ ?_)))
       refine⟨by omega,fun j y hj hy=> ?_⟩
       by_cases e:j=i
       · subst e
         rw[hx] at hy
         injection hy with hy;subst hy;exact hc
       · exact eP j y (by omega) hy
   · (conv=>whnf);repeat' ((first| intro g| refine st ?_| (first| refine b1 ?_ ?_| refine b2 ?_ ?_| refine Br.mk ?_ ?_) <;>intro hc| exact rfl) <;>conv=>whnf)
     rw[firstIdx_none fun j y hy=>eP j y (by have:=(List.getElem?_eq_some_iff.1 hy).1;omega) hy]
 · have:l=[]:=by simpa using h0
   subst this
   refine Ev.aG Rv (Rw _) rfl ?_
   (conv=>whnf);repeat' ((first| intro g| refine bU.mk (by simp[V.ae,V.aj,hc]) ?_| refine st ?_| (first| refine b1 ?_ ?_| refine b2 ?_ ?_| refine Br.mk ?_ ?_) <;>intro hc| exact rfl) <;>conv=>whnf)
   refine bj.by (fun i:Nat=> ⟨[(0,.nils),(1,.fn g caps),(7,aO 0),(8,aO i)],[]⟩) (fun i=>i=0) (fun i=>0) 0 ?_ rfl ?_
   · (refine⟨?_,?_⟩ <;>repeat' (first| exact True.intro| refine ai ?_| refine And.intro ?_ ?_))
   rintro i rfl
   (conv=>whnf);repeat' ((first| intro g| refine st ?_| (first| refine b1 ?_ ?_| refine b2 ?_ ?_| refine Br.mk ?_ ?_) <;>intro hc| exact rfl) <;>conv=>whnf)
theorem J3 {l:List (aP)} {sv:V} (hs:td 30 (l.map aP.v) sv) {g:Nat} {caps:List V} (hc:V.ae caps=true) {p:aP→Bool} (hlen:l.length< 4611686018427387904)
  (hp: ∀x ∈ l,Ev E g (aP.v x::caps) ⟨.bool (p x),[]⟩) (hm:aD E g=[]):Ev E 397 [sv,.fn g caps] ⟨.bool (l.any p),[]⟩:=by
 have h:=GN hs hc hlen hp hm
 have gO: ∀x,(aP.v x).aj=true:=aP.pure
 have kI:=AM.bq gO l
 have cm:aD E 421=[]:=rfl
 have se:V.aj sv=true:=hs.pure (AM.bq gO l)
 have hf:l.any p=decide (0≤firstIdx p l):=fJ p l
 rw[hf]
 refine Ev.aG abm (abn _) rfl ?_
 rcases hs with rfl| ⟨h0,rfl⟩
 all_goals
  (conv=>whnf);repeat' ((first| intro g| refine bU.mk (by simp[V.ae,V.aj,hc,se]) ?_| refine st ?_| (first| refine b1 ?_ ?_| refine b2 ?_ ?_| refine Br.mk ?_ ?_) <;>intro hc| exact rfl) <;>conv=>whnf)
  refine aq cm (by simp[V.ae,V.aj,hc,kI]) h rfl ?_
  (conv=>whnf);repeat' ((first| intro g| refine st ?_| (first| refine b1 ?_ ?_| refine b2 ?_ ?_| refine Br.mk ?_ ?_) <;>intro hc| exact rfl) <;>conv=>whnf)
abbrev Ex.g (e:Ex):V:= .agg [vi e.po,vi e.pv,vi e.pt,vi e.pn,.bool e.pb,.str e.ps,e.pl]
theorem Ex.vg (e:Ex):e.v=e.g:=e.vp
theorem Ex.jN (e:Ex):V.aj e.g=true:=e.qX
theorem uV (e:Ex) (t:Int) (he:e.size< 1000000) (hf:e.Fit):Ev E 420 [e.g,vi t] ⟨vi (e.want t),[]⟩:=by
 have h:=vF e he hf
 rw[e.vp] at h
 have hp:=e.qX
 have yS:V.ae [e.g]=true:=by simp only[V.ae,hp,Bool.and_self]
 have DE:aD E 341=[]:=rfl
 unfold Ex.want
 generalize e.err=er at*
 generalize e.ty=ty at*
 refine Ev.aG abJ (abK _) rfl ?_
 (conv=>whnf);repeat' ((first| refine aq DE yS h rfl ?_| intro g| refine st ?_| (first| refine b1 ?_ ?_| refine b2 ?_ ?_| refine Br.mk ?_ ?_) <;>intro hc| exact rfl) <;>conv=>whnf)
 all_goals simp[*]
theorem MZ (r:aP):Ev E 399 [r.v] ⟨.own 7 [r.w.g,r.c.g,r.d.g,r.s.g],[]⟩:=by
 have h1:=r.w.qX
 have h2:=r.c.qX
 have h3:=r.d.qX
 have h4:=r.s.qX
 have h5:V.ae [r.w.g,r.c.g,r.d.g,r.s.g]=true:=by simp only[V.ae,h1,h2,h3,h4,Bool.and_self]
 rw[r.bN]
 refine Ev.aG abq (abr _) rfl ?_
 (conv=>whnf);repeat' ((first| refine fg (Ex.jN _) ?_| intro g| refine bU.mk (⟨Nat.le_refl _,h5⟩) ?_| refine st ?_| (first| refine b1 ?_ ?_| refine b2 ?_ ?_| refine Br.mk ?_ ?_) <;>intro hc| exact rfl) <;>conv=>whnf)
theorem Qb (q r:aP):Ev E 398 [q.v,.eptr r.v 0] ⟨.bool (decide (q.name=r.name)),[]⟩:=by
 rw[r.bN,q.bN]
 refine Ev.aG abo (abp _) rfl ?_
 (conv=>whnf);repeat' ((first| intro g| refine st ?_| (first| refine b1 ?_ ?_| refine b2 ?_ ?_| refine Br.mk ?_ ?_) <;>intro hc| exact rfl) <;>conv=>whnf)
def BF (r:aP) (i:Nat):Prop:=(0 <i→r.w.want 2=0)∧(1 <i→r.c.want 1=0)∧(2 <i→r.d.want 1=0)∧(3 <i→r.s.want 1=0)
theorem Qc (r:aP) (hr:r.Fit) (i:Nat) (hi:i< 4) (hp:BF r i): ∃ (x:Ex) (t:Int),t=(if i=0 then 2 else 1)∧(∀n:Int,n=i→[r.w.g,r.c.g,r.d.g,r.s.g][n.toNat]? =some x.g)∧x.size< 1000000∧x.Fit∧
   (x.want t≠0→r.R7=x.want t)∧(x.want t=0→BF r (i+1)):=by
 obtain⟨p1,p2,p3,p4⟩:=hp
 have gP:i=0∨i=1∨i=2∨i=3:=by omega
 unfold BF aP.R7
 rcases gP with rfl| rfl| rfl| rfl
 · exact⟨r.w,2,rfl,fun n hn=>by subst hn;rfl,hr.w.1,hr.w.2,fun h=>by rw[if_neg h],fun h=> ⟨fun _=>h,by omega,by omega,by omega⟩⟩
 · have h1:=p1 (by omega)
   exact⟨r.c,1,rfl,fun n hn=>by subst hn;rfl,hr.c.1,hr.c.2,fun h=>by rw[if_pos h1,if_neg h],fun h=> ⟨fun _=>h1,fun _=>h,by omega,by omega⟩⟩
 · have h1:=p1 (by omega)
   have h2:=p2 (by omega)
   exact⟨r.d,1,rfl,fun n hn=>by subst hn;rfl,hr.d.1,hr.d.2,fun h=>by rw[if_pos h1,if_pos h2,if_neg h],fun h=> ⟨fun _=>h1,fun _=>h2,fun _=>h,by omega⟩⟩
 · have h1:=p1 (by omega)
   have h2:=p2 (by omega)
   have h3:=p3 (by omega)
   exact⟨r.s,1,rfl,fun n hn=>by subst hn;rfl,hr.s.1,hr.s.2,fun h=>by rw[if_pos h1,if_pos h2,if_pos h3],fun h=> ⟨fun _=>h1,fun _=>h2,fun _=>h3,fun _=>h⟩⟩
theorem up4 {r:aP} (h:BF r 4):r.R7=0:=(Ic r).2 ⟨h.1 (by decide),h.2.1 (by decide),h.2.2.1 (by decide),h.2.2.2 (by decide)⟩
theorem M0 (r:aP) (l:List aP) (hr:r.Fit) (hl:l.length< 1000000):Ev E 364 [r.v,.lit 30 (l.map aP.v)] ⟨vi (r.err l),[]⟩:=by
 have hn:=GL r.name hr.name
 have ha:=J3 (l:=l) (sv:= .lit 30 (l.map aP.v)) (.inl rfl) (g:=398) (caps:=[.eptr r.v 0]) (by simp[V.ae,V.aj,r.pure]) (p:=fun q=>decide (q.name=r.name)) (by omega) (fun q _=>Qb q r) rfl
 have hx:=MZ r
 have hup:=Qc r hr
 have h4:= @up4 r
 have hp:=r.pure
 have NJ:=aP.bq l
 have DE:aD E 399=[]:=rfl
 have cm:aD E 338=[]:=rfl
 have himp: ∀ (n:Nat) (k:V→bR),bC false n [] (.own 7 [r.w.g,r.c.g,r.d.g,r.s.g]) k=k (.lit 7 [r.w.g,r.c.g,r.d.g,r.s.g]):=fun _ _=>rfl
 have yS:V.ae [r.v]=true:=by simp[V.ae,hp]
 unfold aP.err
 generalize l.any (fun q=>decide (q.name=r.name))=A at*
 generalize mP r.name=N at*
 generalize hX:r.R7=X at*
 rw[r.bN] at*
 cases N with
 | false=>
   rw[if_pos rfl]
   refine Ev.aG Hi (Hj _) rfl ?_
   (conv=>whnf);repeat' ((first| intro g| refine av.mk _ (hn) ?_| refine st ?_| (first| refine b1 ?_ ?_| refine b2 ?_ ?_| refine Br.mk ?_ ?_) <;>intro hc| exact rfl) <;>conv=>whnf)
 | true=>
   rw[if_neg (by decide)]
   cases A with
   | true=>
     rw[if_pos rfl]
     refine Ev.aG Hi (Hj _) rfl ?_
     (conv=>whnf);repeat' ((first| refine iT (aP.pure _) ?_| intro g| refine av.mk _ (hn) ?_| refine av.mk _ (ha) ?_| refine st ?_| (first| refine b1 ?_ ?_| refine b2 ?_ ?_| refine Br.mk ?_ ?_) <;>intro hc| exact rfl) <;>conv=>whnf)
   | false=>
     rw[if_neg (by decide)]
     by_cases WU:r.prio< 0∨1000 <r.prio
     · rw[if_pos WU]
       refine Ev.aG Hi (Hj _) rfl ?_
       (conv=>whnf);repeat' ((first| refine iT (aP.pure _) ?_| intro g| refine av.mk _ (hn) ?_| refine av.mk _ (ha) ?_| refine st ?_| (first| refine b1 ?_ ?_| refine b2 ?_ ?_| refine Br.mk ?_ ?_) <;>intro hc| exact rfl) <;>conv=>whnf)
     · rw[ if_neg WU]
       refine Ev.aG Hi (Hj _) rfl ?_
       (conv=>whnf);repeat' ((first| refine bc DE yS hx himp ?_| refine iT (aP.pure _) ?_| intro g| refine av.mk _ (hn) ?_| refine av.mk _ (ha) ?_| refine st ?_| (first| refine b1 ?_ ?_| refine b2 ?_ ?_| refine Br.mk ?_ ?_) <;>intro hc| exact rfl) <;>conv=>whnf)
       refine bj.by (fun (i:Nat)=> ⟨[(29,.lit 7 [r.w.g,r.c.g,r.d.g,r.s.g]),(30,aO 4),(31,aO i)],[]⟩) (fun i=>i≤4∧BF r i) (fun i=>4 - i) 0 (by(refine⟨?_,?_⟩ <;>repeat' (first| exact True.intro| refine ai ?_| refine And.intro ?_ ?_))) ⟨by omega,by unfold BF;omega⟩ ?_
       rintro i ⟨hi,hE⟩
       clear ha hn hx
       by_cases bY:i< 4
       · obtain⟨x,t,ht,oe,cJ,Ac,Xr,W7⟩:=hup i bY hE
         have dj:=kS x cJ Ac
         rw[x.vg] at dj
         have Km:V.ae [x.g]=true:=by simp[V.ae,x.jN]
         unfold Ex.want at Xr W7
         generalize x.err=er at*
         generalize x.ty=ty at*
         by_cases h0:i=0
         · rw[if_pos h0] at ht
           subst h0 ht
           (conv=>whnf);repeat' ((first| refine aq cm Km dj rfl ?_| intro g| refine bD.mk _ (oe _ rfl) ?_| refine st ?_| (first| refine b1 ?_ ?_| refine b2 ?_ ?_| refine Br.mk ?_ ?_) <;>intro hc| exact rfl) <;>conv=>whnf)
           · rw[Xr (by simp[hc]),if_neg hc]
           · rw[Xr (by simp[*]),if_pos (by assumption),if_neg hc]
           · exact bk.mk (0+1) (by first| omega| (dsimp only;omega)) ⟨by omega,W7 (by simp[*])⟩ (by(refine⟨?_,?_⟩ <;>repeat' (first| exact True.intro| refine ai ?_| refine And.intro ?_ ?_)))
         · rw[if_neg h0] at ht
           subst ht
           have lY: ¬ ((i:Nat):Int)=0:=by omega
           (conv=>whnf);repeat' ((first| refine aq cm Km dj rfl ?_| intro g| refine bD.mk _ (oe _ rfl) ?_| refine st ?_| (first| refine b1 ?_ ?_| refine b2 ?_ ?_| refine Br.mk ?_ ?_) <;>intro hc| exact rfl) <;>conv=>whnf)
           · rw[Xr (by simp[hc]),if_neg hc]
           · rw[Xr (by simp[*]),if_pos (by assumption),if_neg hc]
           · exact bk.mk (i+1) (by first| omega| (dsimp only;omega)) ⟨by omega,W7 (by simp[*])⟩ (by(refine⟨?_,?_⟩ <;>repeat' (first| exact True.intro| refine ai ?_| refine And.intro ?_ ?_)))
       · obtain rfl:i=4:=by omega
         rw[h4 hE]
         (conv=>whnf);repeat' ((first| intro g| refine st ?_| (first| refine b1 ?_ ?_| refine b2 ?_ ?_| refine Br.mk ?_ ?_) <;>intro hc| exact rfl) <;>conv=>whnf)
theorem xg {l:List aP} {i:Nat} {x:aP} (hx:l[i]? =some x):l.drop i=x::l.drop (i+1)∧l.take (i+1)=l.take i++[x]:=by
 have hl:=(List.getElem?_eq_some_iff.1 hx).1
 constructor
 · rw[List.drop_eq_getElem_cons hl,(List.getElem?_eq_some_iff.1 hx).2]
 · rw[List.take_add_one,hx];rfl
theorem uW (l:List aP) (hl:l.length< 1000000) (hf: ∀r ∈ l,r.Fit):Ev E 329 [.lit 30 (l.map aP.v)] ⟨vi (gu l),[]⟩:=by
 have lm: (l.map aP.v).length=l.length:=List.length_map ..
 have hm:aD E 364=[]:=rfl
 unfold gu
 by_cases h40:40 <l.length
 · rw[if_pos h40]
   refine Ev.aG Rd (Re _) rfl ?_
   (conv=>whnf);repeat' ((first| intro g| refine st ?_| (first| refine b1 ?_ ?_| refine b2 ?_ ?_| refine Br.mk ?_ ?_) <;>intro hc| exact rfl) <;>conv=>whnf)
 rw[if_neg h40]
 generalize hX:jl [] l=X
 refine Ev.aG Rd (Re _) rfl ?_
 (conv=>whnf);repeat' ((first| intro g| refine st ?_| (first| refine b1 ?_ ?_| refine b2 ?_ ?_| refine Br.mk ?_ ?_) <;>intro hc| exact rfl) <;>conv=>whnf)
 refine bj.by (fun (i:Nat)=> ⟨[(0,.lit 30 (l.map aP.v)),(9,.lit 30 (l.map aP.v)),(10,aO l.length),(11,aO i)],[]⟩) (fun i=>i≤l.length∧jl (l.take i) (l.drop i)=X) (fun i=>l.length - i) 0 (by(refine⟨?_,?_⟩ <;>repeat' (first| exact True.intro| refine ai ?_| refine And.intro ?_ ?_))) ⟨by omega,hX⟩ ?_
 rintro i ⟨hi,hE⟩
 clear hX
 by_cases bY:i<l.length
 · obtain⟨x,hx⟩: ∃x,l[i]? =some x:=⟨_,bp bY⟩
   obtain⟨e1,e2⟩:=xg hx
   have h:=M0 x (l.take i) (hf x (List.mem_of_getElem? hx)) (by rw[List.length_take];omega)
   have fS:V.ae [x.v,.lit 30 ((l.take i).map aP.v)]=true:=by simp[V.ae,V.aj,x.pure,aP.bq]
   rw[e1,jl,←e2] at hE
   generalize x.err (l.take i)=er at*
   have hw:bb (l.map aP.v) 0 ((i:Int).toNat - 0)=(l.take i).map aP.v:=R8 (by simp)
   rw[←hw] at h fS
   rw[x.bN] at h fS
   (conv=>whnf);repeat' ((first| refine aq hm fS h rfl ?_| intro g| refine bD.mk _ (aA hx (aP.bN x) rfl) ?_| refine st ?_| (first| refine b1 ?_ ?_| refine b2 ?_ ?_| refine Br.mk ?_ ?_) <;>intro hc| exact rfl) <;>conv=>whnf)
   · rw[if_neg hc] at hE
     rw[←hE]
   · rw[if_pos hc] at hE
     exact bk.mk (i+1) (by first| omega| (dsimp only;omega)) ⟨by omega,hE⟩ (by(refine⟨?_,?_⟩ <;>repeat' (first| exact True.intro| refine ai ?_| refine And.intro ?_ ?_)))
 · obtain rfl:i=l.length:=by omega
   rw[List.drop_length] at hE
   rw[←hE]
   (conv=>whnf);repeat' ((first| intro g| refine st ?_| (first| refine b1 ?_ ?_| refine b2 ?_ ?_| refine Br.mk ?_ ?_) <;>intro hc| exact rfl) <;>conv=>whnf)
theorem Az {α:Type} {p:α→Bool} {l:List α} {i:Nat} {x:α} (h:l[i]? =some x) (ha: (l.take i).any p=false) (hx:p x=false): (l.take (i+1)).any p=false:=by
 rw[List.take_add_one,h,List.any_append,ha];simp[hx]
theorem X5 (r:aP) (l:List aP) (hr:r.Fit) (hl:l.length< 1000000):Ev E 396 [r.v,.lit 30 (l.map aP.v)] ⟨vi (r.err l),[]⟩:=by
 have lm: (l.map aP.v).length=l.length:=List.length_map ..
 have hn:=GM r.name hr.name
 have h1:=uV r.w 2 hr.w.1 hr.w.2
 have h2:=uV r.c 1 hr.c.1 hr.c.2
 have h3:=uV r.d 1 hr.d.1 hr.d.2
 have h4:=uV r.s 1 hr.s.1 hr.s.2
 have hm:aD E 420=[]:=rfl
 have mT: ∀ (e:Ex) (t:Int),V.ae [e.g,vi t]=true:=fun e t=>by rw[V.ae,e.jN];rfl
 unfold aP.err aP.R7
 generalize hA:l.any (fun q=>decide (q.name=r.name))=A at*
 generalize mP r.name=N at*
 generalize r.w.want 2=w1 at*
 generalize r.c.want 1=w2 at*
 generalize r.d.want 1=w3 at*
 generalize r.s.want 1=w4 at*
 rw[r.bN] at*
 cases N with
 | false=>
   rw[if_pos rfl]
   refine Ev.aG Rn (Ro _) rfl ?_
   (conv=>whnf);repeat' ((first| intro g| refine av.mk _ (hn) ?_| refine st ?_| (first| refine b1 ?_ ?_| refine b2 ?_ ?_| refine Br.mk ?_ ?_) <;>intro hc| exact rfl) <;>conv=>whnf)
 | true=>
   rw[if_neg (by decide)]
   refine Ev.aG Rn (Ro _) rfl ?_
   (conv=>whnf);repeat' ((first| intro g| refine av.mk _ (hn) ?_| refine st ?_| (first| refine b1 ?_ ?_| refine b2 ?_ ?_| refine Br.mk ?_ ?_) <;>intro hc| exact rfl) <;>conv=>whnf)
   refine bj.by (fun (i:Nat)=> ⟨[(1,.lit 30 (l.map aP.v)),(2,.ptr 48 g 0 0),(6,aO i)],[(48,⟨g,30,false,false,some [.agg [.str r.name,vi r.prio,
 vi r.w.po,vi r.w.pv,vi r.w.pt,vi r.w.pn,.bool r.w.pb,.str r.w.ps,r.w.pl,
 vi r.c.po,vi r.c.pv,vi r.c.pt,vi r.c.pn,.bool r.c.pb,.str r.c.ps,r.c.pl,
 vi r.d.po,vi r.d.pv,vi r.d.pt,vi r.d.pn,.bool r.d.pb,.str r.d.ps,r.d.pl,
 vi r.s.po,vi r.s.pv,vi r.s.pt,vi r.s.pn,.bool r.s.pb,.str r.s.ps,r.s.pl]]⟩)]⟩) (fun i=>i≤l.length∧(l.take i).any (fun q=>decide (q.name=r.name))=false) (fun i=>l.length - i) 0 (by(refine⟨?_,?_⟩ <;>repeat' (first| exact True.intro| refine ai ?_| refine And.intro ?_ ?_))) (by simp) ?_
   rintro i ⟨hi,eP⟩
   by_cases bY:i<l.length
   · obtain⟨x,hx⟩: ∃x,l[i]? =some x:=⟨_,bp bY⟩
     clear hn h1 h2 h3 h4
     by_cases xD:x.name=r.name
     · have:A=true:=by rw[←hA];exact List.any_eq_true.2 ⟨x,List.mem_of_getElem? hx,decide_eq_true xD⟩
       rw[if_pos this]
       (conv=>whnf);repeat' ((first| intro g| refine bD.mk _ (aA hx (aP.bN x) rfl) ?_| refine st ?_| (first| refine b1 ?_ ?_| refine b2 ?_ ?_| refine Br.mk ?_ ?_) <;>intro hc| exact rfl) <;>conv=>whnf)
     · (conv=>whnf);repeat' ((first| intro g| refine bD.mk _ (aA hx (aP.bN x) rfl) ?_| refine st ?_| (first| refine b1 ?_ ?_| refine b2 ?_ ?_| refine Br.mk ?_ ?_) <;>intro hc| exact rfl) <;>conv=>whnf)
       exact bk.mk (i+1) (by first| omega| (dsimp only;omega)) ⟨by omega,Az hx eP (decide_eq_false xD)⟩ (by(refine⟨?_,?_⟩ <;>repeat' (first| exact True.intro| refine ai ?_| refine And.intro ?_ ?_)))
   · obtain rfl:i=l.length:=by omega
     rw[List.take_length,hA] at eP
     rw[eP,if_neg (by decide)]
     by_cases WU:r.prio< 0∨1000 <r.prio
     · rw[if_pos WU]
       (conv=>whnf);repeat' ((first| intro g| refine st ?_| (first| refine b1 ?_ ?_| refine b2 ?_ ?_| refine Br.mk ?_ ?_) <;>intro hc| exact rfl) <;>conv=>whnf)
     · rw[if_neg WU]
       (conv=>whnf);repeat' ((first| refine aq hm (mT _ _) h1 rfl ?_| refine aq hm (mT _ _) h2 rfl ?_| refine aq hm (mT _ _) h3 rfl ?_| refine aq hm (mT _ _) h4 rfl ?_| intro g| refine st ?_| (first| refine b1 ?_ ?_| refine b2 ?_ ?_| refine Br.mk ?_ ?_) <;>intro hc| exact rfl) <;>conv=>whnf)
       all_goals simp[*]
theorem Ij (l:List aP) (hl:l.length< 1000000) (hf: ∀r ∈ l,r.Fit):Ev E 363 [.lit 30 (l.map aP.v)] ⟨vi (gu l),[]⟩:=by
 have lm: (l.map aP.v).length=l.length:=List.length_map ..
 have hm:aD E 396=[]:=rfl
 unfold gu
 by_cases h40:40 <l.length
 · rw[if_pos h40]
   refine Ev.aG Rh (Ri _) rfl ?_
   (conv=>whnf);repeat' ((first| intro g| refine st ?_| (first| refine b1 ?_ ?_| refine b2 ?_ ?_| refine Br.mk ?_ ?_) <;>intro hc| exact rfl) <;>conv=>whnf)
 rw[if_neg h40]
 generalize hX:jl [] l=X
 refine Ev.aG Rh (Ri _) rfl ?_
 (conv=>whnf);repeat' ((first| intro g| refine st ?_| (first| refine b1 ?_ ?_| refine b2 ?_ ?_| refine Br.mk ?_ ?_) <;>intro hc| exact rfl) <;>conv=>whnf)
 refine bj.by (fun (i:Nat)=> ⟨[(0,.lit 30 (l.map aP.v)),(3,aO i)],[]⟩) (fun i=>i≤l.length∧jl (l.take i) (l.drop i)=X) (fun i=>l.length - i) 0 (by(refine⟨?_,?_⟩ <;>repeat' (first| exact True.intro| refine ai ?_| refine And.intro ?_ ?_))) ⟨by omega,hX⟩ ?_
 rintro i ⟨hi,hE⟩
 clear hX
 by_cases bY:i<l.length
 · obtain⟨x,hx⟩: ∃x,l[i]? =some x:=⟨_,bp bY⟩
   obtain⟨e1,e2⟩:=xg hx
   have h:=X5 x (l.take i) (hf x (List.mem_of_getElem? hx)) (by rw[List.length_take];omega)
   have fS:V.ae [x.v,.lit 30 ((l.take i).map aP.v)]=true:=by simp[V.ae,V.aj,x.pure,aP.bq]
   rw[e1,jl,←e2] at hE
   generalize x.err (l.take i)=er at*
   have hw:bb (l.map aP.v) 0 ((i:Int).toNat - 0)=(l.take i).map aP.v:=R8 (by simp)
   rw[←hw] at h fS
   rw[x.bN] at h fS
   (conv=>whnf);repeat' ((first| refine aq hm fS h rfl ?_| intro g| refine bD.mk _ (aA hx (aP.bN x) rfl) ?_| refine st ?_| (first| refine b1 ?_ ?_| refine b2 ?_ ?_| refine Br.mk ?_ ?_) <;>intro hc| exact rfl) <;>conv=>whnf)
   · rw[if_neg hc] at hE
     rw[←hE]
   · rw[if_pos hc] at hE
     exact bk.mk (i+1) (by first| omega| (dsimp only;omega)) ⟨by omega,hE⟩ (by(refine⟨?_,?_⟩ <;>repeat' (first| exact True.intro| refine ai ?_| refine And.intro ?_ ?_)))
 · obtain rfl:i=l.length:=by omega
   rw[List.drop_length] at hE
   rw[←hE]
   (conv=>whnf);repeat' ((first| intro g| refine st ?_| (first| refine b1 ?_ ?_| refine b2 ?_ ?_| refine Br.mk ?_ ?_) <;>intro hc| exact rfl) <;>conv=>whnf)
end Go.AM
