/-
  Texts of the proof, joined by program: DaX, QaA, QaB, QaC, QaD. Own work.
-/
import Derived.Test.YtgkdgapmmkkcaaaGreatData
import Derived.Test.YtgkdgapmmkkcaaaGreatOpsC
import Derived.Test.YtgkdgapmmkkcaaaGreatBase
set_option linter.unusedSimpArgs false
set_option linter.unusedVariables false
set_option maxRecDepth 20000
namespace Go.AM
def IsSqrt (n s:Int):Prop:=0≤s∧s*s≤n∧n< (s+1)*(s+1)
theorem ni {a b:Int} (h0:0≤a) (h:a≤b):a*a≤b*b:=Int.mul_le_mul h h h0 (by omega)
theorem IsSqrt.uniq {n s t:Int} (h:IsSqrt n s) (k:IsSqrt n t):s=t:=by
 obtain⟨h1,h2,h3⟩:=h
 obtain⟨k1,k2,k3⟩:=k
 rcases Int.lt_trichotomy s t with hl| hl| hl
 · have:=ni (a:=s+1) (b:=t) (by omega) (by omega);omega
 · exact hl
 · have:=ni (a:=t+1) (b:=s) (by omega) (by omega);omega
open Classical in
noncomputable def pO (n:Int):Int:=if h: ∃s,IsSqrt n s then h.choose else 0
theorem mJ {n s:Int} (h:IsSqrt n s):pO n=s:=by
 have hex: ∃s,IsSqrt n s:=⟨s,h⟩
 unfold pO;rw[dif_pos hex];exact hex.choose_spec.uniq h
theorem BQ {n:Int} (h:n≤0):pO n=0:=by
 by_cases hz:n=0
 · subst hz;exact mJ ⟨by omega,by omega,by omega⟩
 · unfold pO;rw[dif_neg]
   rintro⟨s,h1,h2,h3⟩
   have:=Int.mul_nonneg h1 h1
   omega
theorem xO {b r:Nat} (h:FloatKind.f64.format.sqrt b=some r):Ev E 41 [.float b] ⟨.float r,[]⟩:=by
 have Ua:Ev E 52 [.float b] ⟨.float r,[]⟩:=Ev.ext (by rw[Vx];simp[wq,h])
 refine Ev.cY Vu (Vv _) rfl ?_
 (conv=>whnf);repeat' ((first| intro g| refine ag.mk _ (Ua) ?_| refine st ?_| (first| refine b1 ?_ ?_| refine b2 ?_ ?_| refine Br.mk ?_ ?_) <;>intro hc| exact rfl) <;>conv=>whnf)
theorem Gd {n:Int} (h1:n≤9223372036854775807):Ev E 27 [vi n] ⟨vi (pO n),[]⟩:=by
 by_cases h0:0 <n
 case neg=>
   rw[BQ (by omega)]
   refine Ev.cY Pp (Pq _) rfl ?_
   (conv=>whnf);repeat' ((first| intro g| refine st ?_| (first| refine b1 ?_ ?_| refine b2 ?_ ?_| refine Br.mk ?_ ?_) <;>intro hc| exact rfl) <;>conv=>whnf)
   all_goals trivial
 obtain⟨r,m,hr,hm,Bh,hm1⟩:=DI h0 h1
 have e1:IntKind.i64.min≤m:=by simp[IntKind.min,IntKind.signed,IntKind.bits];omega
 have e2:m≤IntKind.i64.max:=by simp[IntKind.max,IntKind.signed,IntKind.bits];omega
 refine Ev.cY Pp (Pq _) rfl ?_
 (conv=>whnf);repeat' ((first| intro g| refine aL.mk _ ((⟨hm,e1,e2⟩:_∧_∧_)) ?_| refine ag.mk _ (xO hr) ?_| refine st ?_| (first| refine b1 ?_ ?_| refine b2 ?_ ?_| refine Br.mk ?_ ?_) <;>intro hc| exact rfl) <;>conv=>whnf)
 generalize MF: (if 3037000499 <m then(3037000499:Int) else m)=s0
 have tY:0≤s0∧s0≤3037000499:=by split at MF<;>omega
 refine ba.by (fun s:Int=> ⟨[(0,vi n),(3,vi s)],[]⟩) (fun s=>0≤s∧s≤3037000499) (fun s=>s.toNat) s0 ?_ tY ?_
 · (refine⟨?_,?_⟩ <;>repeat' (first| exact True.intro| refine ai ?_| refine And.intro ?_ ?_))
 rintro s ⟨qY,tZ⟩
 have Ua:=ni qY tZ
 have LP:0≤s*s:=Int.mul_nonneg qY qY
 have hw:IntKind.i64.wrap (s*s)=s*s:=wrap64 (by omega) (by omega)
 (conv=>whnf);repeat' ((first| intro g| refine st ?_| (first| refine b1 ?_ ?_| refine b2 ?_ ?_| refine Br.mk ?_ ?_) <;>intro hc| exact rfl) <;>conv=>whnf)
 · rw[ hw] at hc
   have:0 <s:=by
     rcases Int.lt_or_le 0 s with h| h
     · exact h
     · have:s=0:=by omega
       subst this;omega
   refine bI.mk (s - 1) (by first| omega| (dsimp only;omega)) ?_ (by(refine⟨?_,?_⟩ <;>repeat' (first| exact True.intro| refine ai ?_| refine And.intro ?_ ?_)))
   exact⟨by omega,by omega⟩
 rw[hw] at hc
 refine ba.by (fun s:Int=> ⟨[(0,vi n),(3,vi s)],[]⟩) (fun s=>0≤s∧s≤3037000499∧s*s≤n) (fun s=> (3037000499 - s).toNat) s ?_ ⟨qY,tZ,by omega⟩ ?_
 · (refine⟨?_,?_⟩ <;>repeat' (first| exact True.intro| refine ai ?_| refine And.intro ?_ ?_))
 clear hw Ua LP hc qY tZ s
 rintro s ⟨qY,tZ,hle⟩
 by_cases bA:s< 3037000499
 · have Ua:=ni (a:=s+1) (b:=3037000499) (by omega) (by omega)
   have LP:0≤(s+1)*(s+1):=Int.mul_nonneg (by omega) (by omega)
   have CC:IntKind.i64.wrap (s+1)=s+1:=wrap64 (by omega) (by omega)
   have hw:IntKind.i64.wrap ((s+1)*(s+1))=(s+1)*(s+1):=wrap64 (by omega) (by omega)
   (conv=>whnf);repeat' ((first| intro g| refine st ?_| (first| refine b1 ?_ ?_| refine b2 ?_ ?_| refine Br.mk ?_ ?_) <;>intro hc| exact rfl) <;>conv=>whnf)
   · rw[CC,hw] at hc
     refine bI.mk (s+1) (by first| omega| (dsimp only;omega)) ?_ (by(refine⟨?_,?_⟩ <;>repeat' (first| exact True.intro| refine ai ?_| refine And.intro ?_ ?_)))
     exact⟨by omega,by omega,hc⟩
   · rw[CC,hw] at hc
     rw[mJ ⟨qY,hle,by omega⟩]
 · (conv=>whnf);repeat' ((first| intro g| refine st ?_| (first| refine b1 ?_ ?_| refine b2 ?_ ?_| refine Br.mk ?_ ?_) <;>intro hc| exact rfl) <;>conv=>whnf)
   have:=ni (a:=3037000500) (b:=s+1) (by omega) (by omega)
   rw[mJ ⟨qY,hle,by omega⟩]
end Go.AM
set_option maxRecDepth 20000
namespace Go.AM
structure En where
 kind:Int
 cls:eX
 name:eX
 weight:Int
 level:Int
 cZ:Bool
def En.v (x:En):V:= .agg [vi x.kind,.str x.cls,.str x.name,vi x.weight,vi x.level,.bool x.cZ,vi 0,vi 0,vi 0]
def DQ (f:aK):En:=⟨1,f.cls,f.name,f.weight,0,false⟩
def Ge (w:Way):En:=⟨2,w.cls,w.name,w.weight,w.level,w.cZ⟩
def LQ (p:Place):En:=⟨3,p.cls,p.name,p.weight,0,false⟩
structure Kn where
 var:Int
 low:Int
 high:Int
 texts:List eX
def Kn.v (k:Kn):V:= .agg [vi k.var,vi k.low,vi k.high,.lit 1 (k.texts.map .str)]
structure Vw where
 ax:Int
 ay:Int
 ux:Int
 uy:Int
 w:Int
 h:Int
 hour:Int
def Vw.v (v:Vw):V:= .agg [vi v.ax,vi v.ay,vi v.ux,vi v.uy,vi v.w,vi v.h,vi v.hour]
theorem Ub (f:aK):Ev E 452 [f.v] ⟨(DQ f).v,[]⟩:=by
 refine Ev.cY OD (OE _) rfl ?_
 (conv=>whnf);repeat' ((first| intro g| refine st ?_| (first| refine b1 ?_ ?_| refine b2 ?_ ?_| refine Br.mk ?_ ?_) <;>intro hc| exact rfl) <;>conv=>whnf)
theorem Uc (f:Way):Ev E 453 [f.v] ⟨(Ge f).v,[]⟩:=by
 refine Ev.cY OF (OG _) rfl ?_
 (conv=>whnf);repeat' ((first| intro g| refine st ?_| (first| refine b1 ?_ ?_| refine b2 ?_ ?_| refine Br.mk ?_ ?_) <;>intro hc| exact rfl) <;>conv=>whnf)
theorem Ud (f:Place):Ev E 454 [f.v] ⟨(LQ f).v,[]⟩:=by
 refine Ev.cY OH (OI _) rfl ?_
 (conv=>whnf);repeat' ((first| intro g| refine st ?_| (first| refine b1 ?_ ?_| refine b2 ?_ ?_| refine Br.mk ?_ ?_) <;>intro hc| exact rfl) <;>conv=>whnf)
theorem Ue (f:aK):Ev E 457 [f.v] ⟨(DQ f).v,[]⟩:=by
 refine Ev.cY ON (OO _) rfl ?_
 (conv=>whnf);repeat' ((first| intro g| refine st ?_| (first| refine b1 ?_ ?_| refine b2 ?_ ?_| refine Br.mk ?_ ?_) <;>intro hc| exact rfl) <;>conv=>whnf)
theorem Uf (f:Way):Ev E 458 [f.v] ⟨(Ge f).v,[]⟩:=by
 refine Ev.cY OP (OQ _) rfl ?_
 (conv=>whnf);repeat' ((first| intro g| refine st ?_| (first| refine b1 ?_ ?_| refine b2 ?_ ?_| refine Br.mk ?_ ?_) <;>intro hc| exact rfl) <;>conv=>whnf)
theorem Ug (f:Place):Ev E 459 [f.v] ⟨(LQ f).v,[]⟩:=by
 refine Ev.cY OR (OS _) rfl ?_
 (conv=>whnf);repeat' ((first| intro g| refine st ?_| (first| refine b1 ?_ ?_| refine b2 ?_ ?_| refine Br.mk ?_ ?_) <;>intro hc| exact rfl) <;>conv=>whnf)
def Hc (x y:Int):Int:=Ei (Ei (x*x)+Ei (y*y))
theorem DR (x y:Int):Ev E 449 [.agg [vi x,vi y]] ⟨vi (Hc x y),[]⟩:=by
 refine Ev.cY Ox (Oy _) rfl ?_
 (conv=>whnf);repeat' ((first| intro g| refine st ?_| (first| refine b1 ?_ ?_| refine b2 ?_ ?_| refine Br.mk ?_ ?_) <;>intro hc| exact rfl) <;>conv=>whnf)
theorem DS (x y:Int):Ev E 461 [.agg [vi x,vi y]] ⟨vi (Hc x y),[]⟩:=by
 refine Ev.cY OV (OW _) rfl ?_
 (conv=>whnf);repeat' ((first| intro g| refine st ?_| (first| refine b1 ?_ ?_| refine b2 ?_ ?_| refine Br.mk ?_ ?_) <;>intro hc| exact rfl) <;>conv=>whnf)
noncomputable def mK (n:Int):Int:=if 1024 <pO n then 1024 else pO n
theorem BR {n:Int} (h0:0≤n) (h1:n≤1048576):Ev E 450 [vi n] ⟨vi (mK n),[]⟩:=by
 have hs:=Gd (n:=n) (by omega)
 refine Ev.cY Oz (OA _) rfl ?_
 (conv=>whnf);repeat' ((first| intro g| refine ag.mk _ (hs) ?_| refine st ?_| (first| refine b1 ?_ ?_| refine b2 ?_ ?_| refine Br.mk ?_ ?_) <;>intro hc| exact rfl) <;>conv=>whnf)
theorem BS {n:Int} (h0:0≤n) (h1:n≤1048576):Ev E 460 [vi n] ⟨vi (mK n),[]⟩:=by
 refine Ev.cY OT (OU _) rfl ?_
 (conv=>whnf);repeat' ((first| intro g| refine st ?_| (first| refine b1 ?_ ?_| refine b2 ?_ ?_| refine Br.mk ?_ ?_) <;>intro hc| exact rfl) <;>conv=>whnf)
 refine ba.by (fun s:Int=> ⟨[(0,vi n),(3,vi s)],[]⟩) (fun s=>0≤s∧s≤1024∧s*s≤n) (fun s=> (1024 - s).toNat) 0 ?_ ⟨by omega,by omega,by omega⟩ ?_
 · (refine⟨?_,?_⟩ <;>repeat' (first| exact True.intro| refine ai ?_| refine And.intro ?_ ?_))
 rintro s ⟨MF,qY,tZ⟩
 by_cases bA:s< 1024
 · have Ua:=ni (a:=s+1) (b:=1024) (by omega) (by omega)
   have LP:0≤(s+1)*(s+1):=Int.mul_nonneg (by omega) (by omega)
   have CC:IntKind.i64.wrap (s+1)=s+1:=wrap64 (by omega) (by omega)
   have hw:IntKind.i64.wrap ((s+1)*(s+1))=(s+1)*(s+1):=wrap64 (by omega) (by omega)
   (conv=>whnf);repeat' ((first| intro g| refine st ?_| (first| refine b1 ?_ ?_| refine b2 ?_ ?_| refine Br.mk ?_ ?_) <;>intro hc| exact rfl) <;>conv=>whnf)
   · rw[CC,hw] at hc
     refine bI.mk (s+1) (by first| omega| (dsimp only;omega)) ?_ (by(refine⟨?_,?_⟩ <;>repeat' (first| exact True.intro| refine ai ?_| refine And.intro ?_ ?_)))
     exact⟨by omega,by omega,hc⟩
   · rw[CC,hw] at hc
     have hq:pO n=s:=mJ ⟨MF,tZ,by omega⟩
     have hz:mK n=s:=by unfold mK;rw[hq,if_neg (by omega)]
     rw[hz]
 · have e:s=1024:=by omega
   subst e
   have hq:pO n=1024:=mJ ⟨by omega,tZ,by omega⟩
   have hz:mK n=1024:=by unfold mK;rw[hq];rfl
   rw[hz]
   (conv=>whnf);repeat' ((first| intro g| refine st ?_| (first| refine b1 ?_ ?_| refine b2 ?_ ?_| refine Br.mk ?_ ?_) <;>intro hc| exact rfl) <;>conv=>whnf)
def gj (l:List Int):Nat→Int
 | 0=>0
 | k+1=>if k=0∨l.getD k 0 <gj l k then l.getD k 0 else gj l k
def dA (l:List Int):Nat→Int
 | 0=>0
 | k+1=>if k=0∨dA l k<l.getD k 0 then l.getD k 0 else dA l k
theorem ko {l:List Int} {k:Nat} {x:Int} (h:l[k]? =some x):l.getD k 0=x:=by simp[List.getD_eq_getElem?_getD,h]
set_option maxHeartbeats 1000000 in
theorem LR {l:List Int} (h0:0 <l.length) (h1:l.length< 1000000):Ev E 429 [.lit 1 (l.map vi)] ⟨vi (gj l l.length),[]⟩:=by
 obtain⟨x0,Uh⟩: ∃x,l[0]? =some x:=⟨_,aJ h0⟩
 refine Ev.cY Pr (Ps _) rfl ?_
 (conv=>whnf);repeat' ((first| intro g| refine aL.mk _ (au Uh rfl) ?_| refine st ?_| (first| refine b1 ?_ ?_| refine b2 ?_ ?_| refine Br.mk ?_ ?_) <;>intro hc| exact rfl) <;>conv=>whnf)
 refine ba.by (fun k:Nat=> ⟨[(0,.lit 1 (l.map vi)),(3,vi (gj l k)),(4,aT k)],[]⟩) (fun k=>1≤k∧k≤l.length) (fun k=>l.length - k) 1 ?_ ⟨Nat.le_refl _,h0⟩ ?_
 · have e:gj l 1=x0:=by unfold gj;rw[if_pos (.inl rfl),ko Uh]
   rw[e]
   (refine⟨?_,?_⟩ <;>repeat' (first| exact True.intro| refine ai ?_| refine And.intro ?_ ?_))
 rintro k ⟨vC,hk⟩
 by_cases bA:k<l.length
 · obtain⟨x,hx⟩: ∃x,l[k]? =some x:=⟨_,aJ bA⟩
   have e:gj l (k+1)=if x<gj l k then x else gj l k:=by
    rw[gj,ko hx]
    by_cases hc:x<gj l k
    · rw[if_pos (.inr hc),if_pos hc]
    · rw[if_neg (fun h=>h.elim (by omega) hc),if_neg hc]
   (conv=>whnf);repeat' ((first| intro g| refine aL.mk _ (au hx rfl) ?_| refine st ?_| (first| refine b1 ?_ ?_| refine b2 ?_ ?_| refine Br.mk ?_ ?_) <;>intro hc| exact rfl) <;>conv=>whnf)
   refine bI.mk (k+1) (by first| omega| (dsimp only;omega)) ⟨by omega,by omega⟩ ?_
   rw[e]
   (refine⟨?_,?_⟩ <;>repeat' (first| exact True.intro| refine ai ?_| refine And.intro ?_ ?_))
 · obtain rfl:k=l.length:=by omega
   (conv=>whnf);repeat' ((first| intro g| refine st ?_| (first| refine b1 ?_ ?_| refine b2 ?_ ?_| refine Br.mk ?_ ?_) <;>intro hc| exact rfl) <;>conv=>whnf)
set_option maxHeartbeats 1000000 in
theorem LS {l:List Int} (h0:0 <l.length) (h1:l.length< 1000000):Ev E 430 [.lit 1 (l.map vi)] ⟨vi (dA l l.length),[]⟩:=by
 obtain⟨x0,Uh⟩: ∃x,l[0]? =some x:=⟨_,aJ h0⟩
 refine Ev.cY Pu (Pv _) rfl ?_
 (conv=>whnf);repeat' ((first| intro g| refine aL.mk _ (au Uh rfl) ?_| refine st ?_| (first| refine b1 ?_ ?_| refine b2 ?_ ?_| refine Br.mk ?_ ?_) <;>intro hc| exact rfl) <;>conv=>whnf)
 refine ba.by (fun k:Nat=> ⟨[(0,.lit 1 (l.map vi)),(3,vi (dA l k)),(4,aT k)],[]⟩) (fun k=>1≤k∧k≤l.length) (fun k=>l.length - k) 1 ?_ ⟨Nat.le_refl _,h0⟩ ?_
 · have e:dA l 1=x0:=by unfold dA;rw[if_pos (.inl rfl),ko Uh]
   rw[e]
   (refine⟨?_,?_⟩ <;>repeat' (first| exact True.intro| refine ai ?_| refine And.intro ?_ ?_))
 rintro k ⟨vC,hk⟩
 by_cases bA:k<l.length
 · obtain⟨x,hx⟩: ∃x,l[k]? =some x:=⟨_,aJ bA⟩
   have e:dA l (k+1)=if dA l k<x then x else dA l k:=by
    rw[dA,ko hx]
    by_cases hc:dA l k<x
    · rw[if_pos (.inr hc),if_pos hc]
    · rw[if_neg (fun h=>h.elim (by omega) hc),if_neg hc]
   (conv=>whnf);repeat' ((first| intro g| refine aL.mk _ (au hx rfl) ?_| refine st ?_| (first| refine b1 ?_ ?_| refine b2 ?_ ?_| refine Br.mk ?_ ?_) <;>intro hc| exact rfl) <;>conv=>whnf)
   refine bI.mk (k+1) (by first| omega| (dsimp only;omega)) ⟨by omega,by omega⟩ ?_
   rw[e]
   (refine⟨?_,?_⟩ <;>repeat' (first| exact True.intro| refine ai ?_| refine And.intro ?_ ?_))
 · obtain rfl:k=l.length:=by omega
   (conv=>whnf);repeat' ((first| intro g| refine st ?_| (first| refine b1 ?_ ?_| refine b2 ?_ ?_| refine Br.mk ?_ ?_) <;>intro hc| exact rfl) <;>conv=>whnf)
theorem xP {l:List Int} (v:Int) (h0:0 <l.length) (h1:l.length< 1000000):Ev E 451 [vi v,.lit 1 (l.map vi)] ⟨Kn.v ⟨v,gj l l.length,dA l l.length,[]⟩,[]⟩:=by
 have e1:=LR h0 h1
 have e2:=LS h0 h1
 refine Ev.cY OB (OC _) rfl ?_
 (conv=>whnf);repeat' ((first| intro g| refine ag.mk _ (e1) ?_| refine ag.mk _ (e2) ?_| refine st ?_| (first| refine b1 ?_ ?_| refine b2 ?_ ?_| refine Br.mk ?_ ?_) <;>intro hc| exact rfl) <;>conv=>whnf)
end Go.AM
set_option maxRecDepth 20000
namespace Go.AM
theorem dW (l:List eX):V.aq (l.map V.str)=true:=AM.cr (fun _=>rfl) l
def iD (S:List eX):Nat→List eX
 | 0=> []
 | t+1=>if 0 <t∧S.getD t []=S.getD (t - 1) [] then iD S t else iD S t++[S.getD t []]
def nr (S:List eX):List eX:=iD S S.length
theorem xQ (S:List eX): ∀t,(iD S t).length≤t
 | 0=>Nat.le_refl _
 | t+1=>by
   have:=xQ S t
   unfold iD;split
   · omega
   · simp;omega
def eQ (S:List eX):List eX:=nr S++List.replicate (S.length - (nr S).length) []
set_option maxHeartbeats 4000000 in
theorem zp {S:List eX} (hl:S.length< 1000000):Ev E 464 [.msl 1 (S.map V.str) 0 S.length] ⟨.sl 0 0 0 (nr S).length,[(0,(eQ S).map V.str)]⟩:=by
 have same:nr S=S→eQ S=S:=fun h=>by unfold eQ;rw[h];simp
 refine Ev.cY Py (Pz _) rfl ?_
 by_cases h2:S.length< 2
 · have hs:nr S=S:=by
     cases S with
     | nil=>rfl
     | cons a S=>cases S with
       | nil=>rfl
       | cons b S=>simp at h2;omega
   rw[same hs,hs]
   (conv=>whnf);repeat' ((first| intro g| refine st ?_| (first| refine b1 ?_ ?_| refine b2 ?_ ?_| refine Br.mk ?_ ?_) <;>intro hc| exact rfl) <;>conv=>whnf)
 (conv=>whnf);repeat' ((first| intro g| refine st ?_| (first| refine b1 ?_ ?_| refine b2 ?_ ?_| refine Br.mk ?_ ?_) <;>intro hc| exact rfl) <;>conv=>whnf)
 refine ba.by (fun (k:Nat)=> ⟨[(0,.sl 0 0 0 S.length),(3,aT k)],[(0,⟨0,1,true,false,some (S.map V.str)⟩)]⟩) (fun k=>1≤k∧k≤S.length∧iD S k=S.take k) (fun k=>S.length - k) 1 (by(refine⟨?_,?_⟩ <;>repeat' (first| exact True.intro| refine ai ?_| refine And.intro ?_ ?_))) ?_ ?_
 · refine⟨Nat.le_refl _,by omega,?_⟩
   cases S with
   | nil=>simp at h2
   | cons a S=>simp[iD]
 rintro k ⟨vC,hk,jX⟩
 try dsimp only at vC hk jX
 by_cases bA:k<S.length
 · obtain⟨x,hx⟩: ∃x,S[k]? =some x:=⟨_,aJ bA⟩
   obtain⟨y,hy⟩: ∃y,S[k - 1]? =some y:=⟨_,aJ (by omega)⟩
   have dG:S.getD k []=x:=by simp[List.getD_eq_getElem?_getD,hx]
   have Mv:S.getD (k - 1) []=y:=by simp[List.getD_eq_getElem?_getD,hy]
   have hw:IntKind.i64.wrap ((k:Int) - 1)=((k - 1:Nat):Int):=(wrap64 (by omega) (by omega)).trans (by omega)
   by_cases D5:x=y
   · have DT:iD S (k+1)=iD S k:=by rw[iD,if_pos ⟨by omega,by rw[dG,Mv,D5]⟩]
     (conv=>whnf);repeat' ((first| intro g| refine aL.mk _ (au hx rfl) ?_| refine aL.mk _ (au hy hw) ?_| refine st ?_| (first| refine b1 ?_ ?_| refine b2 ?_ ?_| refine Br.mk ?_ ?_) <;>intro hc| exact rfl) <;>conv=>whnf)
     obtain⟨k,rfl⟩: ∃k',k=k'+1:=⟨k - 1,by omega⟩
     refine ba.by (fun ((w,j,A):Nat×Nat×List eX)=> ⟨[(0,.sl 0 0 0 S.length),(3,aT w),(4,.sl 0 0 (k+1) (S.length - (k+1))),(5,aT j)],[(0,⟨0,1,true,false,some (A.map V.str)⟩)]⟩)
       (fun (w,j,A)=>1≤w∧1≤j∧k+1+j≤S.length∧w≤k+j∧A.length=S.length∧A.take w=iD S (k+1+j)∧(iD S (k+1+j)).length=w∧ ∀i,k+j≤i→A[i]? =S[i]?) (fun (_,j,_)=>S.length - j) (k+1,1,S) ?_ ?_ ?_
     · (refine⟨?_,?_⟩ <;>repeat' (first| exact True.intro| refine And.intro ((by(conv=>whnf);simp)) ?_| refine ai ?_| refine And.intro ?_ ?_))
     · refine⟨vC,Nat.le_refl _,by omega,by omega,rfl,by rw[DT,jX],by rw[DT,jX];simp;omega,fun _ _=>rfl⟩
     rintro⟨w,j,A⟩ ⟨CC,Z3,Z4,Z5,Xa,Ui,vN,Uj⟩
     try dsimp only at CC Z3 Z4 Z5 Xa Ui vN Uj
     clear jX DT hx hy dG Mv same
     by_cases fJ:k+1+j<S.length
     · obtain⟨x',zY⟩: ∃x,S[k+1+j]? =some x:=⟨_,aJ fJ⟩
       obtain⟨y',BY⟩: ∃y,S[k+j]? =some y:=⟨_,aJ (by omega)⟩
       have dG:S.getD (k+1+j) []=x':=by simp[List.getD_eq_getElem?_getD,zY]
       have Mv:S.getD (k+1+j - 1) []=y':=by rw[show k+1+j - 1=k+j by omega];simp[List.getD_eq_getElem?_getD,BY]
       have Z6:A[k+1+j]? =some x':=by rw[Uj _ (by omega),zY]
       have Z7:A[k+j]? =some y':=by rw[Uj _ (by omega),BY]
       have wk:IntKind.i64.wrap ((j:Int) - 1)=((j - 1:Nat):Int):=(wrap64 (by omega) (by omega)).trans (by omega)
       clear zY BY
       have r1: (A.map V.str)[k+1+(j:Int).toNat]? =some (.str x'):=by simp[Z6]
       have r2: (A.map V.str)[k+1+(IntKind.i64.wrap ((j:Int) - 1)).toNat]? =some (.str y'):=by
         rw[wk,show k+1+((j - 1:Nat):Int).toNat=k+j by omega];simp[Z7]
       have Z8: (j:Int) < ((S.length - (k+1):Nat):Int):=by omega
       by_cases Uk:x'=y'
       · have DT:iD S (k+1+j+1)=iD S (k+1+j):=by rw[iD,if_pos ⟨by omega,by rw[dG,Mv,Uk]⟩]
         (conv=>whnf);repeat' ((first| intro g| refine aL.mk _ (r1) ?_| refine aL.mk _ (r2) ?_| refine st ?_| (first| refine b1 ?_ ?_| refine b2 ?_ ?_| refine Br.mk ?_ ?_) <;>intro hc| exact rfl) <;>conv=>whnf)
         have hs:k+1+(j+1)=k+1+j+1:=by omega
         exact bI.mk (w,j+1,A) (by first| omega| (dsimp only;omega)) ⟨CC,by omega,by omega,by omega,Xa,by rw[hs,DT,Ui],by rw[hs,DT,vN],fun i hi=>Uj i (by omega)⟩ (by(refine⟨?_,?_⟩ <;>repeat' (first| exact True.intro| refine ai ?_| refine And.intro ?_ ?_)))
       · have DT:iD S (k+1+j+1)=iD S (k+1+j)++[x']:=by
          rw[iD,if_neg (fun h=>Uk (by rw[←dG,←Mv,h.2])),dG]
         (conv=>whnf);repeat' ((first| intro g| refine aL.mk _ (r1) ?_| refine aL.mk _ (r2) ?_| refine st ?_| (first| refine b1 ?_ ?_| refine b2 ?_ ?_| refine Br.mk ?_ ?_) <;>intro hc| exact rfl) <;>conv=>whnf)
         have hs:k+1+(j+1)=k+1+j+1:=by omega
         have mZ:w<A.length:=by omega
         have mh: (A.map V.str).set (w:Int).toNat (.str x')=(A.set w x').map V.str:=by simp[List.map_set]
         refine bI.mk (w+1,j+1,A.set w x') (by first| omega| (dsimp only;omega)) ⟨by omega,by omega,by omega,by omega,by simpa using Xa,?_,by rw[hs,DT,List.length_append,vN];rfl,fun i hi=> ?_⟩ (by(refine⟨?_,?_⟩ <;>repeat' (first| exact True.intro| refine And.intro ((by(conv=>whnf);rw[mh])) ?_| refine ai ?_| refine And.intro ?_ ?_)))
         · rw[hs,DT,List.take_add_one,List.take_set_of_le (Nat.le_refl _),Ui];simp[mZ]
         · rw[List.getElem?_set_ne (by omega)];exact Uj i (by omega)
     · have Xb:k+1+j=S.length:=by omega
       rw[Xb] at Ui vN
       have LU: (nr S).length=w:=vN
       have Me:overwrite (A.map V.str) (0+(w:Int).toNat) (List.replicate (S.length - (w:Int).toNat) (V.str []))=(eQ S).map V.str:=by
         have e1: (w:Int).toNat=w:=by simp
         unfold overwrite eQ
         rw[e1,Nat.zero_add,←List.map_take,Ui,LU,List.drop_of_length_le (by simp;omega)]
         simp[nr]
       have UW: (eQ S).length=S.length:=by unfold eQ;simp[LU];omega
       rw[LU]
       (conv=>whnf);repeat' ((first| intro g| refine dC.mk (⟨Nat.zero_le _,by rw[Me];simp[UW];omega⟩) ?_| refine st ?_| (first| refine b1 ?_ ?_| refine b2 ?_ ?_| refine Br.mk ?_ ?_) <;>intro hc| exact rfl) <;>conv=>whnf)
       rw[Me]
       have hvp:=dW (eQ S)
       (conv=>whnf);repeat' ((first| intro g| refine st ?_| (first| refine b1 ?_ ?_| refine b2 ?_ ?_| refine Br.mk ?_ ?_) <;>intro hc| exact rfl) <;>conv=>whnf)
   · have DT:iD S (k+1)=S.take (k+1):=by
       rw[iD,if_neg (fun h=>D5 (by rw[←dG,←Mv,h.2])),jX,dG,List.take_add_one,hx];rfl
     (conv=>whnf);repeat' ((first| intro g| refine aL.mk _ (au hx rfl) ?_| refine aL.mk _ (au hy hw) ?_| refine st ?_| (first| refine b1 ?_ ?_| refine b2 ?_ ?_| refine Br.mk ?_ ?_) <;>intro hc| exact rfl) <;>conv=>whnf)
     exact bI.mk (k+1) (by first| omega| (dsimp only;omega)) ⟨by omega,by omega,DT⟩ (by(refine⟨?_,?_⟩ <;>repeat' (first| exact True.intro| refine ai ?_| refine And.intro ?_ ?_)))
 · obtain rfl:k=S.length:=by omega
   have hs:nr S=S:=by unfold nr;rw[jX];simp
   rw[same hs,hs]
   (conv=>whnf);repeat' ((first| intro g| refine st ?_| (first| refine b1 ?_ ?_| refine b2 ?_ ?_| refine Br.mk ?_ ?_) <;>intro hc| exact rfl) <;>conv=>whnf)
theorem Gf {l:List eX} (h:l.length< 1000000):Ev E 463 [.msl 1 (l.map V.str) 0 l.length] ⟨.tuple [],[(0,(iV l).map V.str)]⟩:=
 Ev.ext (by
  rw[Px]
  have hl:l.length< 4611686018427387904:=by omega
  simp only[sh,List.length_map,if_true,sg,if_pos hl])
theorem ng (l:List eX): (iV l).length=l.length:=by
 rw[←wv];simp
def Mt (l:List eX):List eX:=nr (iV l)
theorem wi (S:List eX): (nr S).length≤S.length:=xQ S S.length
theorem zr (S:List eX): (eQ S).length=S.length:=by
 have:=wi S
 simp[eQ];omega
theorem Gg (S:List eX):aH ((eQ S).map V.str) 0 (nr S).length=(nr S).map V.str:=by
 unfold eQ
 rw[List.map_append]
 exact vu rfl
theorem xR (S:List eX):0+(nr S).length≤((eQ S).map V.str).length∧V.aq (aH ((eQ S).map V.str) 0 (nr S).length)=true:=
 ⟨by have:=wi S;have:=zr S;simp;omega,lY (dW _)⟩
set_option maxHeartbeats 2000000 in
theorem DU {l:List eX} (v:Int) (h:l.length< 1000000):Ev E 455 [vi v,.msl 1 (l.map V.str) 0 l.length] ⟨.agg [vi v,vi 0,vi 0,.sl 1 0 0 (Mt l).length],[(0,(eQ (iV l)).map V.str)]⟩:=by
 have h1:=Gf h
 have h2:=zp (S:=iV l) (by rw[ng];exact h)
 rw[ng] at h2
 have hp:=dW l
 have Fo:=dW (iV l)
 have Fq:=dW (eQ (iV l))
 refine Ev.cY OJ (OK _) rfl ?_
 (conv=>whnf);repeat' ((first| intro g| refine dC.mk (⟨rfl,rfl,rfl,by simp[ng],dW _⟩) ?_| refine dC.mk (xR _) ?_| refine ag.mk _ (h1) ?_| refine ag.mk _ (h2) ?_| refine st ?_| (first| refine b1 ?_ ?_| refine b2 ?_ ?_| refine Br.mk ?_ ?_) <;>intro hc| exact rfl) <;>conv=>whnf)
end Go.AM
set_option maxRecDepth 20000
namespace Go.AM
def zm (v:Vw):Prop:=(v.ux≤1024∧v.uy≤1024∧ -1024≤v.ux∧ -1024≤v.uy)∧1≤Hc v.ux v.uy∧Hc v.ux v.uy≤1048576∧0≤v.hour∧v.hour≤23
instance (v:Vw):Decidable (zm v):=by unfold zm;infer_instance
theorem Ul {v:Vw} {b:Bool} (h:b=false) (k: ¬zm v): (⟨.bool b,[]⟩:fh)=⟨.bool (decide (zm v)),[]⟩:=by rw[h,decide_eq_false k]
theorem Um {v:Vw} {b:Bool} (h:b=true↔zm v): (⟨.bool b,[]⟩:fh)=⟨.bool (decide (zm v)),[]⟩:=by
 congr 2
 rw[Bool.eq_iff_iff,h,decide_eq_true_eq]
theorem Am (v:Vw):Ev E 456 [v.v] ⟨.bool (decide (zm v)),[]⟩:=by
 have hq:=DS v.ux v.uy
 refine Ev.cY OL (OM _) rfl ?_
 (conv=>whnf);repeat' ((first| intro g| refine ag.mk _ (hq) ?_| refine st ?_| (first| refine b1 ?_ ?_| refine b2 ?_ ?_| refine Br.mk ?_ ?_) <;>intro hc| exact rfl| (exact Ul rfl (fun h=>by unfold zm at h;omega))) <;>conv=>whnf)
 refine Um ?_
 unfold zm
 simp only[decide_eq_true_eq]
 omega
theorem pN {ks:List Kn} (hl:ks.length< 1000000) (ht: ∀k ∈ ks,k.texts.length< 1000000):Ev E 446 [.lit 4 (ks.map Kn.v),.lit 4 (ks.map Kn.v)] ⟨.bool true,[]⟩:=by
 refine Ev.cY Ot (Ou _) rfl ?_
 (conv=>whnf);repeat' ((first| intro g| refine st ?_| (first| refine b1 ?_ ?_| refine b2 ?_ ?_| refine Br.mk ?_ ?_) <;>intro hc| exact rfl) <;>conv=>whnf)
 refine ba.by (fun k:Nat=> ⟨[(0,.lit 4 (ks.map Kn.v)),(1,.lit 4 (ks.map Kn.v)),(5,aT k)],[]⟩) (fun k=>k≤ks.length) (fun k=>ks.length - k) 0 (by(refine⟨?_,?_⟩ <;>repeat' (first| exact True.intro| refine ai ?_| refine And.intro ?_ ?_))) (by omega) ?_
 rintro k hk
 by_cases bA:k<ks.length
 · obtain⟨x,hx⟩: ∃x,ks[k]? =some x:=⟨_,aJ bA⟩
   have hxt:=ht x (List.mem_of_getElem? hx)
   (conv=>whnf);repeat' ((first| intro g| refine aL.mk _ (au hx rfl) ?_| refine st ?_| (first| refine b1 ?_ ?_| refine b2 ?_ ?_| refine Br.mk ?_ ?_) <;>intro hc| exact rfl) <;>conv=>whnf)
   refine ba.by (fun i:Nat=> ⟨[(0,.lit 4 (ks.map Kn.v)),(1,.lit 4 (ks.map Kn.v)),(5,aT k),(6,aT i)],[]⟩) (fun i=>i≤x.texts.length) (fun i=>x.texts.length - i) 0 (by(refine⟨?_,?_⟩ <;>repeat' (first| exact True.intro| refine ai ?_| refine And.intro ?_ ?_))) (by omega) ?_
   rintro i hi
   by_cases KC:i<x.texts.length
   · obtain⟨s,hs⟩: ∃s,x.texts[i]? =some s:=⟨_,aJ KC⟩
     (conv=>whnf);repeat' ((first| intro g| refine aL.mk _ (au hx rfl) ?_| refine aL.mk _ (au hs rfl) ?_| refine st ?_| (first| refine b1 ?_ ?_| refine b2 ?_ ?_| refine Br.mk ?_ ?_) <;>intro hc| exact rfl) <;>conv=>whnf)
     refine bI.mk (i+1) (by first| omega| (dsimp only;omega)) ?_ (by(refine⟨?_,?_⟩ <;>repeat' (first| exact True.intro| refine ai ?_| refine And.intro ?_ ?_)))
     omega
   · (conv=>whnf);repeat' ((first| intro g| refine aL.mk _ (au hx rfl) ?_| refine st ?_| (first| refine b1 ?_ ?_| refine b2 ?_ ?_| refine Br.mk ?_ ?_) <;>intro hc| exact rfl) <;>conv=>whnf)
     refine bI.mk (k+1) (by first| omega| (dsimp only;omega)) ?_ (by(refine⟨?_,?_⟩ <;>repeat' (first| exact True.intro| refine ai ?_| refine And.intro ?_ ?_)))
     omega
 · (conv=>whnf);repeat' ((first| intro g| refine st ?_| (first| refine b1 ?_ ?_| refine b2 ?_ ?_| refine Br.mk ?_ ?_) <;>intro hc| exact rfl) <;>conv=>whnf)
end Go.AM
set_option maxRecDepth 20000
namespace Go.AM
def rN (m:br):List En:=m.bp.map DQ++m.ways.map Ge++m.aW.map LQ
theorem LV (x y:Int):Ev E 451 [vi x,.lit 1 [vi y]] ⟨Kn.v ⟨x,y,y,[]⟩,[]⟩:=
 xP (l:=[y]) x (by simp) (by simp)
noncomputable def ie (v:Vw):List Kn:=[⟨7,mK (Hc v.ux v.uy),mK (Hc v.ux v.uy),[]⟩,⟨8,v.hour,v.hour,[]⟩,⟨9,1,1,[]⟩]
def zt (b:Bool):Int:=if b then 1 else 0
theorem tk {α β:Type} {f:α→β} {l:List α} {k:Nat} {x:α} (h:l[k]? =some x): (l.map f).take (k+1)=(l.map f).take k++[f x]:=by
 rw[List.take_add_one];simp[h]
theorem Kn.cr (l:List Kn):V.aq (l.map Kn.v)=true:=
 AM.cr (fun k=>by
  show V.aq [vi k.var,vi k.low,vi k.high,.lit 1 (k.texts.map V.str)]=true
  simp only[V.aq,V.aC,dW,Bool.and_self]) l
def Hd (n:Int):Int:=if n< 255 then 255 else n
noncomputable def vc (A:List En) (v:Vw):List Kn:=
 [⟨1,gj (A.map En.kind) A.length,dA (A.map En.kind) A.length,[]⟩,⟨2,0,0,Mt (A.map En.cls)⟩,⟨3,0,0,Mt (A.map En.name)⟩,⟨4,gj (A.map En.weight) A.length,Hd (dA (A.map En.weight) A.length),[]⟩,
   ⟨5,gj (A.map En.level) A.length,dA (A.map En.level) A.length,[]⟩,⟨6,gj (A.map fun x=>zt x.cZ) A.length,dA (A.map fun x=>zt x.cZ) A.length,[]⟩]++ie v
theorem W6 {v:Vw} (h: ¬zm v) {m:br}:Ev E 447 [m.v,v.v] ⟨.lit 4 [],[]⟩:=by
 have hq:=DR v.ux v.uy
 refine Ev.cY Gs (Gt _) rfl ?_
 (conv=>whnf);repeat' ((first| (exact absurd (by unfold zm;omega) h) | intro g| refine ag.mk _ (hq) ?_| refine st ?_| (first| refine b1 ?_ ?_| refine b2 ?_ ?_| refine Br.mk ?_ ?_) <;>intro hc| exact rfl) <;>conv=>whnf)
end Go.AM
