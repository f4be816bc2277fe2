/-
  Texts of the proof: PValA, PValB, PValC.
-/
import Derived.Test.YtjmcpijpclfakaaGreatIa
import Derived.Test.YtjmcpijpclfakaaGreatPa
import Derived.Test.YtjmcpijpclfakaaGreatHa
import Derived.Test.YtjmcpijpclfakaaGreatKa
set_option maxRecDepth 20000
set_option linter.unusedSimpArgs false
set_option linter.unusedVariables false
namespace Go.AM
def rv (a b:Va):Bool:=decide (a.n=b.n) && (a.b==b.b) &&decide (a.s=b.s)
def afl (op:Int) (x y:Int):Int:=
 if op=8 then dW (oG (x+y)) else if op=9 then dW (oG (x - y)) else if op=10 then dW (oG (x*y)) else if op=11 then cH x y else imax x y
def Iu (op:Int):List Va→Va
 | [a]=> ⟨2,0,!a.b,[]⟩
 | [a,b]=>if op=6 then⟨2,0,rv a b,[]⟩ else if op=4 then⟨2,0,a.b &&b.b,[]⟩ else if op=5 then⟨2,0,a.b || b.b,[]⟩ else if op=7 then⟨2,0,decide (a.n<b.n),[]⟩
   else⟨1,afl op a.n b.n,false,[]⟩
 | [a,b,c]=>bif a.b then b else c
 | _=>aM
def mC (x:b5) (op var:Int) (val:Va) (vs:List Va):Va:=if op=1 then val else if op=2 then x.val var else Iu op vs
mutual
def Ex.eval (x:b5):Ex→Va
 | .mk op var val nl l=>mC x op var val (Ex.Fa x l)
def Ex.Fa (x:b5):List Ex→List Va
 | []=> []
 | e::l=>e.eval x::Ex.Fa x l
end
theorem Ex.Fb (x:b5): ∀l:List Ex,Ex.Fa x l=l.map (Ex.eval x)
 | []=>by simp[Ex.Fa]
 | e::l=>by simp[Ex.Fa,Ex.Fb x l]
theorem Ex.eval_eq (x:b5) (op var:Int) (val:Va) (nl:Bool) (l:List Ex): (Ex.mk op var val nl l).eval x=mC x op var val (l.map (Ex.eval x)):=by
 simp only[Ex.eval,Ex.Fb]
def BN (t:Int) (b:Bd):Prop:=
 (t=1∧ ∃lo hi,b=nb lo hi∧ -1073741824≤lo∧lo≤hi∧hi≤1073741824)∨(t=2∧ ∃lo hi,b=nb lo hi∧0≤lo∧lo≤hi∧hi≤1)∨
 (t=3∧ ∃nl ws,b=⟨0,0,nl,ws,!ws.isEmpty,true⟩)
def bI0 (p:Bool):Int:=bif p then 1 else 0
def o9 (t:Int) (b:Bd) (v:Va):Prop:=
 (t=1∧ ∃n,v=⟨1,n,false,[]⟩∧b.lo≤n∧n≤b.hi)∨(t=2∧ ∃p:Bool,v=⟨2,0,p,[]⟩∧b.lo≤bI0 p∧bI0 p≤b.hi)∨
 (t=3∧ ∃s,v=⟨3,0,false,s⟩∧(b.ws≠[]→s ∈ b.ws))
theorem BN.one {b:Bd} (h:BN 1 b): ∃lo hi,b=nb lo hi∧ -1073741824≤lo∧lo≤hi∧hi≤1073741824:=by
 rcases h with⟨_,h⟩ | ⟨h,_⟩ | ⟨h,_⟩
 · exact h
 · exact absurd h (by decide)
 · exact absurd h (by decide)
theorem BN.two {b:Bd} (h:BN 2 b): ∃lo hi,b=nb lo hi∧0≤lo∧lo≤hi∧hi≤1:=by
 rcases h with⟨h,_⟩ | ⟨_,h⟩ | ⟨h,_⟩
 · exact absurd h (by decide)
 · exact h
 · exact absurd h (by decide)
theorem BN.three {b:Bd} (h:BN 3 b): ∃nl ws,b=⟨0,0,nl,ws,!ws.isEmpty,true⟩:=by
 rcases h with⟨h,_⟩ | ⟨h,_⟩ | ⟨_,h⟩
 · exact absurd h (by decide)
 · exact absurd h (by decide)
 · exact h
theorem o9.one {b:Bd} {v:Va} (h:o9 1 b v): ∃n,v=⟨1,n,false,[]⟩∧b.lo≤n∧n≤b.hi:=by
 rcases h with⟨_,h⟩ | ⟨h,_⟩ | ⟨h,_⟩
 · exact h
 · exact absurd h (by decide)
 · exact absurd h (by decide)
theorem o9.two {b:Bd} {v:Va} (h:o9 2 b v): ∃p:Bool,v=⟨2,0,p,[]⟩∧b.lo≤bI0 p∧bI0 p≤b.hi:=by
 rcases h with⟨h,_⟩ | ⟨_,h⟩ | ⟨h,_⟩
 · exact absurd h (by decide)
 · exact h
 · exact absurd h (by decide)
theorem o9.three {b:Bd} {v:Va} (h:o9 3 b v): ∃s,v=⟨3,0,false,s⟩∧(b.ws≠[]→s ∈ b.ws):=by
 rcases h with⟨h,_⟩ | ⟨h,_⟩ | ⟨_,h⟩
 · exact absurd h (by decide)
 · exact absurd h (by decide)
 · exact h
theorem BN.t {t:Int} {b:Bd} (h:BN t b):t=1∨t=2∨t=3:=by
 rcases h with⟨h,_⟩ | ⟨h,_⟩ | ⟨h,_⟩ <;>omega
theorem Qo {lo hi:Int} (h1: -1073741824≤lo) (h2:lo≤hi) (h3:hi≤1073741824):BN 1 (nb lo hi):= .inl ⟨rfl,lo,hi,rfl,h1,h2,h3⟩
theorem Qp {lo hi:Int} (h1:0≤lo) (h2:lo≤hi) (h3:hi≤1):BN 2 (nb lo hi):= .inr (.inl ⟨rfl,lo,hi,rfl,h1,h2,h3⟩)
theorem Qq {b:Bd} {n:Int} (h1:b.lo≤n) (h2:n≤b.hi):o9 1 b ⟨1,n,false,[]⟩:= .inl ⟨rfl,n,rfl,h1,h2⟩
theorem NO {b:Bd} {p:Bool} (h1:b.lo≤bI0 p) (h2:bI0 p≤b.hi):o9 2 b ⟨2,0,p,[]⟩:= .inr (.inl ⟨rfl,p,rfl,h1,h2⟩)
theorem oD {a b:Int} (h:a≤b):dW a≤dW b:=by
 unfold dW imax cH
 repeat' split
 all_goals omega
theorem zK (a:Int): -1073741824≤dW a:=by
 unfold dW imax cH
 repeat' split
 all_goals omega
theorem zL (a:Int):dW a≤1073741824:=by
 unfold dW imax cH
 repeat' split
 all_goals omega
theorem fQ {n:Int} (h0: -9223372036854775808≤n) (h1:n≤9223372036854775807):oG n=n:=wrap64 h0 h1
theorem oE (a b:Int):cH a b≤a∧cH a b≤b:=by unfold cH;split<;>omega
theorem oF (a b:Int):a≤imax a b∧b≤imax a b:=by unfold imax;split<;>omega
theorem qZ {a b c d:Int} (h:a≤c) (h2:b≤d):cH a b≤cH c d:=by unfold cH;split<;>split<;>omega
theorem q9 {a b c d:Int} (h:a≤c) (h2:b≤d):imax a b≤imax c d:=by unfold imax;split<;>split<;>omega
theorem mD {l h x y:Int} (h1:l≤x) (h2:x≤h): (l*y≤x*y∧x*y≤h*y)∨(h*y≤x*y∧x*y≤l*y):=by
 rcases Int.le_total 0 y with hy| hy
 · exact .inl ⟨Int.mul_le_mul_of_nonneg_right h1 hy,Int.mul_le_mul_of_nonneg_right h2 hy⟩
 · exact .inr ⟨Int.mul_le_mul_of_nonpos_right h2 hy,Int.mul_le_mul_of_nonpos_right h1 hy⟩
theorem xj {a c x b d y:Int} (h1:a≤x) (h2:x≤c) (h3:b≤y) (h4:y≤d):
  cH (cH (cH (a*b) (a*d)) (c*b)) (c*d)≤x*y∧x*y≤imax (imax (imax (a*b) (a*d)) (c*b)) (c*d):=by
 have k1:=mD (y:=y) h1 h2
 have k2:=mD (y:=a) h3 h4
 have k3:=mD (y:=c) h3 h4
 rw[Int.mul_comm b a,Int.mul_comm y a,Int.mul_comm d a] at k2
 rw[Int.mul_comm b c,Int.mul_comm y c,Int.mul_comm d c] at k3
 generalize a*b=p1 at*
 generalize a*d=p2 at*
 generalize c*b=p3 at*
 generalize c*d=p4 at*
 generalize a*y=p5 at*
 generalize c*y=p6 at*
 generalize x*y=p7 at*
 have e1:=oE (cH (cH p1 p2) p3) p4
 have e2:=oE (cH p1 p2) p3
 have e3:=oE p1 p2
 have f1:=oF (imax (imax p1 p2) p3) p4
 have f2:=oF (imax p1 p2) p3
 have f3:=oF p1 p2
 omega
theorem Nj (a b:Int):dW (cH a b)=cH (dW a) (dW b):=by
 unfold dW imax cH
 repeat' split
 all_goals omega
theorem Nk (a b:Int):dW (imax a b)=imax (dW a) (dW b):=by
 unfold dW imax cH
 repeat' split
 all_goals omega
theorem nB {x y:Int} (h1: -1073741824≤x) (h2:x≤1073741824) (h3: -1073741824≤y) (h4:y≤1073741824): -9223372036854775808≤x*y∧x*y≤9223372036854775807:=by
 have k1:=mD (y:=y) h1 h2
 omega
theorem zX (a b c d:Int):least (nb a b) (nb c d)=nb (cH a c) (cH b d):=rfl
theorem qv (a b c d:Int):m8 (nb a b) (nb c d)=nb (imax a c) (imax b d):=rfl
theorem Fc {t:Int} {a b:Bd} (ht:t≠3) (ha:BN t a) (hb:BN t b):BN t (least a b):=by
 rcases ha.t with rfl| rfl| rfl
 · obtain⟨l,h,rfl,h1,h2,h3⟩:=ha.one
   obtain⟨l',h',rfl,k1,k2,k3⟩:=hb.one
   rw[zX]
   refine Qo ?_ (qZ h2 k2) ?_
   · unfold cH;split<;>omega
   · unfold cH;split<;>omega
 · obtain⟨l,h,rfl,h1,h2,h3⟩:=ha.two
   obtain⟨l',h',rfl,k1,k2,k3⟩:=hb.two
   rw[zX]
   refine Qp ?_ (qZ h2 k2) ?_
   · unfold cH;split<;>omega
   · unfold cH;split<;>omega
 · exact absurd rfl ht
theorem xk {t:Int} {a b:Bd} (ht:t≠3) (ha:BN t a) (hb:BN t b):BN t (m8 a b):=by
 rcases ha.t with rfl| rfl| rfl
 · obtain⟨l,h,rfl,h1,h2,h3⟩:=ha.one
   obtain⟨l',h',rfl,k1,k2,k3⟩:=hb.one
   rw[qv]
   refine Qo ?_ (q9 h2 k2) ?_
   · unfold imax;split<;>omega
   · unfold imax;split<;>omega
 · obtain⟨l,h,rfl,h1,h2,h3⟩:=ha.two
   obtain⟨l',h',rfl,k1,k2,k3⟩:=hb.two
   rw[qv]
   refine Qp ?_ (q9 h2 k2) ?_
   · unfold imax;split<;>omega
   · unfold imax;split<;>omega
 · exact absurd rfl ht
theorem Qr {a b:Bd} (ha:BN 1 a) (hb:BN 1 b):BN 1 (plus a b):=by
 obtain⟨l,h,rfl,h1,h2,h3⟩:=ha.one
 obtain⟨l',h',rfl,k1,k2,k3⟩:=hb.one
 show BN 1 (nb (dW (oG (l+l'))) (dW (oG (h+h'))))
 rw[fQ (by omega) (by omega),fQ (by omega) (by omega)]
 exact Qo (zK _) (oD (by omega)) (zL _)
theorem Nl {a b:Bd} (ha:BN 1 a) (hb:BN 1 b):BN 1 (minus a b):=by
 obtain⟨l,h,rfl,h1,h2,h3⟩:=ha.one
 obtain⟨l',h',rfl,k1,k2,k3⟩:=hb.one
 show BN 1 (nb (dW (oG (l - h'))) (dW (oG (h - l'))))
 rw[fQ (by omega) (by omega),fQ (by omega) (by omega)]
 exact Qo (zK _) (oD (by omega)) (zL _)
theorem Fe {l h l' h':Int} (h1: -1073741824≤l) (h2:l≤h) (h3:h≤1073741824) (k1: -1073741824≤l') (k2:l'≤h') (k3:h'≤1073741824):
  times (nb l h) (nb l' h')=nb (dW (cH (cH (cH (l*l') (l*h')) (h*l')) (h*h'))) (dW (imax (imax (imax (l*l') (l*h')) (h*l')) (h*h'))):=by
 have e1:=nB (x:=l) (y:=l') (by omega) (by omega) (by omega) (by omega)
 have e2:=nB (x:=l) (y:=h') (by omega) (by omega) (by omega) (by omega)
 have e3:=nB (x:=h) (y:=l') (by omega) (by omega) (by omega) (by omega)
 have e4:=nB (x:=h) (y:=h') (by omega) (by omega) (by omega) (by omega)
 simp only[times,KZ,K0,nb,fQ e1.1 e1.2,fQ e2.1 e2.2,fQ e3.1 e3.2,fQ e4.1 e4.2,Nj,Nk]
theorem Nm {a b:Bd} (ha:BN 1 a) (hb:BN 1 b):BN 1 (times a b):=by
 obtain⟨l,h,rfl,h1,h2,h3⟩:=ha.one
 obtain⟨l',h',rfl,k1,k2,k3⟩:=hb.one
 rw[Fe h1 h2 h3 k1 k2 k3]
 have:=xj (x:=l) (y:=l') (Int.le_refl _) h2 (Int.le_refl _) k2
 exact Qo (zK _) (oD (by omega)) (zL _)
theorem mE:BN 2 (nb 0 0)∧BN 2 (nb 1 1)∧BN 2 (nb 0 1):=⟨Qp (by decide) (by decide) (by decide),Qp (by decide) (by decide) (by decide),Qp (by decide) (by decide) (by decide)⟩
theorem Qs (a b:Bd):BN 2 (pK a b):=by
 unfold pK
 repeat' split
 all_goals first| exact mE.1| exact mE.2.1| exact mE.2.2
theorem Yu (a b:Bd):BN 2 (tI a b):=by
 unfold tI
 repeat' split
 all_goals first| exact mE.1| exact mE.2.1| exact mE.2.2
theorem Ff {a:List dE}: ∀ {l:List dE},a≠[]→union a l≠[]
 | [],h=>h
 | s::l,h=>by
   unfold union
   refine Ff ?_
   split
   · exact h
   · simp
theorem J8 {t:Int} {a b:Bd} (ha:BN t a) (hb:BN t b):BN t (either a b):=by
 rcases ha.t with rfl| rfl| rfl
 · obtain⟨l,h,rfl,h1,h2,h3⟩:=ha.one
   obtain⟨l',h',rfl,k1,k2,k3⟩:=hb.one
   show BN 1 (nb (cH l l') (imax h h'))
   refine Qo ?_ ?_ ?_
   · unfold cH;split<;>omega
   · unfold cH imax;split<;>split<;>omega
   · unfold imax;split<;>omega
 · obtain⟨l,h,rfl,h1,h2,h3⟩:=ha.two
   obtain⟨l',h',rfl,k1,k2,k3⟩:=hb.two
   show BN 2 (nb (cH l l') (imax h h'))
   refine Qp ?_ ?_ ?_
   · unfold cH;split<;>omega
   · unfold cH imax;split<;>split<;>omega
   · unfold imax;split<;>omega
 · obtain⟨nl,ws,rfl⟩:=ha.three
   obtain⟨Cj,kU,rfl⟩:=hb.three
   refine .inr (.inr ⟨rfl,?_⟩)
   simp only[either]
   cases ws with
   | nil=>exact⟨false,[],by simp⟩
   | cons w ws=>
     cases kU with
     | nil=>exact⟨false,[],by simp⟩
     | cons w' kU=>
       refine⟨false,union (w::ws) (w'::kU),?_⟩
       have:=Ff (a:=w::ws) (l:=w'::kU) (by simp)
       simp[this]
theorem Sa {v:Int} (h:cI v≠0):cI v=1∨cI v=2∨cI v=3:=by
 unfold cI at h ⊢
 repeat' split
 all_goals first| omega| (simp_all;done)
theorem Ig {K:Int→Bd} (hK: ∀v,cI v≠0→BN (cI v) (K v)): ∀ (k:Nat) (e:Ex),e.size≤k→e.b4≠0→BN e.b4 (e.bd K)
 | 0,e,hk,_=>by have:=e.size_pos;omega
 | k+1,.mk op var val nl l,hk,ht=>by
   have ih:=Ig hK k
   rw[Ex.nc]
   simp only[Ex.size] at hk
   rcases eT ht with⟨rfl,rfl,rfl,hr,hT⟩ | ⟨rfl,rfl,rfl,hv,hT⟩ | ⟨x,rfl,rfl,rfl,rfl,hx,hT⟩ | ⟨x,y,ho,rfl,rfl,rfl,hx,hy,hT3,h6,HK,h7,h8⟩ | ⟨x,y,z,rfl,rfl,rfl,rfl,hx,hy,hz,hT⟩
   · rw[ hT]
     simp only[List.map_nil,cS,if_true]
     unfold Va.right at hr
     unfold gK
     split at hr
     · rename_i e
       rw[if_neg (by omega),if_neg (by omega),e]
       simp at hr
       exact Qo (by omega) (by omega) (by omega)
     · split at hr
       · rename_i e
         rw[if_neg (by omega),if_pos e,e]
         cases val.b
         · exact mE.1
         · exact mE.2.1
       · split at hr
         · rename_i e
           rw[if_pos e,e]
           exact .inr (.inr ⟨rfl,false,_,rfl⟩)
         · cases hr
   · rw[hT]
     simp only[List.map_nil,cS]
     exact hK var hv
   · simp only[Ex.bK] at hk
     have hb:=ih x (by omega) (by omega)
     rw[hT]
     rw[hx] at hb
     simp only[List.map_cons,List.map_nil,cS]
     obtain⟨lo,hi,e,h1,h2,h3⟩:=hb.two
     rw[e]
     show BN 2 (nb (oG (1 - hi)) (oG (1 - lo)))
     rw[fQ (by omega) (by omega),fQ (by omega) (by omega)]
     exact Qp (by omega) (by omega) (by omega)
   · simp only[Ex.bK] at hk
     have Iv:=ih x (by omega) hx
     have yR:=ih y (by omega) hy
     simp only[List.map_cons,List.map_nil,cS]
     have vB:op=4∨op=5∨op=6∨op=7∨op=8∨op=9∨op=10∨op=11∨op=12:=by omega
     rcases vB with rfl| rfl| rfl| rfl| rfl| rfl| rfl| rfl| rfl
     · obtain⟨e1,e2,e3⟩:=HK (.inl rfl)
       rw[e3];rw[e1] at Iv;rw[e2] at yR
       exact Fc (by decide) Iv yR
     · obtain⟨e1,e2,e3⟩:=HK (.inr rfl)
       rw[e3];rw[e1] at Iv;rw[e2] at yR
       exact xk (by decide) Iv yR
     · rw[(h6 rfl).2]
       exact Yu _ _
     · rw[(h7 rfl).2.2]
       exact Qs _ _
     · obtain⟨e1,e2,e3⟩:=h8 (by decide)
       rw[e3];rw[e1] at Iv;rw[e2] at yR
       exact Qr Iv yR
     · obtain⟨e1,e2,e3⟩:=h8 (by decide)
       rw[e3];rw[e1] at Iv;rw[e2] at yR
       exact Nl Iv yR
     · obtain⟨e1,e2,e3⟩:=h8 (by decide)
       rw[e3];rw[e1] at Iv;rw[e2] at yR
       exact Nm Iv yR
     · obtain⟨e1,e2,e3⟩:=h8 (by decide)
       rw[e3];rw[e1] at Iv;rw[e2] at yR
       exact Fc (by decide) Iv yR
     · obtain⟨e1,e2,e3⟩:=h8 (by decide)
       rw[e3];rw[e1] at Iv;rw[e2] at yR
       exact xk (by decide) Iv yR
   · simp only[Ex.bK] at hk
     have yR:=ih y (by omega) hy
     have Eo:=ih z (by omega) (by omega)
     rw[hT]
     rw[hz] at Eo
     simp only[List.map_cons,List.map_nil,cS]
     split
     · exact yR
     · split
       · exact Eo
       · exact J8 yR Eo
theorem BK (v:Int): ∀ (l:List bH) (a:Int),a≤lF v l a
 | [],a=>Int.le_refl _
 | k::l,a=>by
   refine Int.le_trans ?_ (BK v l (if k.var=v then imax a k.lo else a))
   split
   · exact(oF _ _).1
   · exact Int.le_refl _
theorem BL (v:Int): ∀ (l:List bH) (a:Int),lG v l a≤a
 | [],a=>Int.le_refl _
 | k::l,a=>by
   refine Int.le_trans (BL v l (if k.var=v then cH a k.hi else a)) ?_
   split
   · exact(oE _ _).1
   · exact Int.le_refl _
theorem C4 (l:List bH) (v:Int) (h:cI v≠0):BN (cI v) (aH l v):=by
 unfold aH
 have h1:=BK v l (iM v)
 have h2:=BL v l (toV v)
 rcases Sa h with e| e| e
 · rw[if_neg (by omega),e]
   have f:iM v= -1073741824:=by unfold iM;rw[if_neg (by omega)]
   have g:toV v=1073741824:=by unfold toV;rw[if_neg (by omega)]
   unfold pL
   rw[f] at h1;rw[g] at h2;rw[f,g]
   split
   · exact Qo (by decide) (by decide) (by decide)
   · exact Qo (by omega) (by omega) (by omega)
 · rw[if_neg (by omega),e]
   have f:iM v=0:=by unfold iM;rw[if_pos e]
   have g:toV v=1:=by unfold toV;rw[if_pos e]
   unfold pL
   rw[f] at h1;rw[g] at h2;rw[f,g]
   split
   · exact Qp (by decide) (by decide) (by decide)
   · exact Qp (by omega) (by omega) (by omega)
 · rw[if_pos e,e]
   exact .inr (.inr ⟨rfl,true,_,rfl⟩)
theorem wk {v n:Int}: ∀ {l:List bH} {a:Int},a≤n→(∀k ∈ l,k.var=v→k.lo≤n)→lF v l a≤n
 | [],a,h,_=>h
 | k::l,a,h,hk=>by
   refine wk (l:=l) (a:=if k.var=v then imax a k.lo else a) ?_ (fun k' Hu=>hk k' (by simp[Hu]))
   split
   · rename_i e
     have:=hk k (by simp) e
     unfold imax;split<;>omega
   · exact h
theorem wo {v n:Int}: ∀ {l:List bH} {a:Int},n≤a→(∀k ∈ l,k.var=v→n≤k.hi)→n≤lG v l a
 | [],a,h,_=>h
 | k::l,a,h,hk=>by
   refine wo (l:=l) (a:=if k.var=v then cH a k.hi else a) ?_ (fun k' Hu=>hk k' (by simp[Hu]))
   split
   · rename_i e
     have:=hk k (by simp) e
     unfold cH;split<;>omega
   · exact h
theorem ra {s:dE}: ∀ {l a:List dE},s ∈ a∨s ∈ l→s ∈ union a l
 | [],a,h=>by simpa [union] using h
 | x::l,a,h=>by
   unfold union
   refine ra ?_
   rcases h with h| h
   · left;split
     · exact h
     · simp[h]
   · rcases List.mem_cons.1 h with rfl| h
     · left;split
       · assumption
       · simp
     · exact .inr h
theorem Qt (x:b5) {v:Int} (h:cI v=1): ∃n,x.val v=⟨1,n,false,[]⟩∧ -1073741824≤n∧n≤1073741824:=by
 unfold cI at h
 unfold b5.val
 repeat' split
 all_goals first
  | exact⟨_,rfl,zK _,zL _⟩
  | (subst_vars;simp at h;done)
  | (exfalso;simp_all)
theorem It {l:List bH} {x:b5} (hf:l.all (lW x)=true) (v:Int) (h:cI v≠0):o9 (cI v) (aH l v) (x.val v):=by
 rw[List.all_eq_true] at hf
 unfold aH
 rcases Sa h with e| e| e
 · rw[if_neg (by omega),e]
   obtain⟨n,hn,h1,h2⟩:=Qt x e
   rw[hn]
   have f:iM v= -1073741824:=by unfold iM;rw[if_neg (by omega)]
   have g:toV v=1073741824:=by unfold toV;rw[if_neg (by omega)]
   have hk: ∀k ∈ l,k.var=v→k.lo≤n∧n≤k.hi:=by
     intro k hk hv
     have:=hf k hk
     unfold lW at this
     rw[hv,if_neg (by omega),if_neg (by omega),hn] at this
     simp only[Ax,cond_false,Bool.not_eq_true',Bool.or_eq_false_iff,decide_eq_false_iff_not] at this
     have p:=of_decide_eq_false this.1
     have q:=of_decide_eq_false this.2
     exact⟨by omega,by omega⟩
   have p1:=wk (a:=iM v) (l:=l) (n:=n) (by omega) (fun k Hu hv=> (hk k Hu hv).1)
   have p2:=wo (a:=toV v) (l:=l) (n:=n) (by omega) (fun k Hu hv=> (hk k Hu hv).2)
   unfold pL
   rw[if_neg (by omega)]
   exact Qq p1 p2
 · rw[if_neg (by omega),e]
   obtain⟨p,hn⟩: ∃p,x.val v=⟨2,0,p,[]⟩:=by
     rcases wh x h with⟨h1,_⟩ | ⟨_,h1⟩ | ⟨h1,_⟩
     · omega
     · exact h1
     · omega
   rw[hn]
   have f:iM v=0:=by unfold iM;rw[if_pos e]
   have g:toV v=1:=by unfold toV;rw[if_pos e]
   have hb:0≤bI0 p∧bI0 p≤1:=by cases p<;>decide
   have hk: ∀k ∈ l,k.var=v→k.lo≤bI0 p∧bI0 p≤k.hi:=by
     intro k hk hv
     have:=hf k hk
     unfold lW at this
     rw[hv,if_neg (by omega),if_neg (by omega),hn] at this
     simp only[Ax] at this
     change (!(decide (bI0 p<k.lo) || decide (k.hi<bI0 p)))=true at this
     simp only[Bool.not_eq_true',Bool.or_eq_false_iff,decide_eq_false_iff_not] at this
     exact⟨by omega,by omega⟩
   have p1:=wk (a:=iM v) (l:=l) (n:=bI0 p) (by omega) (fun k Hu hv=> (hk k Hu hv).1)
   have p2:=wo (a:=toV v) (l:=l) (n:=bI0 p) (by omega) (fun k Hu hv=> (hk k Hu hv).2)
   unfold pL
   rw[if_neg (by omega)]
   exact NO p1 p2
 · rw[if_pos e,e]
   obtain⟨s,hn⟩: ∃s,x.val v=⟨3,0,false,s⟩:=by
     rcases wh x h with⟨h1,_⟩ | ⟨h1,_⟩ | ⟨_,h1⟩
     · omega
     · omega
     · exact h1
   refine .inr (.inr ⟨rfl,s,hn,?_⟩)
   have hk: ∀k ∈ cY v l,s ∈ k.texts:=by
     intro k hk
     simp only[cY,List.mem_filter,decide_eq_true_eq] at hk
     have:=hf k hk.1
     unfold lW at this
     rw[hk.2,if_neg (by omega),if_pos e,hn] at this
     simpa using this
   simp only[jc]
   intro cu
   generalize cY v l=own at*
   cases own with
   | nil=>exact absurd rfl cu
   | cons k own=>
     refine ra (.inr ?_)
     rw[List.mem_filter]
     refine⟨hk k (by simp),?_⟩
     rw[common,List.all_eq_true]
     intro k' Hu
     simpa using hk k' Hu
end Go.AM
namespace Go.AM
theorem Qu (l h l' h':Int):tI (nb l h) (nb l' h')=if h<l'∨h'<l then nb 0 0 else if l=h∧l'=h' then nb 1 1 else nb 0 1:=by
 unfold tI
 rw[if_neg (by simp[nb])]
 rfl
theorem Nn {l h l' h' n m:Int} {q:Bool} (hq:q=true↔n=m) (i1:l≤n) (i2:n≤h) (j1:l'≤m) (j2:m≤h'): (tI (nb l h) (nb l' h')).lo≤bI0 q∧bI0 q≤(tI (nb l h) (nb l' h')).hi:=by
 rw[Qu]
 by_cases c1:h<l'∨h'<l
 · rw[if_pos c1]
   have:q=false:=by
     cases q
     · rfl
     · exact absurd (hq.1 rfl) (by omega)
   subst this
   exact⟨by decide,by decide⟩
 · rw[if_neg c1]
   by_cases c2:l=h∧l'=h'
   · rw[if_pos c2]
     have:q=true:=hq.2 (by omega)
     subst this
     exact⟨by decide,by decide⟩
   · rw[if_neg c2]
     cases q<;>exact⟨by decide,by decide⟩
theorem No {l h l' h' n m:Int} {q:Bool} (hq:q=true↔n<m) (i1:l≤n) (i2:n≤h) (j1:l'≤m) (j2:m≤h'): (pK (nb l h) (nb l' h')).lo≤bI0 q∧bI0 q≤(pK (nb l h) (nb l' h')).hi:=by
 have e:pK (nb l h) (nb l' h')=if h<l' then nb 1 1 else if h'≤l then nb 0 0 else nb 0 1:=rfl
 rw[e]
 by_cases c1:h<l'
 · rw[if_pos c1]
   have:q=true:=hq.2 (by omega)
   subst this
   exact⟨by decide,by decide⟩
 · rw[if_neg c1]
   by_cases c2:h'≤l
   · rw[if_pos c2]
     have:q=false:=by
      cases q
      · rfl
      · exact absurd (hq.1 rfl) (by omega)
     subst this
     exact⟨by decide,by decide⟩
   · rw[if_neg c2]
     cases q<;>exact⟨by decide,by decide⟩
theorem zY {x:b5} {op var:Int} {val:Va} {vs:List Va} (h1:op≠1) (h2:op≠2):mC x op var val vs=Iu op vs:=by
 unfold mC
 rw[if_neg h1,if_neg h2]
theorem Yv {t:Int} {a b:Bd} {u v:Va} (ha:BN t a) (hb:BN t b) (hu:o9 t a u) (hv:o9 t b v): (tI a b).lo≤bI0 (rv u v)∧bI0 (rv u v)≤(tI a b).hi:=by
 rcases ha.t with rfl| rfl| rfl
 · obtain⟨l,h,rfl,h1,h2,h3⟩:=ha.one
   obtain⟨l',h',rfl,k1,k2,k3⟩:=hb.one
   obtain⟨n,rfl,i1,i2⟩:=hu.one
   obtain⟨m,rfl,j1,j2⟩:=hv.one
   exact Nn (n:=n) (m:=m) (by simp[rv]) i1 i2 j1 j2
 · obtain⟨l,h,rfl,h1,h2,h3⟩:=ha.two
   obtain⟨l',h',rfl,k1,k2,k3⟩:=hb.two
   obtain⟨p,rfl,i1,i2⟩:=hu.two
   obtain⟨q,rfl,j1,j2⟩:=hv.two
   exact Nn (n:=bI0 p) (m:=bI0 q) (by cases p<;>cases q<;>simp[rv,bI0]) i1 i2 j1 j2
 · obtain⟨ nl,ws,rfl⟩:=ha.three
   obtain⟨Cj,kU,rfl⟩:=hb.three
   obtain⟨s,rfl,i1⟩:=hu.three
   obtain⟨r,rfl,j1⟩:=hv.three
   have e:rv ⟨3,0,false,s⟩ ⟨3,0,false,r⟩=decide (s=r):=by simp[rv]
   rw[e]
   simp only at i1 j1
   have Ad:0≤bI0 (decide (s=r))∧bI0 (decide (s=r))≤1:=by cases decide (s=r) <;>decide
   simp only[tI,if_true]
   split
   · rename_i hs
     have hw:ws≠[]∧kU≠[]:=by
       cases ws<;>cases kU<;>simp at hs ⊢
     have i2:=i1 hw.1
     have j2:=j1 hw.2
     split
     · rename_i Qv
       split
       · rename_i hl
         match ws,kU,hl,i2,j2 with
         | [a],[b],_,i2,j2=>
           simp at i2 j2 Qv
           subst i2;subst j2;subst Qv
           simp[bI0,nb]
       · simp only[nb];exact Ad
     · rename_i Qv
       have:s≠r:=by
         rintro rfl
         refine Qv (List.any_eq_true.2 ⟨s,i2,by simpa using j2⟩)
       simp[this,bI0,nb]
   · simp only[nb];exact Ad
theorem BM {t:Int} {a b:Bd} {u:Va} (ha:BN t a) (hb:BN t b) (hu:o9 t a u∨o9 t b u):o9 t (either a b) u:=by
 rcases ha.t with rfl| rfl| rfl
 · obtain⟨l,h,rfl,h1,h2,h3⟩:=ha.one
   obtain⟨l',h',rfl,k1,k2,k3⟩:=hb.one
   have m1:=oE l l'
   have m2:=oF h h'
   rcases hu with hu| hu
   · obtain⟨n,rfl,i1,i2⟩:=hu.one
     simp only[nb] at i1 i2
     show o9 1 (nb (cH l l') (imax h h')) _
     exact Qq (by simp only[nb];omega) (by simp only[nb];omega)
   · obtain⟨n,rfl,i1,i2⟩:=hu.one
     simp only[nb] at i1 i2
     show o9 1 (nb (cH l l') (imax h h')) _
     exact Qq (by simp only[nb];omega) (by simp only[nb];omega)
 · obtain⟨l,h,rfl,h1,h2,h3⟩:=ha.two
   obtain⟨l',h',rfl,k1,k2,k3⟩:=hb.two
   have m1:=oE l l'
   have m2:=oF h h'
   rcases hu with hu| hu
   · obtain⟨n,rfl,i1,i2⟩:=hu.two
     simp only[nb] at i1 i2
     show o9 2 (nb (cH l l') (imax h h')) _
     exact NO (by simp only[nb];omega) (by simp only[nb];omega)
   · obtain⟨n,rfl,i1,i2⟩:=hu.two
     simp only[nb] at i1 i2
     show o9 2 (nb (cH l l') (imax h h')) _
     exact NO (by simp only[nb];omega) (by simp only[nb];omega)
 · obtain⟨nl,ws,rfl⟩:=ha.three
   obtain⟨Cj,kU,rfl⟩:=hb.three
   simp only[either,if_true]
   split
   · rename_i hs
     have hw:ws≠[]∧kU≠[]:=by
       cases ws<;>cases kU<;>simp at hs ⊢
     rcases hu with hu| hu
     · obtain⟨s,rfl,i1⟩:=hu.three
       exact .inr (.inr ⟨rfl,s,rfl,fun _=>ra (.inl (i1 hw.1))⟩)
     · obtain⟨s,rfl,i1⟩:=hu.three
       exact .inr (.inr ⟨rfl,s,rfl,fun _=>ra (.inr (i1 hw.2))⟩)
   · rcases hu with hu| hu
     · obtain⟨s,rfl,i1⟩:=hu.three
       exact .inr (.inr ⟨rfl,s,rfl,fun h=>absurd rfl h⟩)
     · obtain⟨s,rfl,i1⟩:=hu.three
       exact .inr (.inr ⟨rfl,s,rfl,fun h=>absurd rfl h⟩)
theorem Np {val:Va} (hr:val.right=true):o9 val.t (gK val) val:=by
 unfold Va.right at hr
 unfold gK
 obtain⟨t,n,b,s⟩:=val
 dsimp only at hr ⊢
 split at hr
 · rename_i e
   subst e
   rw[if_neg (by decide),if_neg (by decide)]
   simp at hr
   obtain⟨⟨_,rfl⟩,rfl⟩:=hr
   exact Qq (Int.le_refl _) (Int.le_refl _)
 · split at hr
   · rename_i e
     subst e
     rw[if_neg (by decide),if_pos rfl]
     simp at hr
     obtain⟨rfl,rfl⟩:=hr
     cases b
     · exact NO (Int.le_refl _) (Int.le_refl _)
     · exact NO (Int.le_refl _) (Int.le_refl _)
   · split at hr
     · rename_i e
       subst e
       rw[if_pos rfl]
       simp at hr
       obtain⟨⟨⟨_,rfl⟩,rfl⟩,_⟩:=hr
       exact .inr (.inr ⟨rfl,s,rfl,fun _=>by simp⟩)
     · cases hr
theorem xW {K:Int→Bd} {x:b5} (hK: ∀v,cI v≠0→BN (cI v) (K v)) (hI: ∀v,cI v≠0→o9 (cI v) (K v) (x.val v)): ∀ (k:Nat) (e:Ex),e.size≤k→e.b4≠0→o9 e.b4 (e.bd K) (e.eval x)
 | 0,e,hk,_=>by have:=e.size_pos;omega
 | k+1,.mk op var val nl l,hk,ht=>by
   have ih:=xW hK hI k
   have MC:=fun (e:Ex)=>Ig hK e.size e (Nat.le_refl _)
   rw[Ex.nc,Ex.eval_eq]
   simp only[Ex.size] at hk
   rcases eT ht with⟨rfl,rfl,rfl,hr,hT⟩ | ⟨rfl,rfl,rfl,hv,hT⟩ | ⟨y,rfl,rfl,rfl,rfl,hx,hT⟩ | ⟨y,z,ho,rfl,rfl,rfl,hx,hy,hT3,h6,HK,h7,h8⟩ | ⟨y,z,w,rfl,rfl,rfl,rfl,hx,hy,hz,hT⟩
   · rw[hT]
     exact Np hr
   · rw[hT]
     exact hI var hv
   · simp only[Ex.bK] at hk
     have hb:=ih y (by omega) (by omega)
     have hn:=MC y (by omega)
     rw[hT]
     rw[hx] at hb hn
     obtain⟨lo,hi,e,h1,h2,h3⟩:=hn.two
     obtain⟨p,e2,i1,i2⟩:=hb.two
     simp only[List.map_cons,List.map_nil,cS,mC,Iu,e2,e]
     rw[e] at i1 i2
     simp only[nb] at i1 i2
     rw[fQ (by simp only[nb];omega) (by simp only[nb];omega),fQ (by simp only[nb];omega) (by simp only[nb];omega)]
     refine NO ?_ ?_
     · cases p<;>simp only[bI0,nb,Bool.not_true,Bool.not_false,cond_true,cond_false] at* <;>omega
     · cases p<;>simp only[bI0,nb,Bool.not_true,Bool.not_false,cond_true,cond_false] at* <;>omega
   · simp only[Ex.bK] at hk
     have hu:=ih y (by omega) hx
     have hv:=ih z (by omega) hy
     have ha:=MC y hx
     have hb:=MC z hy
     simp only[List.map_cons,List.map_nil,cS]
     rw[zY (by omega) (by omega)]
     have vB:op=4∨op=5∨op=6∨op=7∨op=8∨op=9∨op=10∨op=11∨op=12:=by omega
     have num:8≤op→ ∃l h l' h' n m,y.bd K=nb l h∧z.bd K=nb l' h'∧y.eval x=⟨1,n,false,[]⟩∧z.eval x=⟨1,m,false,[]⟩∧ -1073741824≤l∧l≤h∧h≤1073741824∧ -1073741824≤l'∧l'≤h'∧h'≤1073741824∧l≤n∧n≤h∧l'≤m∧m≤h':=by
       intro h
       obtain⟨e1,e2,e3⟩:=h8 h
       rw[e1] at ha hu;rw[e2] at hb hv
       obtain⟨l,h,q1,h1,h2,h3⟩:=ha.one
       obtain⟨l',h',q2,k1,k2,k3⟩:=hb.one
       obtain⟨n,q3,i1,i2⟩:=hu.one
       obtain⟨m,q4,j1,j2⟩:=hv.one
       rw[q1] at i1 i2;rw[q2] at j1 j2
       exact⟨l,h,l',h',n,m,q1,q2,q3,q4,h1,h2,h3,k1,k2,k3,i1,i2,j1,j2⟩
     rcases vB with rfl| rfl| rfl| rfl| rfl| rfl| rfl| rfl| rfl
     · obtain⟨e1,e2,e3⟩:=HK (.inl rfl)
       rw[e3];rw[e1] at ha hu;rw[e2] at hb hv
       obtain⟨l,h,q1,h1,h2,h3⟩:=ha.two
       obtain⟨l',h',q2,k1,k2,k3⟩:=hb.two
       obtain⟨p,q3,i1,i2⟩:=hu.two
       obtain⟨q,q4,j1,j2⟩:=hv.two
       rw[q1] at i1 i2;rw[q2] at j1 j2
       rw[q1,q2,q3,q4]
       show o9 2 (nb (cH l l') (cH h h')) ⟨2,0,p &&q,[]⟩
       simp only[nb] at i1 i2 j1 j2
       have m1:=oE l l'
       have m2:cH h h'=h∨cH h h'=h':=by unfold cH;split<;>simp
       refine NO ?_ ?_
       · cases p<;>cases q<;>simp only[bI0,nb,Bool.and_true,Bool.and_false,cond_true,cond_false] at* <;>omega
       · cases p<;>cases q<;>simp only[bI0,nb,Bool.and_true,Bool.and_false,cond_true,cond_false] at* <;>omega
     · obtain⟨e1,e2,e3⟩:=HK (.inr rfl)
       rw[e3];rw[e1] at ha hu;rw[e2] at hb hv
       obtain⟨l,h,q1,h1,h2,h3⟩:=ha.two
       obtain⟨l',h',q2,k1,k2,k3⟩:=hb.two
       obtain⟨p,q3,i1,i2⟩:=hu.two
       obtain⟨q,q4,j1,j2⟩:=hv.two
       rw[q1] at i1 i2;rw[q2] at j1 j2
       rw[q1,q2,q3,q4]
       show o9 2 (nb (imax l l') (imax h h')) ⟨2,0,p || q,[]⟩
       simp only[nb] at i1 i2 j1 j2
       have m1:=oF h h'
       have m2:imax l l'=l∨imax l l'=l':=by unfold imax;split<;>simp
       refine NO ?_ ?_
       · cases p<;>cases q<;>simp only[bI0,nb,Bool.or_true,Bool.or_false,cond_true,cond_false] at* <;>omega
       · cases p<;>cases q<;>simp only[bI0,nb,Bool.or_true,Bool.or_false,cond_true,cond_false] at* <;>omega
     · obtain⟨e1,e2⟩:=h6 rfl
       rw[e2]
       rw[←e1] at hb hv
       have:=Yv ha hb hu hv
       exact NO this.1 this.2
     · obtain⟨e1,e2,e3⟩:=h7 rfl
       rw[e3];rw[e1] at ha hu;rw[e2] at hb hv
       obtain⟨l,h,q1,h1,h2,h3⟩:=ha.one
       obtain⟨l',h',q2,k1,k2,k3⟩:=hb.one
       obtain⟨n,q3,i1,i2⟩:=hu.one
       obtain⟨m,q4,j1,j2⟩:=hv.one
       rw[q1] at i1 i2;rw[q2] at j1 j2
       rw[q1,q2,q3,q4]
       show o9 2 (pK (nb l h) (nb l' h')) ⟨2,0,decide (n<m),[]⟩
       have:=No (q:=decide (n<m)) (n:=n) (m:=m) (by simp) i1 i2 j1 j2
       exact NO this.1 this.2
     · rw[(h8 (by decide)).2.2]
       obtain⟨l,h,l',h',n,m,q1,q2,q3,q4,h1,h2,h3,k1,k2,k3,i1,i2,j1,j2⟩:=num (by decide)
       rw[q1,q2,q3,q4]
       show o9 1 (nb (dW (oG (l+l'))) (dW (oG (h+h')))) ⟨1,dW (oG (n+m)),false,[]⟩
       rw[fQ (by omega) (by omega),fQ (by omega) (by omega),fQ (by omega) (by omega)]
       exact Qq (oD (by omega)) (oD (by omega))
     · rw[(h8 (by decide)).2.2]
       obtain⟨l,h,l',h',n,m,q1,q2,q3,q4,h1,h2,h3,k1,k2,k3,i1,i2,j1,j2⟩:=num (by decide)
       rw[q1,q2,q3,q4]
       show o9 1 (nb (dW (oG (l - h'))) (dW (oG (h - l')))) ⟨1,dW (oG (n - m)),false,[]⟩
       rw[fQ (by omega) (by omega),fQ (by omega) (by omega),fQ (by omega) (by omega)]
       exact Qq (oD (by omega)) (oD (by omega))
     · rw[(h8 (by decide)).2.2]
       obtain⟨l,h,l',h',n,m,q1,q2,q3,q4,h1,h2,h3,k1,k2,k3,i1,i2,j1,j2⟩:=num (by decide)
       rw[q1,q2,q3,q4]
       show o9 1 (times (nb l h) (nb l' h')) ⟨1,dW (oG (n*m)),false,[]⟩
       have hs:=nB (x:=n) (y:=m) (by omega) (by omega) (by omega) (by omega)
       rw[fQ hs.1 hs.2,Fe h1 h2 h3 k1 k2 k3]
       have:=xj i1 i2 j1 j2
       exact Qq (oD this.1) (oD this.2)
     · rw[(h8 (by decide)).2.2]
       obtain⟨l,h,l',h',n,m,q1,q2,q3,q4,h1,h2,h3,k1,k2,k3,i1,i2,j1,j2⟩:=num (by decide)
       rw[q1,q2,q3,q4]
       show o9 1 (nb (cH l l') (cH h h')) ⟨1,cH n m,false,[]⟩
       exact Qq (qZ i1 j1) (qZ i2 j2)
     · rw[(h8 (by decide)).2.2]
       obtain⟨l,h,l',h',n,m,q1,q2,q3,q4,h1,h2,h3,k1,k2,k3,i1,i2,j1,j2⟩:=num (by decide)
       rw[q1,q2,q3,q4]
       show o9 1 (nb (imax l l') (imax h h')) ⟨1,imax n m,false,[]⟩
       exact Qq (q9 i1 j1) (q9 i2 j2)
   · simp only[Ex.bK] at hk
     have hu:=ih y (by omega) (by omega)
     have hv:=ih z (by omega) hy
     have hw:=ih w (by omega) (by omega)
     have ha:=MC y (by omega)
     have hb:=MC z hy
     have hc:=MC w (by omega)
     rw[hT]
     rw[hx] at ha hu
     rw[hz] at hc hw
     obtain⟨p,q3,i1,i2⟩:=hu.two
     simp only[List.map_cons,List.map_nil,cS]
     rw[zY (by omega) (by omega)]
     simp only[Iu,q3]
     split
     · rename_i e
       have hp:p=true:=by
         cases p
         · rw[e] at i1;exact absurd i1 (by decide)
         · rfl
       subst hp
       exact hv
     · split
       · rename_i e
         have hp:p=false:=by
          cases p
          · rfl
          · rw[e] at i2;exact absurd i2 (by decide)
         subst hp
         exact hw
       · cases p
         · exact BM hb hc (.inr hw)
         · exact BM hb hc (.inl hv)
end Go.AM
namespace Go.AM
def Bq (a b:Bd):Prop:=a.lo=b.lo∧a.hi=b.hi∧a.ws=b.ws∧a.some=b.some∧a.text=b.text
theorem Bq.refl (a:Bd):Bq a a:=⟨rfl,rfl,rfl,rfl,rfl⟩
theorem Bq.of_eq {a b:Bd} (h:a=b):Bq a b:=h ▸ Bq.refl a
theorem Bq.trans {a b c:Bd} (h:Bq a b) (h2:Bq b c):Bq a c:=⟨h.1.trans h2.1,h.2.1.trans h2.2.1,h.2.2.1.trans h2.2.2.1,h.2.2.2.1.trans h2.2.2.2.1,h.2.2.2.2.trans h2.2.2.2.2⟩
theorem Qw {op:Int} {a b c d:Bd} (h:Bq a c) (h2:Bq b d):yO op a b=yO op c d:=by
 obtain⟨al,ah,an,aw,bL,Xy⟩:=a
 obtain⟨bl,bh,bn,bw,bs,bt⟩:=b
 obtain⟨cl,ch,cn,cw,cs,ct⟩:=c
 obtain⟨dl,dh,dn,dw,ds,dt⟩:=d
 obtain⟨h1,h3,h4,h5,h6⟩:=h
 obtain⟨k1,k3,k4,k5,k6⟩:=h2
 dsimp only at*
 subst_vars
 rfl
theorem J9 {a b c d:Bd} (h:Bq a c) (h2:Bq b d):either a b=either c d:=by
 obtain⟨al,ah,an,aw,bL,Xy⟩:=a
 obtain⟨bl,bh,bn,bw,bs,bt⟩:=b
 obtain⟨cl,ch,cn,cw,cs,ct⟩:=c
 obtain⟨dl,dh,dn,dw,ds,dt⟩:=d
 obtain⟨h1,h3,h4,h5,h6⟩:=h
 obtain⟨k1,k3,k4,k5,k6⟩:=h2
 dsimp only at*
 subst_vars
 rfl
theorem Qx {t:Int} {a c:Bd} (h:Bq a c):eS t a=eS t c:=by
 obtain⟨al,ah,an,aw,bL,Xy⟩:=a
 obtain⟨cl,ch,cn,cw,cs,ct⟩:=c
 obtain⟨h1,h3,h4,h5,h6⟩:=h
 dsimp only at*
 subst_vars
 rfl
def Bqs:List Bd→List Bd→Prop
 | [],[]=>True
 | a::bL,b::bs=>Bq a b∧Bqs bL bs
 | _,_=>False
theorem Ka {K:Int→Bd} {op var:Int} {val:Va}: ∀ {bL bs:List Bd},Bqs bL bs→Bq (cS K op var val bL) (cS K op var val bs)
 | [],[],_=>Bq.refl _
 | [a],[b],h=>by
   simp only[cS,h.1.1,h.1.2.1]
   exact Bq.refl _
 | [a,a'],[b,b'],h=>Bq.of_eq (Qw h.1 h.2.1)
 | [a,a',Df],[b,b',b''],h=>by
   simp only[cS,h.1.1,h.1.2.1]
   split
   · exact h.2.1
   · split
     · exact h.2.2.1
     · exact Bq.of_eq (J9 h.2.1 h.2.2.1)
 | a::a'::Df::a3::bL,b::b'::b''::b3::bs,h=>Bq.refl _
theorem Qy {op:Int}: ∀ {bL bs:List Bd} {ss rs:List Ex},Bqs bL bs→ss.length=rs.length→pick op bs rs=none→pick op bL ss=none
 | [a,a',Df],[b,b',b''],[s,s',s''],[r,r',r''],h,_,hp=>by
   simp only[pick,h.1.1,h.1.2.1] at hp ⊢
   split at hp
   · rename_i e;rw[if_pos e]
     split at hp
     · cases hp
     · split at hp
       · cases hp
       · simp_all
   · rename_i e;rw[if_neg e]
 | [a,a'],[b,b'],[s,s'],[r,r'],h,_,hp=>by
   simp only[pick,h.1.1,h.1.2.1,h.2.1.1,h.2.1.2.1] at hp ⊢
   repeat' split at hp
   all_goals first| (cases hp;done) | (simp_all;done)
 | [],_,ss,_,_,_,_=>by cases ss<;>rfl
 | [_],_,ss,_,_,_,_=>by rcases ss with _| ⟨_,_| ⟨_,_⟩⟩ <;>rfl
 | _::_::_::_::_,_,ss,_,_,_,_=>by rcases ss with _| ⟨_,_| ⟨_,_| ⟨_,_⟩⟩⟩ <;>rfl
 | [_,_],_,[],_,_,_,_=>rfl
 | [_,_],_,[_],_,_,_,_=>rfl
 | [_,_],_,_::_::_::_,_,_,_,_=>rfl
 | [_,_,_],_,[],_,_,_,_=>rfl
 | [_,_,_],_,[_],_,_,_,_=>rfl
 | [_,_,_],_,[_,_],_,_,_,_=>rfl
 | [_,_,_],_,_::_::_::_::_,_,_,_,_=>rfl
 | [_,_],[],[_,_],_,h,_,_=>h.elim
 | [_,_],[_],[_,_],_,h,_,_=>h.2.elim
 | [_,_],_::_::_::_,[_,_],_,h,_,_=>h.2.2.elim
 | [_,_,_],[],[_,_,_],_,h,_,_=>h.elim
 | [_,_,_],[_],[_,_,_],_,h,_,_=>h.2.elim
 | [_,_,_],[_,_],[_,_,_],_,h,_,_=>h.2.2.elim
 | [_,_,_],_::_::_::_::_,[_,_,_],_,h,_,_=>h.2.2.2.elim
 | [_,_],[_,_],[_,_],[],_,hl,_=>by simp at hl
 | [_,_],[_,_],[_,_],[_],_,hl,_=>by simp at hl
 | [_,_],[_,_],[_,_],_::_::_::_,_,hl,_=>by simp at hl
 | [_,_,_],[_,_,_],[_,_,_],[],_,hl,_=>by simp at hl
 | [_,_,_],[_,_,_],[_,_,_],[_],_,hl,_=>by simp at hl
 | [_,_,_],[_,_,_],[_,_,_],[_,_],_,hl,_=>by simp at hl
 | [_,_,_],[_,_,_],[_,_,_],_::_::_::_::_,_,hl,_=>by simp at hl
theorem Iw {v:Va} (h:v.right=true): (pM v).b4=v.t:=by
 rw[pM,Ex.pI]
 simp[jt,eJ,many,h]
theorem Fg {v:Va} (hr:v.right=true):eS v.t (gK v)=some (pM v):=by
 have PJ:=hr
 unfold Va.right at hr
 obtain⟨t,n,b,s⟩:=v
 dsimp only at hr ⊢
 split at hr
 · rename_i e
   subst e
   simp at hr
   obtain⟨⟨_,rfl⟩,rfl⟩:=hr
   simp[eS,gK,nb]
 · split at hr
   · rename_i e
     subst e
     simp at hr
     obtain⟨rfl,rfl⟩:=hr
     cases b<;>simp[eS,gK,nb]
   · split at hr
     · rename_i e
       subst e
       simp at hr
       obtain⟨⟨⟨_,rfl⟩,rfl⟩,_⟩:=hr
       simp only[eS,gK,if_true,PJ]
     · cases hr
theorem Yw {t:Int} {b:Bd} {c:Ex} (hb:BN t b) (h:eS t b=some c): ∃v,c=pM v∧v.right=true∧v.t=t∧Bq (gK v) b∧ ∀u,o9 t b u→u=v:=by
 rcases hb.t with rfl| rfl| rfl
 · obtain⟨lo,hi,rfl,h1,h2,h3⟩:=hb.one
   unfold eS at h
   rw[if_neg (by decide)] at h
   change (if lo=hi then some (pM ⟨1,lo,false,[]⟩) else none)=some c at h
   split at h
   · rename_i e
     injection h with h
     subst e
     refine⟨⟨1,lo,false,[]⟩,h.symm,by simp[Va.right];omega,rfl,⟨rfl,rfl,rfl,rfl,rfl⟩,fun u hu=> ?_⟩
     obtain⟨n,rfl,i1,i2⟩:=hu.one
     simp only[nb] at i1 i2
     obtain rfl:n=lo:=by omega
     rfl
   · cases h
 · obtain⟨lo,hi,rfl,h1,h2,h3⟩:=hb.two
   unfold eS at h
   rw[if_neg (by decide)] at h
   change (if lo=hi then some (pM ⟨2,0,decide (lo=1),[]⟩) else none)=some c at h
   split at h
   · rename_i e
     injection h with h
     subst e
     refine⟨⟨2,0,decide (lo=1),[]⟩,h.symm,by simp[Va.right],rfl,?_,fun u hu=> ?_⟩
     · have:lo=0∨lo=1:=by omega
       rcases this with rfl| rfl<;>exact⟨rfl,rfl,rfl,rfl,rfl⟩
     · obtain⟨p,rfl,i1,i2⟩:=hu.two
       simp only[nb] at i1 i2
       have:lo=0∨lo=1:=by omega
       rcases this with rfl| rfl<;>cases p<;>simp[bI0] at i1 i2 ⊢
   · cases h
 · obtain⟨nl,ws,rfl⟩:=hb.three
   simp only[eS,if_true] at h
   split at h
   · rename_i s
     split at h
     · rename_i hr
       injection h with h
       refine⟨⟨3,0,false,s⟩,h.symm,hr,rfl,⟨rfl,rfl,rfl,rfl,rfl⟩,fun u hu=> ?_⟩
       obtain⟨r,rfl,i1⟩:=hu.three
       have:=i1 (by simp)
       simp at this
       rw[this]
     · cases h
   · cases h
structure zZ (K:Int→Bd) (e:Ex):Prop where
 b4: (e.cT K).b4=e.b4
 bd:Bq ((e.cT K).bd K) (e.bd K)
 idem: (e.cT K).cT K=e.cT K
 val: ∀x:b5,(∀v,cI v≠0→o9 (cI v) (K v) (x.val v))→(e.cT K).eval x=e.eval x
theorem C7 {K:Int→Bd}: ∀ {l:List Ex},(∀y ∈ l,zZ K y)→Bqs ((l.map (Ex.cT K)).map (Ex.bd K)) (l.map (Ex.bd K))
 | [],_=>trivial
 | y::l,h=> ⟨(h y (by simp)).bd,C7 fun z hz=>h z (by simp[hz])⟩
theorem uY {K:Int→Bd} {op var:Int} {val:Va} {nl:Bool} {l:List Ex} (hm: ∀y ∈ l,zZ K y) (hc:eS (Ex.mk op var val nl l).b4 ((Ex.mk op var val nl l).bd K)=none)
   (hp:pick op (l.map (Ex.bd K)) (l.map (Ex.cT K))=none):zZ K (.mk op var val nl l):=by
 have e: (Ex.mk op var val nl l).cT K= .mk op var val true (l.map (Ex.cT K)):=by rw[Ex.pN,hc];simp only[ba,hp]
 have ht: (Ex.mk op var val true (l.map (Ex.cT K))).b4=(Ex.mk op var val nl l).b4:=by
   rw[Ex.pI,Ex.pI,List.length_map,List.map_map]
   congr 1
   exact List.map_congr_left fun y hy=> (hm y hy).b4
 have hb:Bq ((Ex.mk op var val true (l.map (Ex.cT K))).bd K) ((Ex.mk op var val nl l).bd K):=by
   rw[Ex.nc,Ex.nc]
   exact Ka (C7 hm)
 have hi: (l.map (Ex.cT K)).map (Ex.cT K)=l.map (Ex.cT K):=by
   rw[List.map_map]
   exact List.map_congr_left fun y hy=> (hm y hy).idem
 refine⟨by rw[e,ht],by rw[e];exact hb,?_,fun x hx=> ?_⟩
 · rw[e,Ex.pN,ht,Qx hb,hc,hi]
   have:pick op ((l.map (Ex.cT K)).map (Ex.bd K)) (l.map (Ex.cT K))=none:=Qy (C7 hm) rfl hp
   simp only[ba,this]
 · rw[e,Ex.eval_eq,Ex.eval_eq,List.map_map]
   congr 1
   exact List.map_congr_left fun y hy=> (hm y hy).val x hx
theorem rb {K:Int→Bd} {op var:Int} {val:Va} {nl:Bool} {l:List Ex} {y:Ex} (hm:zZ K y) (hc:eS (Ex.mk op var val nl l).b4 ((Ex.mk op var val nl l).bd K)=none)
  (hp:pick op (l.map (Ex.bd K)) (l.map (Ex.cT K))=some (y.cT K)) (ht:y.b4=(Ex.mk op var val nl l).b4) (hb:y.bd K=(Ex.mk op var val nl l).bd K)
  (hv: ∀x:b5,(∀v,cI v≠0→o9 (cI v) (K v) (x.val v))→y.eval x=(Ex.mk op var val nl l).eval x):zZ K (.mk op var val nl l):=by
 have e: (Ex.mk op var val nl l).cT K=y.cT K:=by rw[Ex.pN,hc];simp only[ba,hp]
 exact⟨by rw[e,hm.b4,ht],by rw[e,←hb];exact hm.bd,by rw[e];exact hm.idem,fun x hx=>by rw[e,hm.val x hx,hv x hx]⟩
theorem Kb {a b:Bd} (ha:BN 2 a) (hb:BN 2 b): (a.lo=1→least a b=b)∧(b.lo=1→least a b=a):=by
 obtain⟨l,h,rfl,h1,h2,h3⟩:=ha.two
 obtain⟨l',h',rfl,k1,k2,k3⟩:=hb.two
 rw[zX]
 refine⟨fun e=> ?_,fun e=> ?_⟩
 · simp only[nb] at e
   rw[show cH l l'=l' by unfold cH;split<;>omega,show cH h h'=h' by unfold cH;split<;>omega]
 · simp only[nb] at e
   rw[show cH l l'=l by unfold cH;split<;>omega,show cH h h'=h by unfold cH;split<;>omega]
theorem C8 {a b:Bd} (ha:BN 2 a) (hb:BN 2 b): (a.hi=0→m8 a b=b)∧(b.hi=0→m8 a b=a):=by
 obtain⟨l,h,rfl,h1,h2,h3⟩:=ha.two
 obtain⟨l',h',rfl,k1,k2,k3⟩:=hb.two
 rw[qv]
 refine⟨fun e=> ?_,fun e=> ?_⟩
 · simp only[nb] at e
   rw[show imax l l'=l' by unfold imax;split<;>omega,show imax h h'=h' by unfold imax;split<;>omega]
 · simp only[nb] at e
   rw[show imax l l'=l by unfold imax;split<;>omega,show imax h h'=h by unfold imax;split<;>omega]
theorem GU {b:Bd} {v:Va} (h:o9 2 b v) (e:b.lo=1):v=⟨2,0,true,[]⟩:=by
 obtain⟨p,rfl,i1,i2⟩:=h.two
 cases p
 · rw[e] at i1;exact absurd i1 (by decide)
 · rfl
theorem Ih {b:Bd} {v:Va} (h:o9 2 b v) (e:b.hi=0):v=⟨2,0,false,[]⟩:=by
 obtain⟨p,rfl,i1,i2⟩:=h.two
 cases p
 · rfl
 · rw[e] at i2;exact absurd i2 (by decide)
theorem CX {   K:Int→Bd} (hK: ∀v,cI v≠0→BN (cI v) (K v)): ∀ (k:Nat) (e:Ex),e.size≤k→e.b4≠0→zZ K e
 | 0,e,hk,_=>by have:=e.size_pos;omega
 | k+1,.mk op var val nl l,hk,ht=>by
   have ih:=CX hK k
   have MC:=fun (e:Ex)=>Ig hK e.size e (Nat.le_refl _)
   have Nq:=fun (x:b5) (hx: ∀v,cI v≠0→o9 (cI v) (K v) (x.val v)) (e:Ex)=>xW hK hx e.size e (Nat.le_refl _)
   have hb:=MC _ ht
   have hv:=fun (x:b5) hx=>Nq x hx _ ht
   simp only[Ex.size] at hk
   cases hc:eS (Ex.mk op var val nl l).b4 ((Ex.mk op var val nl l).bd K) with
   | some c=>
     have e: (Ex.mk op var val nl l).cT K=c:=by rw[Ex.pN,hc];rfl
     obtain⟨v,rfl,hr,hvt,hq,hu⟩:=Yw hb hc
     refine⟨by rw[e,Iw hr,hvt],by rw[e];exact hq,?_,fun x hx=> ?_⟩
     · rw[e]
       have h2:=Fg hr
       rw[←Iw hr] at h2
       rw[show pM v=Ex.mk 1 0 v false [] from rfl,Ex.pN]
       rw[show eS (Ex.mk 1 0 v false []).b4 ((Ex.mk 1 0 v false []).bd K)=some (pM v) from h2]
       rfl
     · rw[e];exact(hu _ (hv x hx)).symm
   | none=>
     rcases eT ht with⟨rfl,rfl,rfl,hr,hT⟩ | ⟨rfl,rfl,rfl,hv,hT⟩ | ⟨y,rfl,rfl,rfl,rfl,hx,hT⟩ | ⟨y,z,ho,rfl,rfl,rfl,hx,hy,hT3,h6,HK,h7,h8⟩ | ⟨y,z,w,rfl,rfl,rfl,rfl,hx,hy,hz,hT⟩
     · have h2:=Fg hr
       rw[hT] at hc
       rw[show (Ex.mk 1 0 val nl []).bd K=gK val from rfl,h2] at hc
       cases hc
     · exact uY (by simp) hc rfl
     · simp only[Ex.bK] at hk
       refine uY ?_ hc rfl
       intro u hu
       simp at hu;subst hu
       exact ih u (by omega) (by omega)
     · simp only[ Ex.bK] at hk
       have iy:=ih y (by omega) hx
       have iz:=ih z (by omega) hy
       have node:pick op ([y,z].map (Ex.bd K)) ([y,z].map (Ex.cT K))=none→zZ K (.mk op 0 aM nl [y,z]):=fun hp=>by
         refine uY ?_ hc hp
         intro u hu
         simp at hu
         rcases hu with rfl| rfl
         · exact iy
         · exact iz
       have by_:=MC y hx
       have bz:=MC z hy
       by_cases h4:op=4
       · subst h4
         obtain⟨e1,e2,e3⟩:=HK (.inl rfl)
         rw[e1] at by_;rw[e2] at bz
         have hl:=Kb by_ bz
         by_cases c1: (y.bd K).lo=1
         · refine rb iz hc (by simp[pick,c1]) (by rw[e3,e2]) ?_ ?_
           · rw[Ex.nc];exact(hl.1 c1).symm
           · intro x sX
             have v1:=Nq x sX y hx
             have v2:=Nq x sX z hy
             rw[e1] at v1;rw[e2] at v2
             obtain⟨q,q4,_,_⟩:=v2.two
             rw[Ex.eval_eq,List.map_cons,List.map_cons,List.map_nil,GU v1 c1,q4]
             cases q<;>rfl
         · by_cases c2: (z.bd K).lo=1
           · refine rb iy hc (by simp[pick,c1,c2]) (by rw[e3,e1]) ?_ ?_
             · rw[Ex.nc];exact(hl.2 c2).symm
             · intro x sX
               have v1:=Nq x sX y hx
               have v2:=Nq x sX z hy
               rw[e1] at v1;rw[e2] at v2
               obtain⟨q,q4,_,_⟩:=v1.two
               rw[Ex.eval_eq,List.map_cons,List.map_cons,List.map_nil,GU v2 c2,q4]
               cases q<;>rfl
           · exact node (by simp[pick,c1,c2])
       · by_cases h5:op=5
         · subst h5
           obtain⟨e1,e2,e3⟩:=HK (.inr rfl)
           rw[e1] at by_;rw[e2] at bz
           have hl:=C8 by_ bz
           by_cases c1: (y.bd K).hi=0
           · refine rb iz hc (by simp[pick,c1]) (by rw[e3,e2]) ?_ ?_
             · rw[Ex.nc];exact(hl.1 c1).symm
             · intro x sX
               have v1:=Nq x sX y hx
               have v2:=Nq x sX z hy
               rw[e1] at v1;rw[e2] at v2
               obtain⟨q,q4,_,_⟩:=v2.two
               rw[Ex.eval_eq,List.map_cons,List.map_cons,List.map_nil,Ih v1 c1,q4]
               cases q<;>rfl
           · by_cases c2: (z.bd K).hi=0
             · refine rb iy hc (by simp[pick,c1,c2]) (by rw[e3,e1]) ?_ ?_
               · rw[Ex.nc];exact(hl.2 c2).symm
               · intro x sX
                 have v1:=Nq x sX y hx
                 have v2:=Nq x sX z hy
                 rw[e1] at v1;rw[e2] at v2
                 obtain⟨q,q4,_,_⟩:=v1.two
                 rw[Ex.eval_eq,List.map_cons,List.map_cons,List.map_nil,Ih v2 c2,q4]
                 cases q<;>rfl
             · exact node (by simp[pick,c1,c2])
         · exact node (by simp[pick,h4,h5])
     · simp only[Ex.bK] at hk
       have iy:=ih y (by omega) (by omega)
       have iz:=ih z (by omega) hy
       have iw:=ih w (by omega) (by omega)
       by_cases c1: (y.bd K).lo=1
       · refine rb iz hc (by simp[pick,c1]) hT.symm ?_ ?_
         · rw[Ex.nc];simp[cS,c1]
         · intro x sX
           have v1:=Nq x sX y (by omega)
           rw[hx] at v1
           rw[Ex.eval_eq,List.map_cons,List.map_cons,List.map_cons,List.map_nil,GU v1 c1]
           rfl
       · by_cases c2: (y.bd K).hi=0
         · refine rb iw hc (by simp[pick,c1,c2]) (by rw[hz,hT]) ?_ ?_
           · rw[Ex.nc];simp[cS,c1,c2]
           · intro x sX
             have v1:=Nq x sX y (by omega)
             rw[hx] at v1
             rw[Ex.eval_eq,List.map_cons,List.map_cons,List.map_cons,List.map_nil,Ih v1 c2]
             rfl
         · refine uY ?_ hc (by simp[pick,c1,c2])
           intro u hu
           simp at hu
           rcases hu with rfl| rfl| rfl
           · exact iy
           · exact iz
           · exact iw
end Go.AM
