/- Texts of the proof. -/
import Derived.Test.YtgjbecccmiehkaaGreatGac
import Derived.Test.YtgjbecccmiehkaaGreatGbd
import Derived.Test.YtgjbecccmiehkaaGreatGbb
set_option maxRecDepth 20000
set_option maxHeartbeats 4000000
set_option linter.unusedSimpArgs false
set_option linter.unusedVariables false
namespace Go.AM.Dr
theorem we (l:List Edge) (h:l.length< 1000000):Ev E 28 [.lit 4 (l.map Edge.v)] ⟨.own 4 (l.map Edge.v),[]⟩:=
 Ev.ext (by rw[OH];simp[c8];omega)
theorem wg (l:List da) (h:l.length< 1000000):Ev E 29 [.lit 5 (l.map da.v)] ⟨.own 5 (l.map da.v),[]⟩:=
 Ev.ext (by rw[OI];simp[c8];omega)
theorem wh (l:List Way) (h:l.length< 1000000):Ev E 30 [.lit 8 (l.map Way.v)] ⟨.own 8 (l.map Way.v),[]⟩:=
 Ev.ext (by rw[OJ];simp[c8];omega)
theorem wj (l:List Place) (h:l.length< 1000000):Ev E 31 [.lit 7 (l.map Place.v)] ⟨.own 7 (l.map Place.v),[]⟩:=
 Ev.ext (by rw[OK];simp[c8];omega)
theorem lF (l:List Pt) (h:l.length< 1000000):Ev E 32 [kB l] ⟨.own 2 (l.map Pt.v),[]⟩:=
 Ev.ext (by rw[OL];simp[c8,kB];omega)
theorem Ej (e:Edge) (id:Int):Ev E 557 [e.v,.eptr (vi id) 0] ⟨.bool (decide (e.id=id)),[]⟩:=by
 refine Ev.aO rfl rfl rfl ?_
 exact dr
def oi (es:List Edge) (id:Int):Int:=firstIdx (fun e=>decide (e.id=id)) es
theorem kE {m:bA} (h:m.Fit) (id:Int):Ev E 543 [m.v,vi id] ⟨vi (oi m.aH id),[]⟩:=by
 have he:=h.e
 have hi:=Gg (l:=m.aH) (caps:=[.eptr (vi id) 0]) rfl (by omega) (fun x=>Ej x id) rfl
 refine Ev.aO rfl rfl rfl ?_
 conv=>whnf
 repeat' (first| intro g| apply ca hi| refine st ?_| refine br ?_ ?_<;>intro hc| rfl) <;>conv=>whnf
 all_goals rfl
structure lG (m:bA) where
 k:Nat
 n:Nat
 e:Edge
 a:Pt
 b:Pt
 c:Pt
 he:m.aH[k]? =some e
 hf:oi m.aH e.id=(k:Int)
 hn:1≤n
 ha:e.line[n - 1]? =some a
 hb:e.line[n]? =some b
 hc:e.line[n+1]? =some c
 qg:m.aH.length< 1000000
 hl:e.line.length< 1000000
def lG.v {m:bA} (q:lG m):V:= .agg [aL q.k,aL q.n,vi q.a.x,vi q.a.y,vi q.b.x,vi q.b.y,vi q.c.x,vi q.c.y]
theorem Gt {m:bA} (h:m.Fit) (q:lG m):Ev E 534 [m.v,vi q.e.id,aL q.n] ⟨.tuple [q.v,vi 0],[]⟩:=by
 have hf:=kE h q.e.id
 obtain⟨k,n,e,a,b,c,he,IV,hn,ha,hb,hc,qg,hl⟩:=q
 dsimp only at hf ⊢
 rw[IV] at hf
 have hk:=(List.getElem?_eq_some_iff.1 he).1
 have nT:=(List.getElem?_eq_some_iff.1 hc).1
 have w1:IntKind.i64.wrap ((n:Int) - 1)=((n - 1:Nat):Int):=wt
 have w2:IntKind.i64.wrap ((n:Int)+1)=((n+1:Nat):Int):=wt
 have w3:IntKind.i64.wrap (((e.line.map Pt.v).length:Int) - 2)=(e.line.length:Int) - 2:=by rw[List.length_map];exact wrap64 (by omega) (by omega)
 refine Ev.aO rfl rfl rfl ?_
 conv=>whnf
 repeat' (first| ((exfalso;omega)) | intro g| refine wi (aA he rfl) ?_| refine wi (aA ha w1) ?_| refine wi (aA hb rfl) ?_| refine wi (aA hc w2) ?_| apply ca hf| refine st ?_| refine br ?_ ?_<;>intro hc| rfl) <;>conv=>whnf
theorem Gu (x:Int): -9223372036854775808≤vr x∧vr x≤9223372036854775807:=by
 unfold vr IntKind.wrap
 simp only[IntKind.bits,IntKind.signed]
 simp
 omega
theorem Ek (f:da) (id:Int):Ev E 551 [f.v,.eptr (vi id) 0] ⟨.bool (decide (f.id=id)),[]⟩:=by
 refine Ev.aO rfl rfl rfl ?_
 exact dr
def Ww:da:=⟨0,[],[],0,0⟩
def mH (m:bA) (id:Int):Int:=firstIdx (fun f:da=>decide (f.id=id)) m.b9
def mI (m:bA) (id:Int):Int:=if mH m id< 0 then 0 else(m.b9.getD (mH m id).toNat Ww).tf
theorem BL {m:bA} {id:Int} (h:mH m id= -1):mI m id=0:=by unfold mI;rw[h];rfl
theorem BM {m:bA} {id:Int} {i:Nat} {x:da} (h:mH m id=i) (hx:m.b9[i]? =some x):mI m id=x.tf:=by
 unfold mI
 rw[h,if_neg (by omega),Int.toNat_natCast]
 simp[List.getD_eq_getElem?_getD,hx]
theorem wk {m:bA} (h:m.Fit) (id:Int):Ev E 550 [vi id,.eptr m.v 0] ⟨vi (mI m id),[]⟩:=by
 have hf:=h.f
 have hi:Ev E 179 _ ⟨vi (mH m id),[]⟩:=Gh (l:=m.b9) (caps:=[.eptr (vi id) 0]) rfl (by omega) (fun x=>Ek x id) rfl
 rcases er (fun f:da=>decide (f.id=id)) m.b9 with⟨h1,_⟩ | ⟨i,x,h1,h2,h3⟩
 ·have h1:mH m id= -1:=h1
  rw[BL h1]
  rw[h1] at hi
  refine Ev.aO rfl rfl rfl ?_
  conv=>whnf
  repeat' (first| intro g| apply ca hi| refine st ?_| refine br ?_ ?_<;>intro hc| rfl) <;>conv=>whnf
 ·have h1:mH m id=i:=h1
  rw[BM h1 h2]
  rw[h1] at hi
  have:=(List.getElem?_eq_some_iff.1 h2).1
  refine Ev.aO rfl rfl rfl ?_
  conv=>whnf
  repeat' (first| ((exfalso;omega)) | intro g| refine wi (aA h2 rfl) ?_| apply ca hi| refine st ?_| refine br ?_ ?_<;>intro hc| rfl) <;>conv=>whnf
def cw (m:bA) (e:Edge):Int:=if mI m e.left=mI m e.right then mI m e.left else 0
theorem qh {m:bA} (h:m.Fit) (e:Edge):Ev E 540 [m.v,e.v] ⟨vi (cw m e),[]⟩:=by
 have h1:=wk h e.left
 have h2:=wk h e.right
 unfold cw
 by_cases hd:mI m e.left=mI m e.right
 ·rw[if_pos hd]
  refine Ev.aO rfl rfl rfl ?_
  conv=>whnf
  repeat' (first| intro g| apply ca h1| apply ca h2| refine st ?_| refine br ?_ ?_<;>intro hc| rfl) <;>conv=>whnf
 ·rw[if_neg hd]
  refine Ev.aO rfl rfl rfl ?_
  conv=>whnf
  repeat' (first| intro g| apply ca h1| apply ca h2| refine st ?_| refine br ?_ ?_<;>intro hc| rfl) <;>conv=>whnf
def Gv (a b:Pt):Int:=vr (vr (a.x*b.y) - vr (a.y*b.x))
theorem Gw (a b:Pt):Ev E 219 [a.v,b.v] ⟨vi (Gv a b),[]⟩:=by
 refine Ev.aO rfl rfl rfl ?_
 exact dr
def Jf (a b:Pt):Pt:=⟨vr (a.x - b.x),vr (a.y - b.y)⟩
def lG.Lx {m:bA} (q:lG m):Int:=Gv (Jf q.b q.a) (Jf q.c q.a)
def Jg (x:Int):Int:=if x<vr (0 - x) then vr (0 - x) else x
theorem Jh {x:Int} (h:x≤9223372036854775807):Jg x≤9223372036854775807:=by
 unfold Jg
 split
 ·exact(Gu _).2
 ·exact h
noncomputable def lG.cost {m:bA} (q:lG m):Int:=lW (Jg q.Lx)
theorem xM {m:bA} (h:m.Fit) (q:lG m):Ev E 527 [m.v,vi q.e.id,aL q.n] ⟨vi q.cost,[]⟩:=by
 have jS:=Gt h q
 have hs:=Dn (n:=Jg q.Lx) (Jh (Gu _).2)
 refine Ev.aO rfl rfl rfl ?_
 conv=>whnf
 repeat' (first| intro g| apply ca jS| apply ca (xH q.b q.a) | apply ca (xH q.c q.a) | apply ca (Gw (Jf q.b q.a) (Jf q.c q.a)) | apply ca hs| refine st ?_| refine br ?_ ?_<;>intro hc| rfl) <;>conv=>whnf
end Go.AM.Dr
namespace Go.AM.Dr
theorem zw {l:List Pt} {i:Nat} (hi:i<l.length) (h:l.length< 1000000):Ev E 547 [.msl 2 (l.map Pt.v) 0 l.length,aL i,vi (IntKind.i64.wrap ((i:Int)+1))] ⟨.sl 0 0 0 (l.length - 1),[(0,(l.eraseIdx i).map Pt.v++[(Pt.mk 0 0).v])]⟩:=by
 have hw:IntKind.i64.wrap ((i:Int)+1)=((i+1:Nat):Int):=wt
 rw[hw]
 refine Ev.aO rfl rfl rfl ?_
 have Lz:aw (l.map Pt.v) (0+((i+1:Nat):Int).toNat) (l.length - ((i+1:Nat):Int).toNat)=(l.drop (i+1)).map Pt.v:=by
  rw[jd]
  congr 1
  rw[List.take_of_length_le (by simp)]
  simp
 conv=>whnf
 repeat' (first| intro g| refine nd (by first| ((and_intros<;>first| rfl| exact cL (cL (Pt.cA _) (Pt.cA _)) (ed rfl) | exact jP (cL (cL (Pt.cA _) (Pt.cA _)) (ed rfl)) | (simp only[overwrite,aw,List.length_map,List.length_append,List.length_cons,List.length_nil,List.length_take,List.length_drop];omega) | omega)) | fail) ?_| refine wi Lz ?_| refine st ?_| refine br ?_ ?_<;>intro hc| rfl) <;>conv=>whnf
 obtain⟨A,x,B,rfl,hA⟩: ∃A x B,l=A++x::B∧A.length=i:=⟨l.take i,l[i],l.drop (i+1),by simp,by simp;omega⟩
 have e1: (A++x::B).drop (i+1)=B:=by
  rw[←hA];simp[List.drop_append]
 have e2: (A++x::B).eraseIdx i=A++B:=by
  rw[←hA];simp[List.eraseIdx_append_of_length_le]
 have e3: ((i:Int).toNat - 0+((B).map Pt.v).length)=A.length+B.length:=by simp;omega
 rw[e1,e2,e3]
 have e4: ((A.length+B.length:Nat):Int).toNat=A.length+B.length:=by omega
 have e5: (((A++x::B).length:Nat):Int).toNat - (A.length+B.length)=1:=by simp;omega
 have e6: (A++x::B).length - 1=A.length+B.length:=by simp
 rw[e4,e5,e6]
 subst hA
 show (⟨V.sl 0 0 0 _,[(0,_)]⟩:eV)=_
 congr 3
 simp[overwrite,List.take_append,List.drop_append]
 rw[List.take_of_length_le (by simp),List.drop_eq_nil_of_le (by simp;omega),List.drop_eq_nil_of_le (by simp;omega),List.drop_eq_nil_of_le (by simp;omega),List.drop_eq_nil_of_le (by simp;omega)]
 rfl
def lG.rest {m:bA} (q:lG m):List Pt:=q.e.line.eraseIdx q.n
theorem Dp {m:bA} (q:lG m):Ev E 535 [q.v,m.v] ⟨.own 2 (q.rest.map Pt.v),[]⟩:=by
 have nT:=lF q.e.line q.hl
 have hb:=(List.getElem?_eq_some_iff.1 q.hb).1
 have S5:=zw (i:=q.n) hb q.hl
 have hle:q.e.line.length - 1=q.rest.length:=by simp[lG.rest,List.length_eraseIdx,hb]
 have OW:Ev E 547 [.msl 2 (q.e.line.map Pt.v) 0 (q.e.line.map Pt.v).length,aL q.n,vi (IntKind.i64.wrap ((q.n:Int)+1))] ⟨.sl 0 0 0 (q.e.line.length - 1),[(0,q.rest.map Pt.v++[(Pt.mk 0 0).v])]⟩:=by
  rw[List.length_map];exact S5
 refine Ev.aO rfl rfl rfl ?_
 have he:=q.he
 conv=>whnf
 repeat' (first| intro g| refine wi (aA he rfl) ?_| refine wi (Dc hle) ?_| apply ca nT| apply ca OW| refine st ?_| refine br ?_ ?_<;>intro hc| rfl) <;>conv=>whnf
end Go.AM.Dr
namespace Go.AM.Dr
def kG (skip:Bool) (n:Int):Nat→List Pt→List (Pt×Pt)
 | i,p::q::r=> (if skip && (decide ((i:Int)=n - 1) || decide ((i:Int)=n)) then [] else [(p,q)])++kG skip n (i+1) (q::r)
 | _,_=> []
def Nq (x:Pt×Pt):List V:=[x.1.v,x.2.v]
theorem Dt (skip:Bool) (n:Int): ∀ (ps:List Pt) (i:Nat),tO skip n i (ps.map Pt.v)=(kG skip n i ps).map Nq
 | [],i=>by simp[tO,kG]
 | [p],i=>by simp[tO,kG]
 | p::q::r,i=>by
   have ih:=Dt skip n (q::r) (i+1)
   simp only[List.map_cons] at ih
   simp only[List.map_cons,tO,kG,List.map_append]
   rw[ih]
   congr 1
   split<;>rfl
def oo (e n:Int):Nat→List Edge→List (Pt×Pt)
 | _,[]=> []
 | k,a::es=>kG (decide ((k:Int)=e)) n 0 a.line++oo e n (k+1) es
theorem Du (e n:Int): ∀ (es:List Edge) (k:Nat),(∀x ∈ es,x.line.length< 1000000)→yZ e n k (es.map Edge.v)=some ((oo e n k es).map Nq)
 | [],k,_=>rfl
 | a::es,k,h=>by
   have ih:=Du e n es (k+1) fun x hx=>h x (by simp[hx])
   have ha:=h a (by simp)
   have hc: (a.line.map Pt.v).length< 4611686018427387904∧(a.line.map Pt.v).all IP=true:=by
    refine⟨by simp;omega,?_⟩
    rw[List.all_eq_true]
    intro v hv
    obtain⟨p,_,rfl⟩:=List.mem_map.1 hv
    rfl
   show (if (a.line.map Pt.v).length< 4611686018427387904∧(a.line.map Pt.v).all IP=true then(yZ e n (k+1) (es.map Edge.v)).map (tO (decide ((k:Int)=e)) n 0 (a.line.map Pt.v)++ ·) else none)=_
   rw[if_pos hc,ih,Dt,oo,List.map_append];rfl
def o8 (m:bA) (k n:Nat) (a b c:Pt):Bool:= !((oo k n 0 m.aH).any fun x=>dw a b c x.1 x.2) && !(m.bL.any fun p=>Np a b c ⟨p.x,p.y⟩)
theorem El {m:bA} (q:lG m):Ev E 552 [q.v,m.v] ⟨.fn 564 [.eptr m.v 0,.eptr q.v 0],[]⟩:=by
 refine Ev.aO rfl rfl rfl ?_
 conv=>whnf
 repeat' (first| intro g| refine st ?_| refine br ?_ ?_<;>intro hc| rfl) <;>conv=>whnf
theorem Gx {m:bA} (h:m.Fit) (q:lG m):E.iter 564 [.eptr m.v 0,.eptr q.v 0]=some ((oo q.k q.n 0 m.aH).map Nq):=by
 have h1:=Du (q.k:Int) (q.n:Int) m.aH 0 h.el
 have hb:=(List.getElem?_eq_some_iff.1 q.hb).1
 have:=q.hl
 have:=h.e
 show (if (m.aH.map Edge.v).length< 4611686018427387904∧(0:Int)≤(q.n:Int)∧(q.n:Int) < 4611686018427387904 then yZ (q.k:Int) (q.n:Int) 0 (m.aH.map Edge.v) else none)=_
 rw[if_pos ⟨by simp;omega,by omega,by omega⟩,h1]
theorem Gy {m:bA} (q:lG m) (p:Place):Ev E 555 [p.v,.eptr q.v 0] ⟨.bool (Np q.a q.b q.c ⟨p.x,p.y⟩),[]⟩:=by
 refine Ev.aO rfl rfl rfl ?_
 conv=>whnf
 repeat' (first| intro g| refine ca (Lv q.a q.b q.c ⟨p.x,p.y⟩) ?_| refine st ?_| refine br ?_ ?_<;>intro hc| rfl) <;>conv=>whnf
theorem Gz {m:bA} (h:m.Fit) (q:lG m):Ev E 541 [q.v,m.v] ⟨.bool (o8 m q.k q.n q.a q.b q.c),[]⟩:=by
 have hp:=h.p
 have hc:Ev E 554 [.lit 7 (m.bL.map Place.v),.fn 555 [.eptr q.v 0]] ⟨.bool (m.bL.any fun p=>Np q.a q.b q.c ⟨p.x,p.y⟩),[]⟩:=by
  have:=Ef (l:=m.bL) (caps:=[.eptr q.v 0]) rfl (by omega) (Gy q) rfl
  rwa [nz] at this
 have hx:=Gx h q
 unfold o8
 generalize (m.bL.any fun p=>Np q.a q.b q.c ⟨p.x,p.y⟩)=pl at*
 generalize oo q.k q.n 0 m.aH=Nr at*
 have ht: ∀d e,Ev E 553 [q.a.v,q.b.v,q.c.v,d.v,e.v] ⟨.bool (dw q.a q.b q.c d e),[]⟩:=fun d e=>BJ _ _ _ d e
 obtain⟨Z,hZ⟩: ∃Z,Z=(!(Nr.any fun x=>dw q.a q.b q.c x.1 x.2) && !pl):=⟨_,rfl⟩
 have z1: ∀ (j:Nat) x,Nr[j]? =some x→dw q.a q.b q.c x.1 x.2=true→Z=false:=fun j x hj ht=>by
  rw[hZ,List.any_eq_true.2 ⟨x,List.mem_of_getElem? hj,ht⟩];rfl
 have z0: (∀ (j:Nat) x,Nr[j]? =some x→dw q.a q.b q.c x.1 x.2=false)→Z= !pl:=fun hn=>by
  rw[hZ,List.any_eq_false.2 fun x hx=>by
    obtain⟨j,hj,rfl⟩:=List.getElem_of_mem hx
    rw[hn j _ (bp hj)];simp];rfl
 rw[←hZ]
 clear hZ
 refine Ev.aO rfl rfl rfl ?_
 conv=>whnf
 repeat' (first| intro g| apply ca (El q) | refine st ?_| refine br ?_ ?_<;>intro hc| rfl) <;>conv=>whnf
 rename_i GA Je
 refine rj.by (Nr.map Nq) rfl hx (fun x hx=>by obtain⟨p,_,rfl⟩:=List.mem_map.1 hx;rfl) (fun (_:Unit)=> [(48,⟨GA,8,false,false,some [q.v]⟩),(64,⟨Je,4,false,false,some [m.v]⟩),(96,⟨g,1,false,false,some [.bool true]⟩)]) (fun k a=> ∀ (j:Nat) x,j<k→Nr[j]? =some x→dw q.a q.b q.c x.1 x.2=false) () (by(repeat' (first| exact True.intro| refine ai ?_| refine And.intro ?_ ?_))) (by intro j x hj;omega) ?_ ?_
 ·rintro k x u A5 hP
  rw[List.getElem?_map] at A5
  obtain⟨⟨d,e⟩,Fu,rfl⟩:=Option.map_eq_some_iff.1 A5
  have h1:=ht d e
  have qW:=z1 k _ Fu
  have wo:dw q.a q.b q.c d e=false→ ∀ (j:Nat) x,j<k+1→Nr[j]? =some x→dw q.a q.b q.c x.1 x.2=false:=fun h j x hj hx=>by
    by_cases e1:j=k
    ·subst e1;rw[Fu] at hx;injection hx with hx;subst hx;exact h
    ·exact hP j x (by omega) hx
  clear hP A5 z1 z0 hx ht
  dsimp only at qW
  cases hb:dw q.a q.b q.c d e with
  | true=>
    have hz:=qW hb
    rw[hb] at h1
    clear wo qW
    rw[hz]
    unfold Nq
    conv=>whnf
    repeat' (first| intro g| apply ca h1| apply ca hc| refine st ?_| refine br ?_ ?_<;>intro hc| rfl) <;>conv=>whnf
  | false=>
    have hn:=wo hb
    rw[hb] at h1
    clear wo qW
    unfold Nq
    conv=>whnf
    repeat' (first| intro g| apply ca h1| apply ca hc| refine st ?_| refine br ?_ ?_<;>intro hc| rfl) <;>conv=>whnf
    exact y6.mk () hn (by(repeat' (first| exact True.intro| refine ai ?_| refine And.intro ?_ ?_)))
 ·rintro _ hP
  have hz:=z0 fun j x hj=>hP j x (by have:=(List.getElem?_eq_some_iff.1 hj).1;simpa using this) hj
  rw[hz]
  clear hP z1 z0 ht
  cases pl
  all_goals
    conv=>whnf
    repeat' (first| intro g| apply ca hc| refine st ?_| refine br ?_ ?_<;>intro hc| rfl) <;>conv=>whnf
end Go.AM.Dr
namespace Go.AM.Dr
noncomputable def GB (m:bA) (q:lG m):Int:=
 if cw m q.e=0 then 25 else if xK q.rest=0 then(if o8 m q.k q.n q.a q.b q.c=true then 0 else 22) else 11
theorem GC {m:bA} (q:lG m):q.rest.length< 1000000:=by
 have hb:=(List.getElem?_eq_some_iff.1 q.hb).1
 have:=q.hl
 simp[lG.rest,List.length_eraseIdx,hb];omega
theorem BN {m:bA} (h:m.Fit) (q:lG m):Ev E 526 [m.v,vi q.e.id,aL q.n] ⟨vi (GB m q),[]⟩:=by
 have jS:=Gt h q
 have hd:=qh h q.e
 have OX:=Dp q
 have BO:=Gp q.rest (GC q)
 have U2:=Gz h q
 have he:=q.he
 unfold GB
 generalize o8 m q.k q.n q.a q.b q.c=em at*
 generalize cw m q.e=dd at*
 generalize q.rest=rs at*
 generalize xK rs=ck at*
 unfold kB at BO
 refine Ev.aO rfl rfl rfl ?_
 by_cases h1:dd=0
 ·rw[if_pos h1]
  conv=>whnf
  repeat' (first| intro g| refine wi (aA he rfl) ?_| apply ca jS| apply ca hd| refine st ?_| refine br ?_ ?_<;>intro hc| rfl) <;>conv=>whnf
 rw[if_neg h1]
 by_cases h2:ck=0
 ·rw[if_pos h2]
  cases em
  ·conv=>whnf
   repeat' (first| intro g| refine wi (aA he rfl) ?_| apply ca jS| apply ca hd| apply ca OX| apply ca BO| apply ca U2| refine st ?_| refine br ?_ ?_<;>intro hc| rfl) <;>conv=>whnf
  ·conv=>whnf
   repeat' (first| intro g| refine wi (aA he rfl) ?_| apply ca jS| apply ca hd| apply ca OX| apply ca BO| apply ca U2| refine st ?_| refine br ?_ ?_<;>intro hc| rfl) <;>conv=>whnf
 ·rw[if_neg h2]
  conv=>whnf
  repeat' (first| intro g| refine wi (aA he rfl) ?_| apply ca jS| apply ca hd| apply ca OX| apply ca BO| refine st ?_| refine br ?_ ?_<;>intro hc| rfl) <;>conv=>whnf
end Go.AM.Dr
namespace Go.AM.Dr
def QP (x:Int):Int:=if 1 <x then x else 1
section
variable (fc gx:Int→Int→Int) (m:bA) (d:Int)
def qX (id:Int):Nat→List Event
 | 0=> []
 | j+1=>qX id j++if fc id ((j+1:Nat):Int)=0 then [⟨1,QP (gx id ((j+1:Nat):Int)),id,0,((j+1:Nat):Int)⟩] else []
def BQ (k:Nat) (e:Edge):Prop:=oi m.aH e.id=k∧cw m e=d
noncomputable instance (k:Nat) (e:Edge):Decidable (BQ m d k e):=inferInstanceAs (Decidable (_∧_))
noncomputable def zx (k:Nat):List Event:=match m.aH[k]? with
 | some e=>if BQ m d k e then qX fc gx e.id (e.line.length - 2) else []
 | none=> []
noncomputable def gV:Nat→List Event
 | 0=> []
 | k+1=>gV k++zx fc gx m d k
theorem xN (id:Int): ∀j,(qX fc gx id j).length≤j
 | 0=>by simp[qX]
 | j+1=>by
   have:=xN id j
   simp only[qX,List.length_append]
   split<;>simp<;>omega
theorem qi (hl: ∀e ∈ m.aH,e.line.length< 10): ∀k,(gV fc gx m d k).length≤7*k
 | 0=>by simp[gV]
 | k+1=>by
   have ih:=qi hl k
   simp only[gV,zx,List.length_append]
   cases he:m.aH[k]? with
   | none=>simp;omega
   | some e=>
     dsimp only
     have h1:=hl e (List.mem_of_getElem? he)
     have h2:=xN fc gx e.id (e.line.length - 2)
     split
     ·omega
     ·simp;omega
end
end Go.AM.Dr
namespace Go.AM.Dr
section
variable {m:bA} {fc gx:Int→Int→Int}
 (hc: ∀id n,Ev E 526 [m.v,vi id,vi n] ⟨vi (fc id n),[]⟩) (hx: ∀id n,Ev E 527 [m.v,vi id,vi n] ⟨vi (gx id n),[]⟩)
 (hf: ∀id,Ev E 543 [m.v,vi id] ⟨vi (oi m.aH id),[]⟩) (hd: ∀e:Edge,Ev E 540 [m.v,e.v] ⟨vi (cw m e),[]⟩)
include hc hx
theorem GD {e:Edge} {d:Int} {k j ne GA wq lE:Nat} {A:List Event} {Q:aN→SS→Prop} (hle:e.line.length< 10) (hA:A.length< 1000)
  (hQ: ∀T' O' g,SS.Sub ⟨[(1,vi d),(2,.ptr 48 GA 0 0),(5,.sl 97 g 0 (A++qX fc gx e.id (j+1)).length),(7,.ptr 128 lE 0 0),(8,aL (j+2)),(13,.lit 4 (m.aH.map Edge.v)),(14,aL ne),(15,aL k)],
    [(48,⟨GA,4,false,false,some [m.v]⟩),(97,⟨g,5,true,false,some ((A++qX fc gx e.id (j+1)).map Event.v)⟩),(128,⟨lE,4,false,false,some [e.v]⟩)]⟩ ⟨T',O'⟩→Q .normal ⟨T',O'⟩) (bz:j+2 <e.line.length):
  oe E I0 ⟨[(1,vi d),(2,.ptr 48 GA 0 0),(5,.sl 97 wq 0 (A++qX fc gx e.id j).length),(7,.ptr 128 lE 0 0),(8,aL (j+1)),(13,.lit 4 (m.aH.map Edge.v)),(14,aL ne),(15,aL k)],
    [(48,⟨GA,4,false,false,some [m.v]⟩),(97,⟨wq,5,true,false,some ((A++qX fc gx e.id j).map Event.v)⟩),(128,⟨lE,4,false,false,some [e.v]⟩)]⟩ Q:=by
 have h1:=hc e.id ((j+1:Nat):Int)
 have h2:=hx e.id ((j+1:Nat):Int)
 have qg:=xN fc gx e.id j
 have S6: (A++qX fc gx e.id j).length=A.length+(qX fc gx e.id j).length:=by simp
 have w1:IntKind.i64.wrap (((j+1:Nat):Int)+1)=((j+2:Nat):Int):=wt
 have lX:A++qX fc gx e.id (j+1)=(A++qX fc gx e.id j)++if fc e.id ((j+1:Nat):Int)=0 then [⟨1,QP (gx e.id ((j+1:Nat):Int)),e.id,0,((j+1:Nat):Int)⟩] else []:=by
  rw[List.append_assoc];rfl
 have YK: (A++qX fc gx e.id j).length< 2000:=by omega
 rw[lX] at hQ
 clear lX hc hx qg S6
 generalize A++qX fc gx e.id j=L at*
 by_cases h0:fc e.id ((j+1:Nat):Int)=0
 ·rw[if_pos h0] at hQ
  rw[h0] at h1
  conv=>whnf
  repeat' (first| ((exfalso;omega)) | intro g| apply ca h1| apply ca h2| refine st ?_| refine br ?_ ?_<;>intro hc| rfl) <;>conv=>whnf
  refine hQ _ _ g ?_
  exact su
 ·rw[if_neg h0,List.append_nil] at hQ
  conv=>whnf
  repeat' (first| ((exfalso;omega)) | contradiction| intro g| apply ca h1| refine st ?_| refine br ?_ ?_<;>intro hc| rfl) <;>conv=>whnf
  refine hQ _ _ wq ?_
  exact su
include hf hd
theorem xO (h1:m.aH.length≤25) (hl: ∀e ∈ m.aH,e.line.length< 10) (d:Int) {l':List Event} (p1:l'.Perm (if d< 1 then [] else gV fc gx m d m.aH.length)) (so:Ev E 544 [.msl 5 (List.map Event.v (if d< 1 then [] else gV fc gx m d m.aH.length)) 0 (List.length (if d< 1 then [] else gV fc gx m d m.aH.length)),.fn 545 []] ⟨.tuple [],[(0,l'.map Event.v)]⟩):Ev E 529 [m.v,vi d] ⟨.own 5 (l'.map Event.v),[]⟩:=by
 have kb:=qi fc gx m d hl
 have hz: (List.length (if d< 1 then [] else gV fc gx m d m.aH.length))≤7*m.aH.length:=by
  have:=kb m.aH.length
  split
  ·simp
  ·omega
 have hlen:l'.length< 2000:=by rw[p1.length_eq];omega
 have U3:=p1.length_eq
 clear p1 hz
 refine Ev.aO rfl rfl rfl ?_
 conv=>whnf
 repeat' (first| intro g| refine st ?_| refine br ?_ ?_<;>intro hc| rfl) <;>conv=>whnf
 rename_i GA _
 refine a8.by (fun ((k,L,wq):Nat×List Event×Nat)=> ⟨[(1,vi d),(2,.ptr 48 GA 0 0),(5,.sl 97 wq 0 L.length),(13,.lit 4 (m.aH.map Edge.v)),(14,aL (m.aH.map Edge.v).length),(15,aL k)],
   [(48,⟨GA,4,false,false,some [m.v]⟩),(97,⟨wq,5,true,false,some (L.map Event.v)⟩)]⟩)
  (fun p=>p.1≤m.aH.length∧p.2.1=if d< 1 then [] else gV fc gx m d p.1) (fun p=>m.aH.length - p.1) (0,[],g) su ⟨by simp,by simp[gV]⟩ ?_
 rintro⟨k,L,wq⟩ ⟨hk,hL⟩
 dsimp only at hk hL
 by_cases bz:k<m.aH.length
 ·obtain⟨e,he⟩: ∃e,m.aH[k]? =some e:=⟨_,bp bz⟩
  have hle:=hl e (List.mem_of_getElem? he)
  have f1:=hf e.id
  have f2:=hd e
  by_cases BR:d< 1
  ·conv=>whnf
   repeat' (first| ((exfalso;omega)) | intro g| refine wi (aA he rfl) ?_| refine st ?_| refine br ?_ ?_<;>intro hc| rfl) <;>conv=>whnf
   exact bo.mk (k+1,L,wq) om ⟨om,by simpa [BR] using hL⟩ su
  rw[if_neg BR] at hL
  have lX:gV fc gx m d (k+1)=L++(if BQ m d k e then qX fc gx e.id (e.line.length - 2) else []):=by
   simp only[gV,zx,he,hL]
  by_cases s1:oi m.aH e.id=k
  case neg=>
   rw[if_neg (fun h=>s1 h.1),List.append_nil] at lX
   conv=>whnf
   repeat' (first| ((exfalso;omega)) | contradiction| intro g| refine wi (aA he rfl) ?_| apply ca f1| refine st ?_| refine br ?_ ?_<;>intro hc| rfl) <;>conv=>whnf
   exact bo.mk (k+1,L,wq) om ⟨om,by dsimp only;rw[if_neg BR,lX]⟩ su
  by_cases s2:cw m e=d
  case neg=>
   rw[if_neg (fun h=>s2 h.2),List.append_nil] at lX
   conv=>whnf
   repeat' (first| ((exfalso;omega)) | contradiction| intro g| refine wi (aA he rfl) ?_| apply ca f1| apply ca f2| refine st ?_| refine br ?_ ?_<;>intro hc| rfl) <;>conv=>whnf
   exact bo.mk (k+1,L,wq) om ⟨om,by dsimp only;rw[if_neg BR,lX]⟩ su
  rw[if_pos ⟨s1,s2⟩] at lX
  have S6:L.length< 1000:=by have:=kb k;rw[hL];omega
  rw[s1] at f1
  rw[s2] at f2
  conv=>whnf
  repeat' (first| ((exfalso;omega)) | contradiction| intro g| refine wi (aA he rfl) ?_| apply ca f1| apply ca f2| refine st ?_| refine br ?_ ?_<;>intro hc| rfl) <;>conv=>whnf
  refine a8.by (fun ((j,wq):Nat×Nat)=> ⟨[(1,vi d),(2,.ptr 48 GA 0 0),(5,.sl 97 wq 0 (L++qX fc gx e.id j).length),(7,.ptr 128 g 0 0),(8,aL (j+1)),(13,.lit 4 (m.aH.map Edge.v)),(14,aL (m.aH.map Edge.v).length),(15,aL k)],
   [(48,⟨GA,4,false,false,some [m.v]⟩),(97,⟨wq,5,true,false,some ((L++qX fc gx e.id j).map Event.v)⟩),(128,⟨g,4,false,false,some [e.v]⟩)]⟩)
   (fun p=>p.1≤e.line.length - 2) (fun p=>e.line.length - 2 - p.1) (0,wq) ?_ om ?_
  ·simp only[qX,List.append_nil]
   exact su
  rintro⟨j,wq⟩ hj
  dsimp only at hj
  by_cases il:j+2 <e.line.length
  ·exact GD hc hx hle S6 (fun T' O' g' hs=>bo.mk (j+1,g') om om hs) il
  have w1:IntKind.i64.wrap (((j+1:Nat):Int)+1)=((j+2:Nat):Int):=wt
  obtain rfl:j=e.line.length - 2:=by omega
  conv=>whnf
  repeat' (first| ((exfalso;omega)) | intro g| refine st ?_| refine br ?_ ?_<;>intro hc| rfl) <;>conv=>whnf
  exact bo.mk (k+1,L++qX fc gx e.id (e.line.length - 2),wq) om ⟨om,by dsimp only;rw[if_neg BR,lX]⟩ su
 ·obtain rfl:k=m.aH.length:=by omega
  subst hL
  conv=>whnf
  repeat' (first| intro g| apply ca so| refine st ?_| refine br ?_ ?_<;>intro hc| rfl) <;>conv=>whnf
  refine a8.by (fun ((i,LA):Nat×Nat)=> ⟨[(9,.sl 161 LA 0 (l'.take i).length),(67,.sl 97 wq 0 l'.length),(68,aL l'.length),(69,aL i)],
   [(97,⟨wq,5,true,false,some (l'.map Event.v)⟩),(161,⟨LA,5,true,false,some ((l'.take i).map Event.v)⟩)]⟩)
   (fun p=>p.1≤l'.length) (fun p=>l'.length - p.1) (0,g) ?_ om ?_
  ·have e3:V.sl 97 wq 0 (if d< 1 then [] else gV fc gx m d m.aH.length).length= .sl 97 wq 0 l'.length:=by rw[U3]
   have e4:aL (if d< 1 then [] else gV fc gx m d m.aH.length).length=aL l'.length:=by rw[U3]
   dsimp only
   rw[List.take_zero]
   (refine⟨?_,?_⟩ <;>repeat' (first| exact True.intro| refine And.intro (e3) ?_| refine And.intro (e4) ?_| refine ai ?_| refine And.intro ?_ ?_))
  rintro⟨i,LA⟩ hi
  dsimp only at hi
  by_cases il:i<l'.length
  ·obtain⟨x,A5⟩: ∃x,l'[i]? =some x:=⟨_,bp il⟩
   have GF:l'.take (i+1)=l'.take i++[x]:=by rw[List.take_add_one,A5];rfl
   have LB: (l'.take i).length=i:=by simp;omega
   conv=>whnf
   repeat' (first| intro g| refine wi (aA A5 rfl) ?_| refine st ?_| refine br ?_ ?_<;>intro hc| rfl) <;>conv=>whnf
   refine bo.mk (i+1,g) om om ?_
   dsimp only
   rw[GF]
   exact su
  obtain rfl:i=l'.length:=by omega
  dsimp only
  rw[List.take_length]
  conv=>whnf
  repeat' (first| intro g| refine wi (mC (by simp)) ?_| refine st ?_| refine br ?_ ?_<;>intro hc| rfl) <;>conv=>whnf
end
end Go.AM.Dr
namespace Go.AM.Dr
def lG.es {m:bA} (q:lG m):List Edge:=m.aH.set q.k ⟨q.e.id,q.rest,q.e.left,q.e.right⟩
theorem GG {m:bA} (h:m.Fit) (q:lG m) (OY:Ev E 526 [m.v,vi q.e.id,aL q.n] ⟨vi 0,[]⟩):
  Ev E 524 [m.v,vi q.e.id,aL q.n] ⟨.tuple [.agg [.own 4 (q.es.map Edge.v),.own 5 (m.b9.map da.v),.own 8 (m.ways.map Way.v),.own 7 (m.bL.map Place.v)],vi 0],[]⟩:=by
 have hle:=h.e
 have YL:=h.w
 have jS:=Gt h q
 have OX:=Dp q
 have Em:=q.he
 have YM:=(List.getElem?_eq_some_iff.1 Em).1
 have c1:=we m.aH h.e
 have c2:=wg m.b9 h.f
 have c3:=wh m.ways h.w
 have c4:=wj m.bL h.p
 refine Ev.aO rfl rfl rfl ?_
 conv=>whnf
 repeat' (first| intro g| apply ca OY| apply ca jS| apply ca c1| apply ca c2| apply ca c3| apply ca c4| refine st ?_| refine br ?_ ?_<;>intro hc| rfl) <;>conv=>whnf
 rename_i Je th ti En Ji Eo Jj
 have hE: ∀ {l:List Edge} {i:Nat} {x:Edge},l[i]? =some x→(l.map Edge.v).set (i:Int).toNat (.agg [vi x.id,.lit 2 (x.line.map Pt.v),vi x.left,vi x.right])=l.map Edge.v:=fun h=>zh h
 have hW: ∀ {l:List Way} {i:Nat} {x:Way},l[i]? =some x→(l.map Way.v).set (i:Int).toNat (.agg [vi x.id,.lit 2 (x.line.map Pt.v),vi x.level,.str x.cls,.str x.name,.bool x.BA,vi x.weight,vi x.tf])=l.map Way.v:=fun h=>zh h
 refine a8.by (fun (i:Nat)=> ⟨[(3,.ptr 64 Je 0 0),(6,.ptr 112 th 0 0),(9,.ptr 160 ti 0 0),(11,.ptr 192 g 0 0),(44,aL (m.aH.map Edge.v).length),(45,aL i)],
   [(64,⟨Je,4,false,false,some [m.v]⟩),(112,⟨th,4,false,false,some [.agg [.lit 4 [],.lit 5 [],.lit 8 [],.lit 7 []]]⟩),(160,⟨ti,8,false,false,some [q.v]⟩),(192,⟨g,4,false,false,some [.agg [.sl 512 En 0 (m.aH.map Edge.v).length,.sl 560 Ji 0 (m.b9.map da.v).length,.sl 608 Eo 0 (m.ways.map Way.v).length,.sl 656 Jj 0 (m.bL.map Place.v).length]]⟩),
    (512,⟨En,4,true,false,some (m.aH.map Edge.v)⟩),(560,⟨Ji,5,true,false,some (m.b9.map da.v)⟩),(608,⟨Eo,8,true,false,some (m.ways.map Way.v)⟩),(656,⟨Jj,7,true,false,some (m.bL.map Place.v)⟩)]⟩)
  (fun i=>i≤m.aH.length) (fun i=>m.aH.length - i) 0 su (by simp) ?_
 clear c1 c2 c3 c4 OY jS
 rintro i hi
 by_cases bz:i<m.aH.length
 ·obtain⟨e,he⟩: ∃e,m.aH[i]? =some e:=⟨_,bp bz⟩
  have nT:=lF e.line (h.el e (List.mem_of_getElem? he))
  conv=>whnf
  repeat' (first| intro g| refine wi (aA he rfl) ?_| apply ca nT| refine st ?_| refine br ?_ ?_<;>intro hc| rfl) <;>conv=>whnf
  have e1: (⟨En,4,true,false,some ((m.aH.map Edge.v).set (i:Int).toNat (.agg [vi e.id,.lit 2 (e.line.map Pt.v),vi e.left,vi e.right]))⟩:Obj)=⟨En,4,true,false,some (m.aH.map Edge.v)⟩:=by rw[hE he]
  exact bo.mk (i+1) om (by omega) (by(refine⟨?_,?_⟩ <;>repeat' (first| exact True.intro| refine And.intro (e1) ?_| refine ai ?_| refine And.intro ?_ ?_)))
 obtain rfl:i=m.aH.length:=by omega
 conv=>whnf
 repeat' (first| intro g| refine st ?_| refine br ?_ ?_<;>intro hc| rfl) <;>conv=>whnf
 refine a8.by (fun (i:Nat)=> ⟨[(3,.ptr 64 Je 0 0),(6,.ptr 112 th 0 0),(9,.ptr 160 ti 0 0),(11,.ptr 192 g 0 0),(63,aL (m.ways.map Way.v).length),(64,aL i)],
   [(64,⟨Je,4,false,false,some [m.v]⟩),(112,⟨th,4,false,false,some [.agg [.lit 4 [],.lit 5 [],.lit 8 [],.lit 7 []]]⟩),(160,⟨ti,8,false,false,some [q.v]⟩),(192,⟨g,4,false,false,some [.agg [.sl 512 En 0 (m.aH.map Edge.v).length,.sl 560 Ji 0 (m.b9.map da.v).length,.sl 608 Eo 0 (m.ways.map Way.v).length,.sl 656 Jj 0 (m.bL.map Place.v).length]]⟩),
    (512,⟨En,4,true,false,some (m.aH.map Edge.v)⟩),(560,⟨Ji,5,true,false,some (m.b9.map da.v)⟩),(608,⟨Eo,8,true,false,some (m.ways.map Way.v)⟩),(656,⟨Jj,7,true,false,some (m.bL.map Place.v)⟩)]⟩)
  (fun i=>i≤m.ways.length) (fun i=>m.ways.length - i) 0 su (by simp) ?_
 rintro i hi
 by_cases bz:i<m.ways.length
 ·obtain⟨e,he⟩: ∃e,m.ways[i]? =some e:=⟨_,bp bz⟩
  have nT:=lF e.line (h.wl e (List.mem_of_getElem? he))
  conv=>whnf
  repeat' (first| intro g| refine wi (aA he rfl) ?_| apply ca nT| refine st ?_| refine br ?_ ?_<;>intro hc| rfl) <;>conv=>whnf
  have e1: (⟨Eo,8,true,false,some ((m.ways.map Way.v).set (i:Int).toNat (.agg [vi e.id,.lit 2 (e.line.map Pt.v),vi e.level,.str e.cls,.str e.name,.bool e.BA,vi e.weight,vi e.tf]))⟩:Obj)=⟨Eo,8,true,false,some (m.ways.map Way.v)⟩:=by rw[hW he]
  exact bo.mk (i+1) om (by omega) (by(refine⟨?_,?_⟩ <;>repeat' (first| exact True.intro| refine And.intro (e1) ?_| refine ai ?_| refine And.intro ?_ ?_)))
 obtain rfl:i=m.ways.length:=by omega
 have OZ:q.es.map Edge.v=(m.aH.map Edge.v).set (q.k:Int).toNat (.agg [vi q.e.id,.lit 2 (q.rest.map Pt.v),vi q.e.left,vi q.e.right]):=by
  simp[lG.es,List.map_set,Edge.v,kB]
 rw[OZ]
 conv=>whnf
 repeat' (first| intro g| refine wi (aA Em rfl) ?_| refine wi (mC rfl) ?_| refine wi (mC (by simp)) ?_| apply ca OX| refine st ?_| refine br ?_ ?_<;>intro hc| rfl) <;>conv=>whnf
end Go.AM.Dr
namespace Go.AM
theorem Ev.dT {f:Nat} {gj:List V} {r s:eV} (h:Ev E f gj r) (k:Ev E f gj s):r=s:=by
 obtain⟨n,h⟩:=h
 obtain⟨m,k⟩:=k
 have a:=dv (ZX n m) _ _ _ h
 have b:=dv (ZO n m) _ _ _ k
 rw[a] at b
 injection b
theorem B2 {a b:Int} (h: (⟨vi a,[]⟩:eV)=⟨vi b,[]⟩):a=b:=by
 injection h with h
 unfold vi at h
 injection h
end Go.AM
namespace Go.AM.Dr
def zF:V:= .agg [vi 0,vi 0,vi 0,vi 0,vi 0,vi 0,vi 0,vi 0]
theorem Jn {m:bA} (h:m.Fit) {id n:Int} (hf:oi m.aH id= -1):Ev E 534 [m.v,vi id,vi n] ⟨.tuple [zF,vi 5],[]⟩:=by
 have hi:=kE h id
 rw[hf] at hi
 refine Ev.aO rfl rfl rfl ?_
 exact dr
theorem LL {m:bA} (h:m.Fit) {id n:Int} {k:Nat} {e:Edge} (hf:oi m.aH id=k) (he:m.aH[k]? =some e) (hn:n< 1∨(e.line.length:Int) - 2 <n):Ev E 534 [m.v,vi id,vi n] ⟨.tuple [zF,vi 1],[]⟩:=by
 have hi:=kE h id
 rw[hf] at hi
 have hl:=h.el e (List.mem_of_getElem? he)
 have w3:IntKind.i64.wrap (((e.line.map Pt.v).length:Int) - 2)=(e.line.length:Int) - 2:=by rw[List.length_map];exact wrap64 (by omega) (by omega)
 refine Ev.aO rfl rfl rfl ?_
 exact Wl
theorem zG {m:bA} (h:m.Fit) (id n:Int): (∃x:Int,x≠0∧Ev E 534 [m.v,vi id,vi n] ⟨.tuple [zF,vi x],[]⟩)∨ ∃q:lG m,q.e.id=id∧(q.n:Int)=n:=by
 rcases er (fun e:Edge=>decide (e.id=id)) m.aH with⟨h1,_⟩ | ⟨k,e,h1,h2,h3⟩
 ·exact .inl ⟨5,by decide,Jn h h1⟩
 ·have hl:=h.el e (List.mem_of_getElem? h2)
  by_cases hn:n< 1∨(e.line.length:Int) - 2 <n
  ·exact .inl ⟨1,by decide,LL h h1 h2 hn⟩
  ·have Nl:e.id=id:=by simpa using h3
   obtain⟨a,ha⟩: ∃x,e.line[n.toNat - 1]? =some x:=⟨_,bp (by omega)⟩
   obtain⟨b,hb⟩: ∃x,e.line[n.toNat]? =some x:=⟨_,bp (by omega)⟩
   obtain⟨c,hc⟩: ∃x,e.line[n.toNat+1]? =some x:=⟨_,bp (by omega)⟩
   exact .inr ⟨⟨k,n.toNat,e,a,b,c,h2,by rw[Nl];exact h1,by omega,ha,hb,hc,h.e,hl⟩,Nl,by show ((n.toNat:Nat):Int)=n;omega⟩
theorem LM {m:bA} {id n x:Int} (hx:x≠0) (jS:Ev E 534 [m.v,vi id,vi n] ⟨.tuple [zF,vi x],[]⟩):Ev E 526 [m.v,vi id,vi n] ⟨vi x,[]⟩:=by
 refine Ev.aO rfl rfl rfl ?_
 conv=>whnf
 repeat' (first| contradiction| intro g| apply ca jS| refine st ?_| refine br ?_ ?_<;>intro hc| rfl) <;>conv=>whnf
theorem Jo {m:bA} {id n x:Int} (hx:x≠0) (jS:Ev E 534 [m.v,vi id,vi n] ⟨.tuple [zF,vi x],[]⟩):Ev E 527 [m.v,vi id,vi n] ⟨vi 0,[]⟩:=by
 refine Ev.aO rfl rfl rfl ?_
 conv=>whnf
 repeat' (first| contradiction| intro g| apply ca jS| refine st ?_| refine br ?_ ?_<;>intro hc| rfl) <;>conv=>whnf
theorem xP {m:bA} (h:m.Fit) (id n:Int): ∃r:Int,Ev E 526 [m.v,vi id,vi n] ⟨vi r,[]⟩:=by
 rcases zG h id n with⟨x,hx,jS⟩ | ⟨q,rfl,rfl⟩
 ·exact⟨x,LM hx jS⟩
 ·exact⟨_,BN h q⟩
theorem uy {m:bA} (h:m.Fit) (id n:Int): ∃r:Int,Ev E 527 [m.v,vi id,vi n] ⟨vi r,[]⟩:=by
 rcases zG h id n with⟨x,hx,jS⟩ | ⟨q,rfl,rfl⟩
 ·exact⟨0,Jo hx jS⟩
 ·exact⟨_,xM h q⟩
theorem Dx (fc gx:Int→Int→Int) (id:Int) {e:Event}: ∀j,e ∈ qX fc gx id j→e.kind=1∧e.other=0∧fc e.id e.n=0∧e.at_=QP (gx e.id e.n)
 | 0,h=>by simp[qX] at h
 | j+1,h=>by
   rcases List.mem_append.1 h with h| h
   ·exact Dx fc gx id j h
   ·split at h
    ·rename_i h0
     rw[List.mem_singleton.1 h]
     exact⟨rfl,rfl,h0,rfl⟩
    ·simp at h
theorem zH (fc gx:Int→Int→Int) (m:bA) (d:Int) {e:Event}: ∀k,e ∈ gV fc gx m d k→e.kind=1∧e.other=0∧fc e.id e.n=0∧e.at_=QP (gx e.id e.n)
 | 0,h=>by simp[gV] at h
 | k+1,h=>by
   rcases List.mem_append.1 h with h| h
   ·exact zH fc gx m d k h
   ·unfold zx at h
    split at h
    ·split at h
     ·exact Dx fc gx _ _ h
     ·simp at h
    ·simp at h
end Go.AM.Dr
namespace Go.AM.Dr
structure Ax (f:Pt→Int):Prop where
 O6: ∀a b c p:Pt,dT b c p*f a+dT c a p*f b+dT a b p*f c=(dT b c p+dT c a p+dT a b p)*f p
 GO: ∀a b d e:Pt,dT a b e*f d - dT a b d*f e=dT d e a*f b - dT d e b*f a
 box: ∀ {a b p:Pt},nR a b p→(f a≤f p∨f b≤f p)∧(f p≤f a∨f p≤f b)
theorem vA:Ax Pt.x:=⟨fun a b c p=>by unfold dT;grind,fun a b d e=>by unfold dT;grind,fun h=>h.1⟩
theorem vB:Ax Pt.y:=⟨fun a b c p=>by unfold dT;grind,fun a b d e=>by unfold dT;grind,fun h=>h.2⟩
theorem Ax.neg {f:Pt→Int} (h:Ax f):Ax fun p=> - f p:=⟨fun a b c p=>by
 have:=h.O6 a b c p
 grind,fun a b d e=>by
 have:=h.GO a b d e
 grind,fun hb=>by
 have:=h.box hb
 omega⟩
theorem wA (a b d e:Pt):dT a b e - dT a b d=dT d e a - dT d e b:=by unfold dT;grind
theorem GP (x:Int): (0≤ko x↔0≤x)∧(ko x≤0↔x≤0)∧(ko x=0↔x=0):=by
 rcases cn x with⟨h,k⟩ | ⟨h,k⟩ | ⟨h,k⟩ <;>omega
theorem jU {x y:Int} (h: ¬0 <ko x*ko y): (x≤0∧0≤y)∨(0≤x∧y≤0):=by
 rcases cn x with⟨h1,k1⟩ | ⟨h1,k1⟩ | ⟨h1,k1⟩ <;>rcases cn y with⟨h2,k2⟩ | ⟨h2,k2⟩ | ⟨h2,k2⟩ <;>rw[h1,h2] at h<;>first| omega| (exfalso;revert h;decide)
theorem Dy {u v a b k:Int} (hu:0≤u) (hv:0≤v) (ha:a≤k) (hb:b≤k):u*a+v*b≤(u+v)*k:=by
 have h1:=Int.mul_le_mul_of_nonneg_left ha hu
 have h2:=Int.mul_le_mul_of_nonneg_left hb hv
 rw[Int.add_mul];omega
theorem Dz {u v a b k:Int} (hu:0≤u) (hv:0≤v) (hs:0 <u+v) (ha:k<a) (hb:k<b): (u+v)*k<u*a+v*b:=by
 have h1:=Int.mul_le_mul_of_nonneg_left (show k+1≤a by omega) hu
 have h2:=Int.mul_le_mul_of_nonneg_left (show k+1≤b by omega) hv
 rw[Int.mul_add] at h1 h2
 rw[Int.add_mul];omega
theorem jV (a b:Pt): (oh a b=a∧mc a b=b)∨(oh a b=b∧mc a b=a):=by
 unfold oh mc
 split
 ·exact .inr ⟨rfl,rfl⟩
 ·exact .inl ⟨rfl,rfl⟩
theorem GQ (a b:Pt): ¬lx (mc a b) (oh a b):=by
 unfold oh mc
 split
 ·rename_i h;unfold lx at*;omega
 ·assumption
theorem zJ {a b c:Pt} (h:lx a b) (k:lx b c):lx a c:=by unfold lx at*;omega
theorem nC {a b c:Pt} (h: ¬lx b a) (k: ¬lx c b): ¬lx c a:=by unfold lx at*;omega
theorem rC (a b:Pt):fb a b a=0:=by unfold fb dT;simp[ko]
theorem rD (a b:Pt):fb a b b=0:=by
 have:dT a b b=0:=by unfold dT;grind
 unfold fb;rw[this];rfl
theorem zK {a b d e:Pt} (hf:jQ a b d e) (h: ¬lx (toP a b d e) (di a b d e)):
  (nR a b (di a b d e)∧nR d e (di a b d e))∧nR a b (toP a b d e)∧nR d e (toP a b d e):=by
 obtain⟨f1,f2,f3,f4⟩:=hf
 have l1:=GQ a b
 have l2:=GQ d e
 have hs: ∀ {p:Pt},p=a∨p=b∨p=d∨p=e→fb a b p=0∧fb d e p=0:=by
  intro p hp
  rcases hp with rfl| rfl| rfl| rfl
  ·exact⟨rC _ _,f3⟩
  ·exact⟨rD _ _,f4⟩
  ·exact⟨f1,rC _ _⟩
  ·exact⟨f2,rD _ _⟩
 have hF:di a b d e=a∨di a b d e=b∨di a b d e=d∨di a b d e=e:=by
  unfold di
  rcases jV a b with⟨h1,_⟩ | ⟨h1,_⟩ <;>rcases jV d e with⟨h2,_⟩ | ⟨h2,_⟩ <;>rw[h1,h2] <;>split<;>simp
 have hT:toP a b d e=a∨toP a b d e=b∨toP a b d e=d∨toP a b d e=e:=by
  unfold toP
  rcases jV a b with⟨_,h1⟩ | ⟨_,h1⟩ <;>rcases jV d e with⟨_,h2⟩ | ⟨_,h2⟩ <;>rw[h1,h2] <;>split<;>simp
 have QR: ¬lx (di a b d e) (oh a b)∧ ¬lx (di a b d e) (oh d e):=by
  unfold di
  split
  ·rename_i hh;exact⟨fun h=>fH _ (zJ h hh),fH _⟩
  ·rename_i hh;exact⟨fH _,hh⟩
 have QS: ¬lx (mc a b) (toP a b d e)∧ ¬lx (mc d e) (toP a b d e):=by
  unfold toP
  split
  ·rename_i hh;exact⟨fun h=>fH _ (zJ h hh),fH _⟩
  ·rename_i hh;exact⟨fH _,hh⟩
 obtain⟨s1,s2⟩:=hs hF
 obtain⟨s3,s4⟩:=hs hT
 exact⟨⟨(jm s1).1 ⟨QR.1,nC h QS.1⟩,(jm s2).1 ⟨QR.2,nC h QS.2⟩⟩,
  (jm s3).1 ⟨nC QR.1 h,QS.1⟩,(jm s4).1 ⟨nC QR.2 h,QS.2⟩⟩
section
variable {f:Pt→Int} (ax:Ax f)
include ax
theorem o9 {a b d e:Pt} {k:Int} (ha:f a≤k) (hb:f b≤k) (hd:k<f d) (he:k<f e):dj a b d e=0:=by
 unfold dj
 split
 ·rename_i hf
  split
  ·rfl
  ·rename_i hn
   obtain⟨⟨h1,h2⟩,_⟩:=zK hf hn
   have:=ax.box h1
   have:=ax.box h2
   omega
 ·rename_i hf
  split
  ·rfl
  ·rename_i hn
   exfalso
   have n1:=jU (x:=dT a b d) (y:=dT a b e) fun h=>hn (.inl h)
   have n2:=jU (x:=dT d e a) (y:=dT d e b) fun h=>hn (.inr h)
   have hc:=ax.GO a b d e
   have hs:=wA a b d e
   have hz: ¬ (dT a b e - dT a b d=0):=fun h0=>hf (by
    have e1:dT a b d=0:=by omega
    have e2:dT a b e=0:=by omega
    have e3:dT d e a=0:=by omega
    have e4:dT d e b=0:=by omega
    unfold jQ fb
    rw[e1,e2,e3,e4]
    exact⟨rfl,rfl,rfl,rfl⟩)
   generalize dT a b d=A at*
   generalize dT a b e=B at*
   generalize dT d e a=C at*
   generalize dT d e b=D at*
   rcases n1 with⟨n1,U8⟩ | ⟨n1,U8⟩
   ·have g1:=Dz (u:=B) (v:= -A) (k:=k) U8 (by omega) (by omega) hd he
    have g2:0≤C∧D≤0:=by omega
    have g3:=Dy (u:=C) (v:= -D) (k:=k) g2.1 (by omega) hb ha
    rw[show B+ -A=C+ -D by omega] at g1
    simp only[Int.neg_mul] at g1 g3
    omega
   ·have g1:=Dz (u:= -B) (v:=A) (k:=k) (by omega) n1 (by omega) hd he
    have g2:C≤0∧0≤D:=by omega
    have g3:=Dy (u:= -C) (v:=D) (k:=k) (by omega) g2.2 hb ha
    rw[show -B+A= -C+D by omega] at g1
    simp only[Int.neg_mul] at g1 g3
    omega
theorem rE {a b c p:Pt} {k:Int} (ha:f a≤k) (hb:f b≤k) (hc:f c≤k) (hp:k<f p):Lu a b c p=false:=by
 have Nu: ∀ {x y:Pt},f x≤k→f y≤k→v8 x y p=false:=by
  intro x y hx hy
  unfold v8
  rw[decide_eq_false]
  rintro⟨h,_⟩
  have:=ax.box h
  omega
 unfold Lu
 split
 ·rw[Nu ha hb,Nu hb hc,Nu hc ha];rfl
 ·rename_i hs
  rw[decide_eq_false]
  intro h
  have O7:=ax.O6 a b c p
  have Wz:dT b c p+dT c a p+dT a b p=dT a b c:=by unfold dT;grind
  have YN: ¬dT a b c=0:=fun h=>hs (by unfold fb;rw[h];rfl)
  unfold fb at h
  simp only[(GP _).1,(GP _).2.1] at h
  generalize dT a b p=C at*
  generalize dT b c p=A at*
  generalize dT c a p=B at*
  rcases h with⟨h1,h2,h3⟩ | ⟨h1,h2,h3⟩
  ·have g1:=Int.mul_le_mul_of_nonneg_left ha h2
   have g2:=Int.mul_le_mul_of_nonneg_left hb h3
   have g3:=Int.mul_le_mul_of_nonneg_left hc h1
   have g4: (A+B+C)*(k+1)≤(A+B+C)*f p:=Int.mul_le_mul_of_nonneg_left (by omega) (by omega)
   rw[Int.mul_add,Int.add_mul,Int.add_mul] at g4
   omega
  ·have g1:=Int.mul_le_mul_of_nonneg_left ha (show 0≤ -A by omega)
   have g2:=Int.mul_le_mul_of_nonneg_left hb (show 0≤ -B by omega)
   have g3:=Int.mul_le_mul_of_nonneg_left hc (show 0≤ -C by omega)
   have g4: (-A+ -B+ -C)*(k+1)≤(-A+ -B+ -C)*f p:=Int.mul_le_mul_of_nonneg_left (by omega) (by omega)
   rw[Int.mul_add,Int.add_mul,Int.add_mul] at g4
   have e: (A+B+C)*f p= -((-A+ -B+ -C)*f p):=by rw[←Int.neg_mul];congr 1;omega
   simp only[Int.neg_mul] at g1 g2 g3 g4
   omega
omit ax in
theorem GR (a b:Pt):v8 a b a=true∧v8 a b b=true:=by
 unfold v8
 constructor
 ·rw[decide_eq_true ⟨by unfold nR;omega,rC a b⟩]
 ·rw[decide_eq_true ⟨by unfold nR;omega,rD a b⟩]
omit ax in
theorem DA {a b v:Pt} (h:v=a∨v=b):v8 a b v=true:=by
 rcases h with rfl| rfl
 ·exact(GR _ _).1
 ·exact(GR _ _).2
theorem Js {a b d e v:Pt} {k:Int} (ha:f a≤k∧(f a=k→a=v)) (hb:f b≤k∧(f b=k→b=v)) (hd:k≤f d∧(f d=k→d=v)) (he:k≤f e∧(f e=k→e=v)):
  dj a b d e=0∨(dj a b d e=1∧(v=a∨v=b)∧(v=d∨v=e)):=by
 unfold dj
 split
 ·rename_i hf
  split
  ·exact .inl rfl
  ·rename_i hn
   obtain⟨⟨h1,h2⟩,h3,h4⟩:=zK hf hn
   have b1:=ax.box h1;have b2:=ax.box h2;have b3:=ax.box h3;have b4:=ax.box h4
   have Iu:v=a∨v=b:=by
    by_cases e1:f a=k
    ·exact .inl (ha.2 e1).symm
    ·exact .inr (hb.2 (by omega)).symm
   have Fu:v=d∨v=e:=by
    by_cases e1:f d=k
    ·exact .inl (hd.2 e1).symm
    ·exact .inr (he.2 (by omega)).symm
   have hm: ∀ {p:Pt},(p=a∨p=b∨p=d∨p=e)→f p=k→p=v:=by
    intro p hp hk
    rcases hp with rfl| rfl| rfl| rfl
    ·exact ha.2 hk
    ·exact hb.2 hk
    ·exact hd.2 hk
    ·exact he.2 hk
   have hF:di a b d e=a∨di a b d e=b∨di a b d e=d∨di a b d e=e:=by
    unfold di
    rcases jV a b with⟨h1,_⟩ | ⟨h1,_⟩ <;>rcases jV d e with⟨h2,_⟩ | ⟨h2,_⟩ <;>rw[h1,h2] <;>split<;>simp
   have hT:toP a b d e=a∨toP a b d e=b∨toP a b d e=d∨toP a b d e=e:=by
    unfold toP
    rcases jV a b with⟨_,h1⟩ | ⟨_,h1⟩ <;>rcases jV d e with⟨_,h2⟩ | ⟨_,h2⟩ <;>rw[h1,h2] <;>split<;>simp
   rw[hm hF (by omega),hm hT (by omega),if_pos rfl]
   exact .inr ⟨rfl,Iu,Fu⟩
 ·rename_i hf
  split
  ·exact .inl rfl
  ·rename_i hn
   refine .inr ⟨rfl,?_⟩
   have n1:=jU (x:=dT a b d) (y:=dT a b e) fun h=>hn (.inl h)
   have n2:=jU (x:=dT d e a) (y:=dT d e b) fun h=>hn (.inr h)
   have hc:=ax.GO a b d e
   have hs:=wA a b d e
   have hz: ¬ (dT a b e - dT a b d=0):=fun h0=>hf (by
    have e1:dT a b d=0:=by omega
    have e2:dT a b e=0:=by omega
    have e3:dT d e a=0:=by omega
    have e4:dT d e b=0:=by omega
    unfold jQ fb
    rw[e1,e2,e3,e4]
    exact⟨rfl,rfl,rfl,rfl⟩)
   by_cases Fu:v=d∨v=e
   ·refine⟨?_,Fu⟩
    apply Classical.byContradiction
    intro Iu
    have O8:f a≤k - 1:=by
     have:f a≠k:=fun h=>Iu (.inl (ha.2 h).symm)
     omega
    have js:f b≤k - 1:=by
     have:f b≠k:=fun h=>Iu (.inr (hb.2 h).symm)
     omega
    have:=o9 ax O8 js (d:=d) (e:=e) (by omega) (by omega)
    unfold dj at this
    rw[if_neg hf,if_neg hn] at this
    exact absurd this (by decide)
   ·exfalso
    have kH:k<f d:=by
     have:f d≠k:=fun h=>Fu (.inl (hd.2 h).symm)
     omega
    have nQ:k<f e:=by
     have:f e≠k:=fun h=>Fu (.inr (he.2 h).symm)
     omega
    have:=o9 ax ha.1 hb.1 kH nQ
    unfold dj at this
    rw[if_neg hf,if_neg hn] at this
    exact absurd this (by decide)
theorem B0 {x y d e a c v:Pt} {k:Int} (hx:f x≤k∧(f x=k→x=v)) (hy:f y≤k∧(f y=k→y=v)) (hd:k≤f d∧(f d=k→d=v)) (he:k≤f e∧(f e=k→e=v)) (hv:v=x∨v=y→v=a∨v=c):A3 x y d e a c=false:=by
 unfold A3
 rcases Js ax hx hy hd he with h| ⟨h,h1,h2⟩
 ·rw[o6] at h
  rw[h];rfl
 ·rw[o6] at h
  rw[h,if_pos rfl]
  have hb:sm d e x y v=true:=by
   unfold sm
   rw[DA h2,DA h1];rfl
  rcases hv h1 with e1| e1
  ·rw[←e1,hb];rfl
  ·rw[←e1,hb];simp
omit ax in
theorem zL (p:Pt):Di p p=true:=by simp[Di]
theorem GS {a b c d v:Pt} {k:Int} (ha:f a≤k∧(f a=k→a=v)) (hb:f b<k) (hc:f c≤k∧(f c=k→c=v)) (hd:k≤f d∧(f d=k→d=v)):rz a b c d=false:=by
 unfold rz
 by_cases e:f d=k
 ·have hv:=hd.2 e
  by_cases e1:f a=k
  ·rw[hv,←ha.2 e1,zL];rfl
  by_cases e2:f c=k
  ·rw[hv,←hc.2 e2,zL];simp
  ·rw[rE ax (k:=k - 1) (by omega) (by omega) (by omega) (by omega)];simp
 ·rw[rE ax (k:=k) ha.1 (by omega) hc.1 (by omega)];simp
theorem GU {a b c d e v:Pt} {k:Int} (ha:f a≤k∧(f a=k→a=v)) (hb:f b<k) (hc:f c≤k∧(f c=k→c=v)) (hd:k≤f d∧(f d=k→d=v)) (he:k≤f e∧(f e=k→e=v)):dw a b c d e=false:=by
 by_cases hv:f v=k
 ·have js:f b≤k∧(f b=k→b=v):=⟨by omega,fun h=>by omega⟩
  have U9:v≠b:=fun h=>by rw[h] at hv;omega
  have t1:v=a∨v=b→v=a∨v=c:=fun h=>h.elim .inl fun h=>absurd h U9
  have t2:v=b∨v=c→v=a∨v=c:=fun h=>h.elim (fun h=>absurd h U9) .inr
  unfold dw
  rw[GS ax ha hb hc hd,GS ax ha hb hc he,B0 ax ha js hd he t1,B0 ax js hc hd he t2,B0 ax hc ha hd he fun h=>h.elim .inr .inl]
  simp
 ·have kH:k<f d:=by
   have:f d≠k:=fun h=>hv (by rw[←hd.2 h];exact h)
   omega
  have nQ:k<f e:=by
   have:f e≠k:=fun h=>hv (by rw[←he.2 h];exact h)
   omega
  have hh: ∀ {q:Pt},k<f q→rz a b c q=false:=fun h=>by
   unfold rz
   rw[rE ax ha.1 (by omega) hc.1 h];simp
  have O8: ∀ {x y:Pt},f x≤k→f y≤k→A3 x y d e a c=false:=fun hx hy=>by
   unfold A3
   rw[o6,o9 ax hx hy kH nQ];rfl
  unfold dw
  rw[hh kH,hh nQ,O8 ha.1 (by omega),O8 (by omega) hc.1,O8 hc.1 ha.1]
  simp
end
end Go.AM.Dr
namespace Go.AM
open Dr
inductive Slot
 | h (i j:Nat)
 | v (i j:Nat)
 | o (i j:Nat)
 deriving DecidableEq
def dH (a b:Pt) (I:Pt→Prop) (l:List Pt):Prop:= ∃mid:List Pt,mid.length≤3∧(∀p ∈ mid,I p)∧(l=a::mid++[b]∨l=b::mid++[a])
theorem dH.rev {a b:Pt} {I:Pt→Prop} {l:List Pt} (h:dH a b I l):dH a b I l.reverse:=by
 obtain⟨mid,h1,h2,h3⟩:=h
 refine⟨mid.reverse,by simpa using h1,fun p hp=>h2 p (by simpa using hp),?_⟩
 rcases h3 with rfl| rfl
 ·exact .inr Zm
 ·exact .inl Zm
def oq (x y:Int) (e:Edge):Prop:=(e.left=x∧e.right=y)∨(e.left=y∧e.right=x)
def mid (i j:Nat):Pt:=⟨90+100*(i:Int),90+100*(j:Int)⟩
def uz (nd:Nat→Nat→Pt) (cz:Int→Int→Int):Slot→Edge→Prop
 | .h i j,e=>i< 4∧j< 4∧dH (nd i j) (nd (i+1) j) (yN (nd i j) (nd (i+1) j)) e.line∧oq (cz i j) (cz i ((j:Int) - 1)) e
 | .v i j,e=>i< 4∧j< 4∧dH (nd i j) (nd i (j+1)) (yO (nd i j) (nd i (j+1))) e.line∧oq (cz ((i:Int) - 1) j) (cz i j) e
 | .o i j,e=>i< 4∧j< 4∧(∀p ∈ e.line,jr (mid i j) p)∧dh e.line∧oq 28 (cz i j) e
structure jH (nd:Nat→Nat→Pt) (cz:Int→Int→Int) (S:List Slot) (es:List Edge):Prop where
 len:S.length=es.length
 at_: ∀ (k:Nat) e s,es[k]? =some e→S[k]? =some s→uz nd cz s e
 nd:S.Nodup
 ids: ∀ (k:Nat) e,es[k]? =some e→e.id=(k:Int)+1
 ne: ∀e ∈ es,e.left≠e.right
theorem jH.nil (nd:Nat→Nat→Pt) (cz:Int→Int→Int):jH nd cz [] []:=⟨rfl,fun k e s h=>by simp at h,Zm,fun k e h=>by simp at h,fun e h=>by simp at h⟩
theorem jH.snoc {nd:Nat→Nat→Pt} {cz:Int→Int→Int} {S:List Slot} {es:List Edge} (h:jH nd cz S es) {s:Slot} {e:Edge} (hs:s ∉ S) (he:uz nd cz s e) (hi:e.id=(es.length:Int)+1) (hn:e.left≠e.right):jH nd cz (S++[s]) (es++[e]):=by
 refine⟨by simp[h.len],fun k e' s' h1 h2=> ?_,?_,fun k e' h1=> ?_,fun e' h1=> ?_⟩
 ·by_cases hk:k<es.length
  ·rw[ZW hk] at h1
   rw[ZW (by rw[h.len];exact hk)] at h2
   exact h.at_ k e' s' h1 h2
  ·rw[aaf Zl] at h1
   rw[aaf (by rw[h.len];omega),h.len] at h2
   by_cases hz:k - es.length=0
   ·rw[hz] at h1 h2
    simp at h1 h2
    subst h1 h2
    exact he
   ·rw[aab (by simp;omega)] at h1
    cases h1
 ·rw[List.nodup_append]
  refine⟨h.nd,Zm,fun a ha b hb=> ?_⟩
  rw[ZZ.1 hb]
  exact fun e=>hs (e ▸ ha)
 ·by_cases hk:k<es.length
  ·rw[ZW hk] at h1
   exact h.ids k e' h1
  ·rw[aaf Zl] at h1
   by_cases hz:k - es.length=0
   ·rw[hz] at h1
    simp at h1
    subst h1
    rw[hi];omega
   ·rw[aab (by simp;omega)] at h1
    cases h1
 ·rcases ZF.1 h1 with h1| h1
  ·exact h.ne e' h1
  ·rw[ZZ.1 h1];exact hn
theorem GV {ps:List Pt} {left right:Int} {e:Edge} (h: (e.line=ps∧e.left=left∧e.right=right)∨(e.line=ps.reverse∧e.left=right∧e.right=left)): (e.line=ps∨e.line=ps.reverse)∧oq left right e:=by
 rcases h with⟨h1,h2,h3⟩ | ⟨h1,h2,h3⟩
 ·exact⟨.inl h1,.inl ⟨h2,h3⟩⟩
 ·exact⟨.inr h1,.inr ⟨h2,h3⟩⟩
theorem jH.added {nd:Nat→Nat→Pt} {cz:Int→Int→Int} {S:List Slot} {es es':List Edge} (h:jH nd cz S es) {s:Slot} {ps:List Pt} {left right:Int} (ha:jT es es' ps left right) (hs:s ∉ S)
  (he: ∀e:Edge,(e.line=ps∨e.line=ps.reverse)→oq left right e→uz nd cz s e): ∃S',(S'=S∨S'=S++[s])∧jH nd cz S' es':=by
 rcases ha with⟨_,rfl⟩ | ⟨hn,e,rfl,hi,h1⟩
 ·exact⟨S,.inl rfl,h⟩
 ·obtain⟨h2,h3⟩:=GV h1
  refine⟨S++[s],.inr rfl,h.snoc hs (he e h2 h3) hi ?_⟩
  rcases h3 with⟨h4,h5⟩ | ⟨h4,h5⟩
  ·rw[h4,h5];exact hn
  ·rw[h4,h5];exact fun e=>hn e.symm
def inner (l:List Pt):List Pt:=l.tail.dropLast
def Sep (l l':List Pt):Prop:= ∃f:Pt→Int,Ax f∧ ∃ (k:Int) (v:Pt),((∀p ∈ l,f p≤k∧(f p=k→p=v))∧ ∀p ∈ inner l,f p<k)∧(∀p ∈ l',k≤f p∧(f p=k→p=v))∧ ∀p ∈ inner l',k<f p
theorem Sep.symm {l l':List Pt} (h:Sep l l'):Sep l' l:=by
 obtain⟨f,ax,k,v,⟨h1,h2⟩,h3,h4⟩:=h
 refine⟨fun p=> - f p,ax.neg,-k,v,⟨fun p hp=> ?_,fun p hp=> ?_⟩,fun p hp=> ?_,fun p hp=> ?_⟩
 ·have:=h3 p hp;exact⟨by show - f p≤ -k;omega,fun h=>this.2 (by have h: - f p= -k:=h;omega)⟩
 ·have:=h4 p hp;show - f p< -k;omega
 ·have:=h1 p hp;exact⟨by show -k≤ - f p;omega,fun h=>this.2 (by have h: - f p= -k:=h;omega)⟩
 ·have:=h2 p hp;show -k< - f p;omega
theorem wB {l:List Pt} {p:Pt} (h:p ∈ inner l):p ∈ l:=List.mem_of_mem_tail (List.dropLast_subset _ h)
theorem Sep.strict {f:Pt→Int} (ax:Ax f) {l l':List Pt} (k:Int) (h: ∀p ∈ l,f p<k) (h': ∀p ∈ l',k<f p):Sep l l':=
 ⟨f,ax,k,⟨0,0⟩,⟨fun p hp=> ⟨Int.le_of_lt (h p hp),fun e=>absurd (h p hp) Zl⟩,fun p hp=>h p (wB hp)⟩,fun p hp=> ⟨Int.le_of_lt (h' p hp),fun e=>absurd (h' p hp) Zl⟩,fun p hp=>h' p (wB hp)⟩
theorem B1 (a b:Pt) (m:List Pt):inner (a::m++[b])=m:=by simp[inner]
theorem dH.all {a b:Pt} {I P:Pt→Prop} {l:List Pt} (h:dH a b I l) (ha:P a) (hb:P b) (hI: ∀p,I p→P p): ∀p ∈ l,P p:=by
 obtain⟨m,_,h2,h3⟩:=h
 intro p hp
 rcases h3 with rfl| rfl
 all_goals
  simp only[Z2,Zz,ZF,List.not_mem_nil,or_false] at hp
  rcases hp with rfl| hp| rfl
  ·assumption
  ·exact hI p (h2 p hp)
  ·assumption
theorem dH.inner {a b:Pt} {I:Pt→Prop} {l:List Pt} (h:dH a b I l): ∀p ∈ inner l,I p:=by
 obtain⟨m,_,h2,h3⟩:=h
 intro p hp
 rcases h3 with rfl| rfl
 all_goals
  rw[B1] at hp
  exact h2 p hp
section
variable {nd:Nat→Nat→Pt} {cz:Int→Int→Int} (gM: ∀i j,i< 10→j< 10→fW i j (nd i j))
include gM
theorem DB {i j:Nat} (hi:i< 4) (hj:j< 4) {l:List Pt} (h:dH (nd i j) (nd (i+1) j) (yN (nd i j) (nd (i+1) j)) l): ∀p ∈ l,(30+100*(i:Int)≤p.x∧p.x≤150+100*(i:Int))∧20+100*(j:Int)≤p.y∧p.y≤60+100*(j:Int):=by
 have n1:=gM i j Zl Zl
 have n2:=gM (i+1) j Zl Zl
 unfold fW at n1 n2
 refine h.all ?_ ?_ ?_
 ·omega
 ·omega
 ·intro p hp
  unfold yN at hp
  omega
theorem DC {i j:Nat} (hi:i< 4) (hj:j< 4) {l:List Pt} (h:dH (nd i j) (nd i (j+1)) (yO (nd i j) (nd i (j+1))) l): ∀p ∈ l,(20+100*(i:Int)≤p.x∧p.x≤60+100*(i:Int))∧30+100*(j:Int)≤p.y∧p.y≤150+100*(j:Int):=by
 have n1:=gM i j Zl Zl
 have n2:=gM i (j+1) Zl Zl
 unfold fW at n1 n2
 refine h.all ?_ ?_ ?_
 ·omega
 ·omega
 ·intro p hp
  unfold yO at hp
  omega
theorem GW {i j i':Nat} (hi:i< 4) (hj:j< 4) (nU:i'< 4) (bz:i<i') {l l':List Pt} (h:dH (nd i j) (nd (i+1) j) (yN (nd i j) (nd (i+1) j)) l) (h':dH (nd i' j) (nd (i'+1) j) (yN (nd i' j) (nd (i'+1) j)) l'):Sep l l':=by
 have n1:=gM i j Zl Zl
 have n2:=gM (i+1) j Zl Zl
 have n3:=gM i' j Zl Zl
 have n4:=gM (i'+1) j Zl Zl
 unfold fW at n1 n2 n3 n4
 by_cases e:i'=i+1
 ·subst e
  refine⟨Pt.x,vA,(nd (i+1) j).x,nd (i+1) j,⟨h.all ⟨Zl,fun e=>Zl⟩ ⟨Zl,fun _=>rfl⟩ ?_,?_⟩,h'.all ⟨Zl,fun _=>rfl⟩ ⟨Zl,fun e=>Zl⟩ ?_,?_⟩
  ·intro p hp;unfold yN at hp;exact⟨Zl,fun e=>Zl⟩
  ·intro p hp;have:=h.inner p hp;unfold yN at this;omega
  ·intro p hp;unfold yN at hp;exact⟨Zl,fun e=>Zl⟩
  ·intro p hp;have:=h'.inner p hp;unfold yN at this;omega
 ·refine Sep.strict vA (60+100*((i:Int)+1)) (h.all Zl Zl ?_) (h'.all Zl Zl ?_)
  ·intro p hp;unfold yN at hp;omega
  ·intro p hp;unfold yN at hp;omega
theorem GX {i j j':Nat} (hi:i< 4) (hj:j< 4) (ot:j'< 4) (bz:j<j') {l l':List Pt} (h:dH (nd i j) (nd i (j+1)) (yO (nd i j) (nd i (j+1))) l) (h':dH (nd i j') (nd i (j'+1)) (yO (nd i j') (nd i (j'+1))) l'):Sep l l':=by
 have n1:=gM i j Zl Zl
 have n2:=gM i (j+1) Zl Zl
 have n3:=gM i j' Zl Zl
 have n4:=gM i (j'+1) Zl Zl
 unfold fW at n1 n2 n3 n4
 by_cases e:j'=j+1
 ·subst e
  refine⟨Pt.y,vB,(nd i (j+1)).y,nd i (j+1),⟨h.all ⟨Zl,fun e=>Zl⟩ ⟨Zl,fun _=>rfl⟩ ?_,?_⟩,h'.all ⟨Zl,fun _=>rfl⟩ ⟨Zl,fun e=>Zl⟩ ?_,?_⟩
  ·intro p hp;unfold yO at hp;exact⟨Zl,fun e=>Zl⟩
  ·intro p hp;have:=h.inner p hp;unfold yO at this;omega
  ·intro p hp;unfold yO at hp;exact⟨Zl,fun e=>Zl⟩
  ·intro p hp;have:=h'.inner p hp;unfold yO at this;omega
 ·refine Sep.strict vB (60+100*((j:Int)+1)) (h.all Zl Zl ?_) (h'.all Zl Zl ?_)
  ·intro p hp;unfold yO at hp;omega
  ·intro p hp;unfold yO at hp;omega
def pb (e e':Edge):Prop:=(e.left≠e'.left∧e.left≠e'.right)∧e.right≠e'.left∧e.right≠e'.right
omit gM in
theorem pb.symm {e e':Edge} (h:pb e e'):pb e' e:=⟨⟨fun x=>h.1.1 x.symm,fun x=>h.2.1 x.symm⟩,fun x=>h.1.2 x.symm,fun x=>h.2.2 x.symm⟩
omit gM in
theorem oq.jl {x y x' y':Int} {e e':Edge} (h:oq x y e) (h':oq x' y' e') (hf:pb e e') (hc:x=x'∨x=y'∨y=x'∨y=y'):False:=by
 obtain⟨⟨f1,f2⟩,f3,f4⟩:=hf
 rcases h with⟨a1,a2⟩ | ⟨a1,a2⟩ <;>rcases h' with⟨b1,b2⟩ | ⟨b1,b2⟩ <;>rw[a1,b1] at f1<;>rw[a1,b2] at f2<;>rw[a2,b1] at f3<;>rw[a2,b2] at f4<;>omega
theorem GY {i j i' j':Nat} (hi:i< 4) (hj:j< 4) (nU:i'< 4) (ot:j'< 4) {e e':Edge} (hf:pb e e') (h:dH (nd i j) (nd (i+1) j) (yN (nd i j) (nd (i+1) j)) e.line) (s:oq (cz i j) (cz i ((j:Int) - 1)) e)
  (h':dH (nd i' j') (nd i' (j'+1)) (yO (nd i' j') (nd i' (j'+1))) e'.line) (s':oq (cz ((i':Int) - 1) j') (cz i' j') e'):Sep e.line e'.line:=by
 have r:=DB gM hi hj h
 have r':=DC gM nU ot h'
 by_cases a1:i'<i
 ·exact(Sep.strict vA (100*(i:Int)) (fun p hp=>by have:=r' p hp;omega) (fun p hp=>by have:=r p hp;omega)).symm
 by_cases a2:i+1 <i'
 ·exact Sep.strict vA (160+100*(i:Int)) (fun p hp=>by have:=r p hp;omega) (fun p hp=>by have:=r' p hp;omega)
 by_cases a3:j<j'
 ·exact Sep.strict vB (100+100*(j:Int)) (fun p hp=>by have:=r p hp;omega) (fun p hp=>by have:=r' p hp;omega)
 by_cases a4:j'+1 <j
 ·exact(Sep.strict vB (100*(j:Int)) (fun p hp=>by have:=r' p hp;omega) (fun p hp=>by have:=r p hp;omega)).symm
 exfalso
 rcases(by omega:i'=i∨i'=i+1) with rfl| rfl<;>rcases(by omega:j'=j∨j=j'+1) with rfl| rfl
 ·exact s.jl s' hf (.inr (.inl rfl))
 ·exact s.jl s' hf (.inr (.inr (.inr (by congr 1;omega))))
 ·exact s.jl s' hf (.inl (by congr 1;omega))
 ·exact s.jl s' hf (.inr (.inr (.inl (by congr 1 <;>omega))))
theorem GZ {s s':Slot} {e e':Edge} (bQ:s≠s') (h:uz nd cz s e) (h':uz nd cz s' e') (hf:pb e e'):Sep e.line e'.line:=by
 cases s with
 | h i j=>
   obtain⟨hi,hj,hl,hs⟩:=h
   have r:=DB gM hi hj hl
   cases s' with
   | h i' j'=>
     obtain⟨nU,ot,kC,fw⟩:=h'
     have r':=DB gM nU ot kC
     by_cases e1:j=j'
     ·subst e1
      rcases Nat.lt_trichotomy i i' with h1| h1| h1
      ·exact GW gM hi hj nU h1 hl kC
      ·exact absurd (by rw[h1]) bQ
      ·exact(GW gM nU hj hi h1 kC hl).symm
     ·by_cases e2:j<j'
      ·exact Sep.strict vB (100+100*(j:Int)) (fun p hp=>by have:=r p hp;omega) (fun p hp=>by have:=r' p hp;omega)
      ·exact(Sep.strict vB (100+100*(j':Int)) (fun p hp=>by have:=r' p hp;omega) (fun p hp=>by have:=r p hp;omega)).symm
   | v i' j'=>
     obtain⟨nU,ot,kC,fw⟩:=h'
     exact GY gM hi hj nU ot hf hl hs kC fw
   | o i' j'=>
     obtain⟨nU,ot,kC,_,fw⟩:=h'
     by_cases e1:j'<j
     ·exact(Sep.strict vB (110+100*(j':Int)) (fun p hp=>by have:=kC p hp;unfold jr mid at this;dsimp only at this;omega) (fun p hp=>by have:=r p hp;omega)).symm
     ·exact Sep.strict vB (70+100*(j':Int)) (fun p hp=>by have:=r p hp;omega) (fun p hp=>by have:=kC p hp;unfold jr mid at this;dsimp only at this;omega)
 | v i j=>
   obtain⟨hi,hj,hl,hs⟩:=h
   have r:=DC gM hi hj hl
   cases s' with
   | h i' j'=>
     obtain⟨nU,ot,kC,fw⟩:=h'
     exact(GY gM nU ot hi hj hf.symm kC fw hl hs).symm
   | v i' j'=>
     obtain⟨nU,ot,kC,fw⟩:=h'
     have r':=DC gM nU ot kC
     by_cases e1:i=i'
     ·subst e1
      rcases Nat.lt_trichotomy j j' with h1| h1| h1
      ·exact GX gM hi hj ot h1 hl kC
      ·exact absurd (by rw[h1]) bQ
      ·exact(GX gM hi ot hj h1 kC hl).symm
     ·by_cases e2:i<i'
      ·exact Sep.strict vA (100+100*(i:Int)) (fun p hp=>by have:=r p hp;omega) (fun p hp=>by have:=r' p hp;omega)
      ·exact(Sep.strict vA (100+100*(i':Int)) (fun p hp=>by have:=r' p hp;omega) (fun p hp=>by have:=r p hp;omega)).symm
   | o i' j'=>
     obtain⟨nU,ot,kC,_,fw⟩:=h'
     by_cases e1:i'<i
     ·exact(Sep.strict vA (110+100*(i':Int)) (fun p hp=>by have:=kC p hp;unfold jr mid at this;dsimp only at this;omega) (fun p hp=>by have:=r p hp;omega)).symm
     ·exact Sep.strict vA (70+100*(i':Int)) (fun p hp=>by have:=r p hp;omega) (fun p hp=>by have:=kC p hp;unfold jr mid at this;dsimp only at this;omega)
 | o i j=>
   obtain⟨hi,hj,hl,_,hs⟩:=h
   cases s' with
   | h i' j'=>
     obtain⟨nU,ot,kC,fw⟩:=h'
     have r':=DB gM nU ot kC
     by_cases e1:j<j'
     ·exact Sep.strict vB (110+100*(j:Int)) (fun p hp=>by have:=hl p hp;unfold jr mid at this;dsimp only at this;omega) (fun p hp=>by have:=r' p hp;omega)
     ·exact(Sep.strict vB (70+100*(j:Int)) (fun p hp=>by have:=r' p hp;omega) (fun p hp=>by have:=hl p hp;unfold jr mid at this;dsimp only at this;omega)).symm
   | v i' j'=>
     obtain⟨nU,ot,kC,fw⟩:=h'
     have r':=DC gM nU ot kC
     by_cases e1:i<i'
     ·exact Sep.strict vA (110+100*(i:Int)) (fun p hp=>by have:=hl p hp;unfold jr mid at this;dsimp only at this;omega) (fun p hp=>by have:=r' p hp;omega)
     ·exact(Sep.strict vA (70+100*(i:Int)) (fun p hp=>by have:=r' p hp;omega) (fun p hp=>by have:=hl p hp;unfold jr mid at this;dsimp only at this;omega)).symm
   | o i' j'=>
     obtain⟨nU,ot,kC,_,fw⟩:=h'
     exact(hs.jl fw hf (.inl rfl)).elim
end
end Go.AM
namespace Go.AM.Dr
def eL (l' l:List Pt):Prop:=(∀p ∈ l',p ∈ l)∧ ∀p ∈ inner l',p ∈ inner l
theorem eL.refl (l:List Pt):eL l l:=⟨fun _ h=>h,fun _ h=>h⟩
theorem eL.trans {a b c:List Pt} (h:eL a b) (k:eL b c):eL a c:=⟨fun p hp=>k.1 p (h.1 p hp),fun p hp=>k.2 p (h.2 p hp)⟩
theorem Er {l:List Pt} {n:Nat} {p:Pt} (h0:1≤n) (h:l[n]? =some p) (h1:n+1 <l.length):p ∈ inner l:=by
 unfold inner
 cases l with
 | nil=>simp at h1
 | cons a l=>
   obtain⟨n,rfl⟩: ∃k,n=k+1:=⟨n - 1,by omega⟩
   simp only[List.getElem?_cons_succ] at h
   simp only[List.tail_cons]
   have hl:n<l.dropLast.length:=by simp at h1;simp;omega
   have:l.dropLast[n]? =some p:=by
    rw[List.dropLast_eq_take,List.getElem?_take]
    rw[if_pos (by simp at h1;omega)];exact h
   exact List.mem_of_getElem? this
theorem eL.erase {l:List Pt} {n:Nat} (h0:1≤n) (h1:n+1 <l.length):eL (l.eraseIdx n) l:=by
 refine⟨fun p hp=>List.mem_of_mem_eraseIdx hp,fun p hp=> ?_⟩
 cases l with
 | nil=>simp at h1
 | cons a l=>
   obtain⟨n,rfl⟩: ∃k,n=k+1:=⟨n - 1,by omega⟩
   unfold inner at hp ⊢
   simp only[List.eraseIdx_cons_succ,List.tail_cons] at hp ⊢
   have hn:n<l.dropLast.length:=by simp at h1;simp;omega
   have e: (l.eraseIdx n).dropLast=l.dropLast.eraseIdx n:=by
    rcases List.eq_nil_or_concat l with rfl| ⟨L,x,rfl⟩
    ·simp at h1
    ·rw[List.concat_eq_append] at*
     simp only[List.dropLast_concat] at hn
     rw[List.eraseIdx_append_of_lt_length hn,List.dropLast_concat,List.dropLast_concat]
   rw[e] at hp
   exact List.mem_of_mem_eraseIdx hp
theorem Jt {l l' a b:List Pt} (h:Sep l l') (ha:eL a l) (hb:eL b l'):Sep a b:=by
 obtain⟨f,ax,k,v,⟨h1,h2⟩,h3,h4⟩:=h
 exact⟨f,ax,k,v,⟨fun p hp=>h1 p (ha.1 p hp),fun p hp=>h2 p (ha.2 p hp)⟩,fun p hp=>h3 p (hb.1 p hp),fun p hp=>h4 p (hb.2 p hp)⟩
theorem Es {l l':List Pt} (h:Sep l l') {a b c d e:Pt} (ha:a ∈ l) (hb:b ∈ inner l) (hc:c ∈ l) (hd:d ∈ l') (he:e ∈ l'):dw a b c d e=false:=by
 obtain⟨f,ax,k,v,⟨h1,h2⟩,h3,h4⟩:=h
 exact GU ax (h1 a ha) (h2 b hb) (h1 c hc) (h3 d hd) (h3 e he)
theorem wC {skip:Bool} {n:Int}: ∀ {ps:List Pt} {i:Nat} {x:Pt×Pt},x ∈ kG skip n i ps→x.1 ∈ ps∧x.2 ∈ ps
 | [],i,x,h=>by simp[kG] at h
 | [p],i,x,h=>by simp[kG] at h
 | p::q::r,i,x,h=>by
   rw[kG] at h
   rcases List.mem_append.1 h with h| h
   ·split at h
    ·simp at h
    ·rw[List.mem_singleton.1 h];simp
   ·have:=wC h
    exact⟨List.mem_cons_of_mem _ this.1,List.mem_cons_of_mem _ this.2⟩
theorem DD {l l':List Pt} (h:Sep l l') {a b c:Pt} (ha:a ∈ l) (hb:b ∈ inner l) (hc:c ∈ l) (skip:Bool) (n:Int) (i:Nat): ((kG skip n i l').any fun x=>dw a b c x.1 x.2)=false:=by
 rw[List.any_eq_false]
 intro x hx
 have:=wC hx
 rw[Es h ha hb hc this.1 this.2];simp
theorem xU {α β:Type} {p:α→Bool} {q:β→Bool}: ∀ {l:List α} {l':List β},l.length=l'.length→(∀ (k:Nat) x y,l[k]? =some x→l'[k]? =some y→p x=q y)→firstIdx p l=firstIdx q l':=by
 intro l l' hl h
 rcases er p l with⟨h1,h2⟩ | ⟨i,x,h1,h2,h3⟩
 ·rw[h1]
  symm
  apply firstIdx_none
  intro j y hj
  obtain⟨x,hx⟩: ∃x,l[j]? =some x:=⟨_,List.getElem?_eq_getElem (by rw[hl];exact(List.getElem?_eq_some_iff.1 hj).1)⟩
  rw[←h j x y hx hj]
  exact h2 j x hx
 ·rcases er q l' with⟨k1,k2⟩ | ⟨j,y,k1,k2,k3⟩
  ·obtain⟨y,hy⟩: ∃y,l'[i]? =some y:=⟨_,List.getElem?_eq_getElem (by rw[←hl];exact(List.getElem?_eq_some_iff.1 h2).1)⟩
   have e1:=h i x y h2 hy
   have e2:=k2 i y hy
   rw[h3,e2] at e1
   cases e1
  ·obtain⟨y',yP⟩: ∃y,l'[i]? =some y:=⟨_,List.getElem?_eq_getElem (by rw[←hl];exact(List.getElem?_eq_some_iff.1 h2).1)⟩
   have e:firstIdx q l'=i:=by
    refine mm (fun j' z ot hz=> ?_) yP (by rw[←h i x y' h2 yP,h3])
    obtain⟨w,hw⟩: ∃w,l[j']? =some w:=⟨_,List.getElem?_eq_getElem (by rw[hl];exact(List.getElem?_eq_some_iff.1 hz).1)⟩
    rw[←h j' w z hw hz]
    by_cases hp:p w=true
    ·exfalso
     have Ta:firstIdx p l≤(j':Int):=by
      rw[firstIdx]
      cases hf:l.findIdx? p with
      | none=>simp[hf] at*
      |   some t=>
          simp only[hf]
          have ht:=(List.findIdx?_eq_some_iff_getElem.1 hf)
          obtain⟨LB,Tb,O9⟩:=ht
          by_cases bz:j'<t
          ·have:=O9 j' bz
           obtain⟨Iw,xL⟩:=List.getElem?_eq_some_iff.1 hw
           rw[xL] at this
           exact absurd hp this
          ·omega
     rw[h1] at Ta
     omega
    ·simpa using hp
   rw[h1,e]
structure fJ (d0:Int) (m x:bA):Prop where
 f:x.b9=m.b9
 p:x.bL=m.bL
 len:x.aH.length=m.aH.length
 e: ∀ (k:Nat) e,m.aH[k]? =some e→ ∃e',x.aH[k]? =some e'∧e'.id=e.id∧e'.left=e.left∧e'.right=e.right∧eL e'.line e.line∧(cw m e=d0∨e'=e)
theorem fJ.refl (d0:Int) (m:bA):fJ d0 m m:=⟨rfl,rfl,rfl,fun k e h=> ⟨e,h,rfl,rfl,rfl,.refl _,.inr rfl⟩⟩
theorem pc {m x:bA} (hf:x.b9=m.b9) {e e':Edge} (hl:e'.left=e.left) (hr:e'.right=e.right):cw x e'=cw m e:=by
 unfold cw mI mH
 rw[hf,hl,hr]
theorem fJ.find {d0:Int} {m x:bA} (h:fJ d0 m x) (id:Int):oi x.aH id=oi m.aH id:=by
 unfold oi
 refine xU h.len fun k a b ha hb=> ?_
 obtain⟨e',h1,h2,_⟩:=h.e k b hb
 rw[ha] at h1
 injection h1 with h1
 subst h1
 rw[h2]
theorem fJ.drop {d0:Int} {m x:bA} (h:fJ d0 m x) (q:lG x) (hq:cw x q.e=d0):fJ d0 m ⟨q.es,x.b9,x.ways,x.bL⟩:=by
 refine⟨h.f,h.p,by show (x.aH.set _ _).length=_;rw[List.length_set];exact h.len,fun k e he=> ?_⟩
 obtain⟨e',h1,h2,h3,h4,h5,h6⟩:=h.e k e he
 by_cases hk:q.k=k
 ·have Em:=q.he
  rw[hk,h1] at Em
  injection Em with Em
  have nT:=(List.getElem?_eq_some_iff.1 q.hc).1
  refine⟨⟨q.e.id,q.rest,q.e.left,q.e.right⟩,?_,?_,?_,?_,?_,.inl ?_⟩
  ·show (x.aH.set q.k _)[k]? =_
   rw[hk,List.getElem?_set_self (List.getElem?_eq_some_iff.1 h1).1]
  ·show q.e.id=_;rw[←Em];exact h2
  ·show q.e.left=_;rw[←Em];exact h3
  ·show q.e.right=_;rw[←Em];exact h4
  ·refine eL.trans (eL.erase q.hn (by omega)) ?_
   rw[←Em];exact h5
  ·rw[←pc h.f h3 h4,Em];exact hq
 ·refine⟨e',?_,h2,h3,h4,h5,h6⟩
  show (x.aH.set q.k _)[k]? =_
  rw[List.getElem?_set_ne hk];exact h1
def uA (m:bA):Prop:= ∀ (i j:Nat) e e',m.aH[i]? =some e→m.aH[j]? =some e'→cw m e≠0→cw m e'≠0→cw m e≠cw m e'→Sep e.line e'.line
theorem Et {m:bA} {e e':Edge} (h:cw m e≠0) (h':cw m e'≠0) (bQ:cw m e≠cw m e'):pb e e':=by
 unfold cw at h h' bQ
 split at h
 case isFalse=>exact absurd rfl h
 rename_i a
 split at h'
 case isFalse=>exact absurd rfl h'
 rename_i b
 rw[if_pos a,if_pos b] at bQ
 refine⟨⟨fun k=>bQ (by rw[k]),fun k=>bQ (by rw[k,b])⟩,fun k=>bQ (by rw[a,k]),fun k=>bQ (by rw[a,b,k])⟩
theorem G0 {m:bA} {nd:Nat→Nat→Pt} {cz:Int→Int→Int} {S:List Slot} (gM: ∀i j,i< 10→j< 10→fW i j (nd i j)) (hG:jH nd cz S m.aH):uA m:=by
 intro i j e e' he nQ h h' bQ
 have Va:i≠j:=fun k=>by
  subst k
  rw[he] at nQ
  injection nQ with nQ
  exact bQ (by rw[nQ])
 obtain⟨s,hs⟩: ∃s,S[i]? =some s:=⟨_,List.getElem?_eq_getElem (by rw[hG.len];exact(List.getElem?_eq_some_iff.1 he).1)⟩
 obtain⟨s',fw⟩: ∃s,S[j]? =some s:=⟨_,List.getElem?_eq_getElem (by rw[hG.len];exact(List.getElem?_eq_some_iff.1 nQ).1)⟩
 refine GZ gM (s:=s) (s':=s') (fun k=>Va ?_) (hG.at_ i e s he hs) (hG.at_ j e' s' nQ fw) (Et h h' bQ)
 exact(List.getElem?_inj (by have:=(List.getElem?_eq_some_iff.1 hs).1;exact this) hG.nd).1 (by rw[hs,fw,k])
theorem zM {P:Pt×Pt→Bool} {e n:Int}: ∀ {es es':List Edge} (j:Nat),es'.length=es.length→(∀ (k:Nat) a b,es[k]? =some a→es'[k]? =some b→((kG (decide (((j+k:Nat):Int)=e)) n 0 b.line).any P)=((kG (decide (((j+k:Nat):Int)=e)) n 0 a.line).any P))→((oo e n j es').any P)=((oo e n j es).any P)
 | [],[],j,_,_=>rfl
 | [],_::_,_,h,_=>by simp at h
 | _::_,[],_,h,_=>by simp at h
 | a::es,b::es',j,hl,h=>by
   have h0:=h 0 a b rfl rfl
   simp only[Nat.add_zero] at h0
   have ih:=zM (P:=P) (e:=e) (n:=n) (es:=es) (es':=es') (j+1) (by simpa using hl) fun k x y hx hy=>by
    have:=h (k+1) x y (by simpa using hx) (by simpa using hy)
    rwa [show j+(k+1)=j+1+k by omega] at this
   rw[oo,oo,List.any_append,List.any_append,h0,ih]
section
variable {d0:Int} {m x:bA} (h:fJ d0 m x) (pH:uA m) (h0:d0≠0)
include h pH h0
theorem fJ.empty (q:lG m) (hd:cw m q.e≠0) (bQ:cw m q.e≠d0):o8 x q.k q.n q.a q.b q.c=o8 m q.k q.n q.a q.b q.c:=by
 unfold o8
 rw[h.p]
 congr 2
 refine zM 0 h.len fun k e e' he nQ=> ?_
 simp only[Nat.zero_add]
 obtain⟨e2,h1,_,_,_,h5,h6⟩:=h.e k e he
 rw[nQ] at h1
 injection h1 with h1
 subst h1
 rcases h6 with h6| h6
 ·have nT:=(List.getElem?_eq_some_iff.1 q.hc).1
  have hs:Sep q.e.line e.line:=pH q.k k q.e e q.he he hd (by rw[h6];exact h0) (by rw[h6];exact bQ)
  have ha:=List.mem_of_getElem? q.ha
  have hb:=Er q.hn q.hb nT
  have hc:=List.mem_of_getElem? q.hc
  rw[DD hs ha hb hc,DD (Jt hs (.refl _) h5) ha hb hc]
 ·rw[h6]
theorem fJ.can (q:lG m) (q':lG x) (hk:q'.k=q.k) (hn:q'.n=q.n) (he:q'.e=q.e) (hd:cw m q.e≠0) (bQ:cw m q.e≠d0):GB x q'=GB m q:=by
 have ha:q'.a=q.a:=by have h1:=q'.ha;have h2:=q.ha;rw[he,hn,h2] at h1;injection h1 with h1;exact h1.symm
 have hb:q'.b=q.b:=by have h1:=q'.hb;have h2:=q.hb;rw[he,hn,h2] at h1;injection h1 with h1;exact h1.symm
 have hc:q'.c=q.c:=by have h1:=q'.hc;have h2:=q.hc;rw[he,hn,h2] at h1;injection h1 with h1;exact h1.symm
 unfold GB lG.rest
 rw[pc h.f (e':=q'.e) (e:=q.e) (by rw[he]) (by rw[he]),hk,hn,he,ha,hb,hc,h.empty pH h0 q hd bQ]
omit pH h0 in
theorem fJ.WA (q:lG m) (bQ:cw m q.e≠d0): ∃q':lG x,q'.k=q.k∧q'.n=q.n∧q'.e=q.e:=by
 obtain⟨e',h1,_,_,_,_,h6⟩:=h.e q.k q.e q.he
 have h6:=h6.resolve_left bQ
 subst h6
 exact⟨⟨q.k,q.n,q.e,q.a,q.b,q.c,h1,by rw[h.find];exact q.hf,q.hn,q.ha,q.hb,q.hc,by rw[h.len];exact q.qg,q.hl⟩,rfl,rfl,rfl⟩
end
end Go.AM.Dr
namespace Go.AM.Dr
theorem zN {f g f' g':Int→Int→Int} {id:Int}: ∀ {j:Nat},(∀n:Nat,1≤n→n≤j→f' id n=f id n∧g' id n=g id n)→qX f' g' id j=qX f g id j
 | 0,_=>rfl
 | j+1,h=>by
   have ih:=zN (f:=f) (g:=g) (f':=f') (g':=g') (id:=id) (j:=j) fun n h1 h2=>h n h1 (by omega)
   obtain⟨h1,h2⟩:=h (j+1) (by omega) (Nat.le_refl _)
   rw[qX,qX,ih,h1,h2]
section
variable {d0:Int} {m x:bA} (h:fJ d0 m x) (pH:uA m) (h0:d0≠0) {fm gm fx gx:Int→Int→Int} {d:Int} (hd:d≠0) (bQ:d≠d0)
variable (Ju: ∀id n,Ev E 526 [m.v,vi id,vi n] ⟨vi (fm id n),[]⟩) (Fw: ∀id n,Ev E 527 [m.v,vi id,vi n] ⟨vi (gm id n),[]⟩)
variable (Nv: ∀id n,Ev E 526 [x.v,vi id,vi n] ⟨vi (fx id n),[]⟩) (y7: ∀id n,Ev E 527 [x.v,vi id,vi n] ⟨vi (gx id n),[]⟩)
variable (hm:m.Fit) (hx:x.Fit)
include h pH h0 hd bQ Ju Fw Nv y7 hm hx
theorem G1 (k:Nat):zx fx gx x d k=zx fm gm m d k:=by
 unfold zx
 cases he:m.aH[k]? with
 | none=>
   have:x.aH[k]? =none:=by
    rw[List.getElem?_eq_none_iff] at he ⊢
    rw[h.len];exact he
   rw[this]
 | some e=>
   obtain⟨e',h1,h2,h3,h4,h5,h6⟩:=h.e k e he
   rw[h1]
   dsimp only
   have Jv:BQ x d k e'↔BQ m d k e:=by
    unfold BQ
    rw[h.find,h2,pc h.f h3 h4]
   by_cases hs:BQ m d k e
   ·rw[if_pos (Jv.2 hs),if_pos hs]
    obtain⟨s1,s2⟩:=hs
    have h6:=h6.resolve_left (by rw[s2];exact bQ)
    subst h6
    refine zN fun n n1 n2=> ?_
    obtain⟨q,qk,qn,qe⟩: ∃q:lG m,q.k=k∧q.n=n∧q.e=e':=
     ⟨⟨k,n,e',_,_,_,he,s1,n1,List.getElem?_eq_getElem (show n - 1 <e'.line.length by omega),List.getElem?_eq_getElem (show n<e'.line.length by omega),List.getElem?_eq_getElem (show n+1 <e'.line.length by omega),hm.e,hm.el e' (List.mem_of_getElem? he)⟩,rfl,rfl,rfl⟩
    obtain⟨q',q1,q2,q3⟩:=h.WA q (by rw[qe,s2];exact bQ)
    have c1:=BN hm q
    have c2:=BN hx q'
    rw[h.can pH h0 q q' q1 q2 q3 (by rw[qe,s2];exact hd) (by rw[qe,s2];exact bQ)] at c2
    rw[q3,q2,qe,qn] at c2
    rw[qe,qn] at c1
    have k1:=xM hm q
    have k2:=xM hx q'
    have Pa:q'.cost=q.cost:=by
     have ha:q'.a=q.a:=by have h1:=q'.ha;have h2:=q.ha;rw[q3,q2,h2] at h1;injection h1 with h1;exact h1.symm
     have hb:q'.b=q.b:=by have h1:=q'.hb;have h2:=q.hb;rw[q3,q2,h2] at h1;injection h1 with h1;exact h1.symm
     have hc:q'.c=q.c:=by have h1:=q'.hc;have h2:=q.hc;rw[q3,q2,h2] at h1;injection h1 with h1;exact h1.symm
     unfold lG.cost lG.Lx
     rw[ha,hb,hc]
    rw[q3,q2,Pa,qe,qn] at k2
    rw[qe,qn] at k1
    exact⟨(B2 ((Nv e'.id n).dT c2)).trans (B2 ((Ju e'.id n).dT c1)).symm,(B2 ((y7 e'.id n).dT k2)).trans (B2 ((Fw e'.id n).dT k1)).symm⟩
   ·rw[if_neg (fun k=>hs (Jv.1 k)),if_neg hs]
theorem wD: ∀k,gV fx gx x d k=gV fm gm m d k
 | 0=>rfl
 | k+1=>by rw[gV,gV,wD k,G1 h pH h0 hd bQ Ju Fw Nv y7 hm hx k]
end
theorem G2 {d0:Int} {m x:bA} (h:fJ d0 m x) (pH:uA m) (h0:d0≠0) {d:Int} (bQ:d≠d0) (hm:m.Fit) (hx:x.Fit) (he:m.aH.length≤25) (hl: ∀e ∈ m.aH,e.line.length< 10) (kC: ∀e ∈ x.aH,e.line.length< 10):
  ∃l:List Event,l.length≤7*m.aH.length∧Ev E 529 [m.v,vi d] ⟨.own 5 (l.map Event.v),[]⟩∧Ev E 529 [x.v,vi d] ⟨.own 5 (l.map Event.v),[]⟩:=by
 obtain⟨fm,Ju⟩:=Ns (xP hm)
 obtain⟨gm,Fw⟩:=Ns (uy hm)
 obtain⟨fx,Nv⟩:=Ns (xP hx)
 obtain⟨gx,y7⟩:=Ns (uy hx)
 have LQ:=qi fm gm m d hl m.aH.length
 obtain⟨l,p1,so⟩:=zk (l:=if d< 1 then [] else gV fm gm m d m.aH.length) (by split;all_goals first| omega| simp)
 have heq: (if d< 1 then [] else gV fx gx x d x.aH.length)=(if d< 1 then [] else gV fm gm m d m.aH.length):=by
  by_cases hd:d< 1
  ·rw[if_pos hd,if_pos hd]
  ·rw[if_neg hd,if_neg hd,h.len,wD h pH h0 (by omega) bQ Ju Fw Nv y7 hm hx]
 refine⟨l,?_,xO Ju Fw (fun id=>kE hm id) (fun e=>qh hm e) he hl d p1 so,xO Nv y7 (fun id=>kE hx id) (fun e=>qh hx e) (by rw[h.len];exact he) kC d (by rw[heq];exact p1) (by rw[heq];exact so)⟩
 rw[p1.length_eq]
 split
 ·simp
 ·exact LQ
end Go.AM.Dr
namespace Go.AM
theorem jT.fit {es es':List Edge} {ps:List Pt} {left right:Int} {n:Nat} (h:kf es n) (hp:dh ps) (ha:jT es es' ps left right):kf es' (n+1):=by
 rcases ha with⟨_,rfl⟩ | ⟨_,e,rfl,_,h1⟩
 ·exact h.mono Zl
 ·refine h.snoc ?_
  rcases h1 with⟨h2,_⟩ | ⟨h2,_⟩
  ·rw[h2];exact hp
  ·rw[h2];unfold dh at*;rw[List.length_reverse];exact hp
theorem G6 {l:List Int} (hl:l.length< 9223372036854775808): ∃nd:Nat→Nat→Pt,∀i j,i< 10→j< 10→fW i j (nd i j)∧Ev E 115 [.lit 1 (l.map vi),aL i,aL j] ⟨(nd i j).v,[]⟩:=
 ⟨fun i j=>if h:i< 10∧j< 10 then Classical.choose (zI hl h.1 h.2) else⟨0,0⟩,fun i j hi hj=>by
   dsimp only
   rw[dif_pos ⟨hi,hj⟩]
   exact Classical.choose_spec (zI hl hi hj)⟩
theorem tF {i j:Nat} {p:Pt} (hi:i< 6) (hj:j< 6) (h:fW i j p):Jp p:=by
 unfold fW at h
 unfold Jp
 omega
section
variable {second cZ first:List Int} (h3:cZ.length< 9223372036854775808) {w h:Nat} (hw:w≤3) (hh:h≤2) {gd go ge ad:Nat} {x0 x1 x2 x3 x4 x5:Int}
variable {nd:Nat→Nat→Pt} (gM: ∀i j,i< 10→j< 10→fW i j (nd i j)∧Ev E 115 [.lit 1 (second.map vi),aL i,aL j] ⟨(nd i j).v,[]⟩)
include h3 hw hh gM
theorem LW (S:SS) (Pe:Nat) (g0:Nat) (hS:SS.Sub (Kt second cZ gd w h go ge x0 x1 x2 x3 x4 x5 first ad Pe [] g0 [(15,aL 0)]) S) (Q:aN→SS→Prop)
  (hQ: ∀ (es:List Edge) (ae g7:Nat),kf es 9→(∃S,jH nd (gW [x0,x1,x2,x3,x4,x5] w h) S es∧ ∀s ∈ S,∃i' j',s=Slot.h i' j')→Q (.exit 4) (Kt second cZ gd w h go ge x0 x1 x2 x3 x4 x5 first ad ae es g7 [])):a8 E Ll S Q:=by
 refine a8.Lj ?_
 refine a8.by (fun ((j,es,ae,g7):Nat×List Edge×Nat×Nat)=>Kt second cZ gd w h go ge x0 x1 x2 x3 x4 x5 first ad ae es g7 [(15,aL j)])
  (fun (j,es,_,_)=>j≤h+1∧kf es (3*j)∧(∃S,jH nd (gW [x0,x1,x2,x3,x4,x5] w h) S es∧ ∀s ∈ S,∃i' j',s=Slot.h i' j'∧j'<j)) (fun (j,_)=>h+1 - j) (0,[],Pe,g0) hS ⟨Zm,⟨Zm,Zm⟩,[],jH.nil _ _,Zm⟩ ?_
 rintro⟨j,es,ae,g7⟩ ⟨hj,he,hG⟩
 try dsimp only at hj he hG
 by_cases bz:j≤h
 ·conv=>whnf
  repeat' (first| intro g| refine st ?_| refine br ?_ ?_<;>intro hc| rfl) <;>conv=>whnf
  refine a8.by (fun ((i,es,ae,g7):Nat×List Edge×Nat×Nat)=>Kt second cZ gd w h go ge x0 x1 x2 x3 x4 x5 first ad ae es g7 [(15,aL j),(16,aL i)])
   (fun (i,es,_,_)=>i≤w∧kf es (3*j+i)∧(∃S,jH nd (gW [x0,x1,x2,x3,x4,x5] w h) S es∧ ∀s ∈ S,∃i' j',s=Slot.h i' j'∧(j'<j∨j'=j∧i'<i))) (fun (i,_)=>w - i) (0,es,ae,g7) su ⟨Zm,he,by
     obtain⟨S,k1,k2⟩:=hG
     exact⟨S,k1,fun s hs=>by
       obtain⟨i',j',k3,k4⟩:=k2 s hs
       exact⟨i',j',k3,.inl k4⟩⟩⟩ ?_
  clear he hG
  rintro⟨i,es,ae,g7⟩ ⟨hi,he,hG⟩
  try dsimp only at hi he hG
  have qg:=he.1
  by_cases Te:i<w
  ·have WI:IntKind.i64.wrap ((i:Int)+1)=((i+1:Nat):Int):=wt
   obtain⟨N1,Ix⟩:=gM i j Zl Zl
   obtain⟨N2,A6⟩:=gM (i+1) j Zl Zl
   have S1:=tF Zl Zl N1
   have S2:=tF Zl Zl N2
   have LX:Ev E 115 [.lit 1 (second.map vi),vi (IntKind.i64.wrap ((i:Int)+1)),aL j] ⟨(nd (i+1) j).v,[]⟩:=by rw[WI];exact A6
   have Vb:IntKind.i64.wrap ((j:Int) - 1)=(j:Int) - 1:=wrap64 Zl Zl
   obtain⟨ps,a1,l1,l2,LY⟩:=Jq h3 S1 S2 (by unfold fW at N1 N2;omega) (by unfold fW at N1 N2;omega) ae
   have rG:=qm (cs:=[x0,x1,x2,x3,x4,x5]) rfl hw hh (i:Int) (j:Int)
   have qd:=qm (cs:=[x0,x1,x2,x3,x4,x5]) rfl hw hh (i:Int) ((j:Int) - 1)
   rw[←Vb] at qd
   have lf:dh (nd i j::ps++[nd (i+1) j]):=⟨Zm,by simp;omega⟩
   obtain⟨es',a2,b,hA,rB⟩:=xS h3 (es:=es) Zl (ps:=nd i j::ps++[nd (i+1) j]) lf (gW [x0,x1,x2,x3,x4,x5] w h i j) (gW [x0,x1,x2,x3,x4,x5] w h i (IntKind.i64.wrap ((j:Int) - 1))) a1
   have gY:=jT.fit he lf hA
   have Tf: ∃S,jH nd (gW [x0,x1,x2,x3,x4,x5] w h) S es'∧ ∀s ∈ S,∃i' j',s=Slot.h i' j'∧(j'<j∨j'=j∧i'<i+1):=by
     obtain⟨S,k1,k2⟩:=hG
     rw[Vb] at hA
     obtain⟨S',k3,k4⟩:=k1.added (s:= .h i j) hA (fun hs=>by
       obtain⟨i',j',k5,k6⟩:=k2 _ hs
       injection k5 with k5 k7
       omega) (fun e hl hs=> ⟨Zl,Zl,⟨ps,l1,l2,.inl rfl⟩ |> fun z:dH (nd i j) (nd (i+1) j) (yN (nd i j) (nd (i+1) j)) (nd i j::ps++[nd (i+1) j])=>hl.elim (fun q=>q ▸ z) (fun q=>q ▸ z.rev),hs⟩)
     refine⟨S',k4,fun s hs=> ?_⟩
     rcases k3 with rfl| rfl
     · obtain⟨i',j',k5,k6⟩:=k2 s hs
       exact⟨i',j',k5,Zl⟩
     · rcases ZF.1 hs with hs| hs
       ·obtain⟨i',j',k5,k6⟩:=k2 s hs
        exact⟨i',j',k5,Zl⟩
       ·exact⟨i,j,ZZ.1 hs,Zl⟩
   clear hG
   conv=>whnf
   repeat' (first| intro g| apply ca Ix| apply ca LX| apply ca LY| apply ca rG| apply ca qd| apply ca rB| refine st ?_| refine br ?_ ?_<;>intro hc| rfl) <;>conv=>whnf
   exact bo.mk (i+1,es',a2,_) om ⟨om,gY,Tf⟩ su
  ·obtain rfl:i=w:=Zl
   conv=>whnf
   repeat' (first| intro g| refine st ?_| refine br ?_ ?_<;>intro hc| rfl) <;>conv=>whnf
   exact bo.mk (j+1,es,ae,g7) om ⟨om,he.mono Zl,by
     obtain⟨S,k1,k2⟩:=hG
     exact⟨S,k1,fun s hs=>by
       obtain⟨i',j',k3,k4⟩:=k2 s hs
       exact⟨i',j',k3,Zl⟩⟩⟩ su
 ·conv=>whnf
  repeat' (first| intro g| refine st ?_| refine br ?_ ?_<;>intro hc| rfl) <;>conv=>whnf
  refine⟨_,?_,hQ es ae g7 (he.mono Zl) (by
   obtain⟨S,k1,k2⟩:=hG
   exact⟨S,k1,fun s hs=>by
     obtain⟨i',j',k3,k4⟩:=k2 s hs
     exact⟨i',j',k3⟩⟩)⟩
  exact su
theorem LZ (S:SS) (kp:List Edge) (WJ:kf kp 9) (WK: ∃S,jH nd (gW [x0,x1,x2,x3,x4,x5] w h) S kp∧ ∀s ∈ S,∃i' j',s=Slot.h i' j') (Pe:Nat) (g0:Nat) (hS:SS.Sub (Kt second cZ gd w h go ge x0 x1 x2 x3 x4 x5 first ad Pe kp g0 [(17,aL 0)]) S) (Q:aN→SS→Prop)
  (hQ: ∀ (es:List Edge) (ae g7:Nat),kf es 17→(∃S,jH nd (gW [x0,x1,x2,x3,x4,x5] w h) S es∧ ∀s ∈ S,(∃i' j',s=Slot.h i' j')∨ ∃i' j',s=Slot.v i' j')→Q (.exit 8) (Kt second cZ gd w h go ge x0 x1 x2 x3 x4 x5 first ad ae es g7 [])):a8 E Lm S Q:=by
 refine a8.Lj ?_
 refine a8.by (fun ((j,es,ae,g7):Nat×List Edge×Nat×Nat)=>Kt second cZ gd w h go ge x0 x1 x2 x3 x4 x5 first ad ae es g7 [(17,aL j)])
  (fun (j,es,_,_)=>j≤h∧kf es (9+4*j)∧(∃S,jH nd (gW [x0,x1,x2,x3,x4,x5] w h) S es∧ ∀s ∈ S,(∃i' j',s=Slot.h i' j')∨ ∃i' j',s=Slot.v i' j'∧j'<j)) (fun (j,_)=>h - j) (0,kp,Pe,g0) hS ⟨Zm,WJ,by
    obtain⟨S,k1,k2⟩:=WK
    exact⟨S,k1,fun s hs=> .inl (k2 s hs)⟩⟩ ?_
 rintro⟨j,es,ae,g7⟩ ⟨hj,he,hG⟩
 try dsimp only at hj he hG
 by_cases bz:j<h
 ·conv =>whnf
  repeat' (first| intro g| refine st ?_| refine br ?_ ?_<;>intro hc| rfl) <;>conv=>whnf
  refine a8.by (fun ((i,es,ae,g7):Nat×List Edge×Nat×Nat)=>Kt second cZ gd w h go ge x0 x1 x2 x3 x4 x5 first ad ae es g7 [(17,aL j),(18,aL i)])
    (fun (i,es,_,_)=>i≤w+1∧kf es (9+4*j+i)∧(∃S,jH nd (gW [x0,x1,x2,x3,x4,x5] w h) S es∧ ∀s ∈ S,(∃i' j',s=Slot.h i' j')∨ ∃i' j',s=Slot.v i' j'∧(j'<j∨j'=j∧i'<i))) (fun (i,_)=>w+1 - i) (0,es,ae,g7) su ⟨Zm,he,by
      obtain⟨S,k1,k2⟩:=hG
      exact⟨S,k1,fun s hs=> (k2 s hs).imp id fun ⟨i',j',k3,k4⟩=> ⟨i',j',k3,.inl k4⟩⟩⟩ ?_
  clear he hG
  rintro⟨i,es,ae,g7⟩ ⟨hi,he,hG⟩
  try dsimp only at hi he hG
  have qg:=he.1
  by_cases Te:i≤w
  · have Ks:IntKind.i64.wrap ((j:Int)+1)=((j+1:Nat):Int):=wt
    obtain⟨N1,Ix⟩:=gM i j Zl Zl
    obtain⟨N2,A6⟩:=gM i (j+1) Zl Zl
    have S1:=tF Zl Zl N1
    have S2:=tF Zl Zl N2
    have LX:Ev E 115 [.lit 1 (second.map vi),aL i,vi (IntKind.i64.wrap ((j:Int)+1))] ⟨(nd i (j+1)).v,[]⟩:=by rw[Ks];exact A6
    have Vc:IntKind.i64.wrap ((i:Int) - 1)=(i:Int) - 1:=wrap64 Zl Zl
    obtain⟨ps,a1,l1,l2,LY⟩:=Jr h3 S1 S2 (by unfold fW at N1 N2;omega) (by unfold fW at N1 N2;omega) ae
    have rG:=qm (cs:=[x0,x1,x2,x3,x4,x5]) rfl hw hh ((i:Int) - 1) (j:Int)
    have qd:=qm (cs:=[x0,x1,x2,x3,x4,x5]) rfl hw hh (i:Int) (j:Int)
    rw[←Vc] at rG
    have lf:dh (nd i j::ps++[nd i (j+1)]):=⟨Zm,by simp;omega⟩
    obtain⟨es',a2,b,hA,rB⟩:=xS h3 (es:=es) Zl (ps:=nd i j::ps++[nd i (j+1)]) lf (gW [x0,x1,x2,x3,x4,x5] w h (IntKind.i64.wrap ((i:Int) - 1)) j) (gW [x0,x1,x2,x3,x4,x5] w h i j) a1
    have gY:=jT.fit he lf hA
    have Tf: (∃S,jH nd (gW [x0,x1,x2,x3,x4,x5] w h) S es'∧ ∀s ∈ S,(∃i' j',s=Slot.h i' j')∨ ∃i' j',s=Slot.v i' j'∧(j'<j∨j'=j∧i'<i+1)):=by
      obtain⟨S,k1,k2⟩:=hG
      rw[Vc] at hA
      obtain⟨S',k3,k4⟩:=k1.added (s:= .v i j) hA (fun hs=>by
        rcases k2 _ hs with⟨i',j',k5⟩ | ⟨i',j',k5,k6⟩
        ·cases k5
        ·injection k5 with k5 k7
         omega) (fun e hl hs=> ⟨Zl,Zl,⟨ps,l1,l2,.inl rfl⟩ |> fun z:dH (nd i j) (nd i (j+1)) (yO (nd i j) (nd i (j+1))) (nd i j::ps++[nd i (j+1)])=>hl.elim (fun q=>q ▸ z) (fun q=>q ▸ z.rev),hs⟩)
      refine⟨S',k4,fun s hs=> ?_⟩
      rcases k3 with rfl| rfl
      ·exact(k2 s hs).imp id fun ⟨i',j',k5,k6⟩=> ⟨i',j',k5,Zl⟩
      · rcases ZF.1 hs with hs| hs
        ·exact(k2 s hs).imp id fun ⟨i',j',k5,k6⟩=> ⟨i',j',k5,Zl⟩
        ·exact .inr ⟨i,j,ZZ.1 hs,Zl⟩
    clear hG
    conv=>whnf
    repeat' (first| intro g| apply ca Ix| apply ca LX| apply ca LY| apply ca rG| apply ca qd| apply ca rB| refine st ?_| refine br ?_ ?_<;>intro hc| rfl) <;>conv=>whnf
    exact bo.mk (i+1,es',a2,_) om ⟨om,gY,Tf⟩ su
  · obtain rfl:i=w+1:=Zl
    conv=>whnf
    repeat' (first| intro g| refine st ?_| refine br ?_ ?_<;>intro hc| rfl) <;>conv=>whnf
    exact bo.mk (j+1,es,ae,g7) om ⟨om,he.mono Zl,by
      obtain⟨S,k1,k2⟩:=hG
      exact⟨S,k1,fun s hs=> (k2 s hs).imp id fun ⟨i',j',k3,k4⟩=> ⟨i',j',k3,Zl⟩⟩⟩ su
 ·conv=>whnf
  repeat' (first| intro g| refine st ?_| refine br ?_ ?_<;>intro hc| rfl) <;>conv=>whnf
  refine⟨_,?_,hQ es ae g7 (he.mono Zl) (by
    obtain⟨S,k1,k2⟩:=hG
    exact⟨S,k1,fun s hs=> (k2 s hs).imp id fun ⟨i',j',k3,k4⟩=> ⟨i',j',k3⟩⟩)⟩
  exact su
end
end Go.AM
namespace Go.AM
def G7 (es:List Edge):Prop:= ∃nd cz S,(∀i j,i< 10→j< 10→fW i j (nd i j))∧jH nd cz S es
theorem zP {nd:Nat→Nat→Pt} {cz:Int→Int→Int} {S:List Slot} {es es':List Edge} (h:jH nd cz S es) (hS: ∀s ∈ S,(∃i' j',s=Slot.h i' j')∨ ∃i' j',s=Slot.v i' j') {ps:List Pt} {a:Int} {i j:Nat} (hi:i< 4) (hj:j< 4) (ha:jT es es' ps 28 a) (hc:a=cz i j) (hp: ∀p ∈ ps,jr (mid i j) p) (hl:dh ps): ∃S',jH nd cz S' es':=by
 subst hc
 obtain⟨S',_,k⟩:=h.added (s:= .o i j) ha (fun hs=>by
  rcases hS _ hs with⟨_,_,k⟩ | ⟨_,_,k⟩ <;>cases k) fun e kC hs=>by
  rcases kC with h| h
  ·exact⟨hi,hj,by rw[h];exact hp,by rw[h];exact hl,hs⟩
  ·exact⟨hi,hj,by rw[h];exact fun p hq=>hp p (List.mem_reverse.1 hq),by rw[h];unfold dh at*;rw[List.length_reverse];exact hl,hs⟩
 exact⟨S',k⟩
theorem L0 {i j:Nat} (hi:i< 4) (hj:j< 4):Jp (mid i j):=by
 unfold Jp mid
 dsimp only
 omega
def nD (r:eV):Prop:= ∃ (es:List Edge) (fs:List da),kf es 18∧G7 es∧fs.length≤36∧r=⟨.tuple [.lit 4 (es.map Edge.v),.own 5 (fs.map da.v)],[]⟩
theorem qo (ls:List (List Int)) {first second cZ:List Int} (h1:first.length< 9223372036854775808) (h2:second.length< 9223372036854775808) (h3:cZ.length< 9223372036854775808) {w h:Nat} (hw:w≤3) (hh:h≤2) (Iw:1≤w) (YP:1≤h) (S:SS) (gd go a0:Nat) (Lq:List Int) (h6:Lq.length=6)
   (hS:SS.Sub ⟨[(5,ee second),(6,ee cZ),(7,.ptr 672 gd 0 0),(8,aL w),(9,aL h),(10,.ptr 176 go 0 0),(11,aL 0)],[(672,⟨gd,2,false,false,some [bY first a0]⟩),(176,⟨go,6,false,false,some [.agg (Lq.map vi)]⟩)]⟩ S):
   a8 E Bz S (D9 0 (thenS (vy f83.results [eb ls] nD) fun S'=>oe E (xE Ko 11) S' (vy f83.results [eb ls] nD))):=by
 obtain⟨nd,gM⟩:=G6 h2
 have QT: ∀i j,i< 10→j< 10→fW i j (nd i j):=fun i j hi hj=> (gM i j hi hj).1
 refine ON h1 hw hh S gd go a0 Lq h6 hS _ ?_
 intro a cs mD
 match cs,mD with
 | [x0,x1,x2,x3,x4,x5],_=>
   conv=>whnf
   repeat' (first| intro g| refine st ?_| refine br ?_ ?_<;>intro hc| rfl) <;>conv=>whnf
   rename_i ge
   refine LW (gd:=gd) (go:=go) (ge:=ge) (ad:=a) (first:=first) (x0:=x0) (x1:=x1) (x2:=x2) (x3:=x3) (x4:=x4) (x5:=x5) h3 hw hh gM _ 0 g su _ ?_
   intro es ae g7 he hG
   conv=>whnf
   repeat' (first| intro g| refine st ?_| refine br ?_ ?_<;>intro hc| rfl) <;>conv=>whnf
   refine LZ (gd:=gd) (go:=go) (ge:=ge) (ad:=a) (first:=first) (x0:=x0) (x1:=x1) (x2:=x2) (x3:=x3) (x4:=x4) (x5:=x5) h3 hw hh gM _ es he hG ae g7 su _ ?_
   clear he hG es ae g7
   intro es ae g7 he hG
   obtain⟨S0,hG,WL⟩:=hG
   have qg:=he.1
   have n2:=bG h1 2 (a:=a) Zl Zl
   have nw:=bG h1 w (a:=aK first a) Zl Zl
   have nh:=bG h1 h (a:=aK first (aK first a)) Zl Zl
   have bw:=cB (l:=first) (a:=aK first a) (n:=w) Zl Zl
   have bh:=cB (l:=first) (a:=aK first (aK first a)) (n:=h) Zl Zl
   generalize cb first (aK first a) w=i at nw bw
   generalize cb first (aK first (aK first a)) h=j at nh bh
   by_cases Vd:cb first a 2=1
   · have Ew: ∀ (i j:Nat),i< 3→j< 2→ ∀ (gr:Int) (a0:Nat),∃res,Ev E 117 [.msl 4 (es.map Edge.v) 0 es.length,(mid i j).v,vi gr,.mptr 2 [bY cZ a0] 0 0] res∧ ∃ (es':List Edge) (a b:Nat),(∃ps,dh ps∧(∀p ∈ ps,jr (mid i j) p)∧jT es es' ps 28 gr)∧res=⟨.sl 0 b 0 es'.length,[(b,es'.map Edge.v),(0,[bY cZ a])]⟩:=fun i j hi hj gr a0=>BZ h3 Zl (L0 Zl Zl) gr a0
     have WM: ∀ (i j:Nat),i<w→j<h→gW [x0,x1,x2,x3,x4,x5] w h i j=[x0,x1,x2,x3,x4,x5].getD (2*i+j) 0:=fun i j hi hj=>by
      unfold gW
      rw[if_pos Zl]
      simp
     have Th: ∀ {es':List Edge} {fs:List da} {ps:List Pt} {gr:Int} (i j:Nat),i<w→j<h→dh ps→(∀p ∈ ps,jr (mid i j) p)→jT es es' ps 28 gr→gr=[x0,x1,x2,x3,x4,x5].getD (2*i+j) 0→kf es' 18∧G7 es':=fun i j hi hj hl hp hA hr=>by
      obtain⟨S',k⟩:=zP hG WL (i:=i) (j:=j) Zl Zl hA (by rw[hr,WM i j hi hj]) hp hl
      exact⟨jT.fit he hl hA,nd,_,S',QT,k⟩
     rcases(by omega:i=0∨i=1∨i=2) with rfl| rfl| rfl<;>rcases(by omega:j=0∨j=1) with rfl| rfl
     all_goals
      conv=>whnf
      repeat' (first| intro g| apply ca n2| apply ca nw| apply ca nh| refine st ?_| refine br ?_ ?_<;>intro hc| rfl) <;>conv=>whnf
      first
       | refine c6.ex (Ew 0 0 Zn Zn _ _) ?_
       | refine c6.ex (Ew 0 1 Zn Zn _ _) ?_
       | refine c6.ex (Ew 1 0 Zn Zn _ _) ?_
       | refine c6.ex (Ew 1 1 Zn Zn _ _) ?_
       | refine c6.ex (Ew 2 0 Zn Zn _ _) ?_
       | refine c6.ex (Ew 2 1 Zn Zn _ _) ?_
      rintro _ ⟨es',YQ,b,⟨ps,hl,hp,hA⟩,rfl⟩
      have WN:es'.length≤18:=(jT.fit he hl hA).1
      conv=>whnf
      repeat' (first| intro g| refine st ?_| refine br ?_ ?_<;>intro hc| rfl) <;>conv=>whnf
      refine c6.ex (zj (es:=es') Zl) ?_
      rintro _ ⟨fs,WO,rfl⟩
      conv=>whnf
      repeat' (first| intro g| refine st ?_| refine br ?_ ?_<;>intro hc| rfl) <;>conv=>whnf
      obtain⟨q1,q2⟩:=Th (fs:=fs) _ _ bw bh hl hp hA rfl
      exact⟨es',fs,q1,q2,Zl,rfl⟩
   · conv=>whnf
     repeat' (first| intro g| apply ca n2| refine st ?_| refine br ?_ ?_<;>intro hc| rfl) <;>conv=>whnf
     refine c6.ex (zj (es:=es) Zl) ?_
     rintro _ ⟨fs,WO,rfl⟩
     conv=>whnf
     repeat' (first| intro g| refine st ?_| refine br ?_ ?_<;>intro hc| rfl) <;>conv=>whnf
     exact⟨es,fs,he.mono Zl,⟨nd,_,S0,QT,hG⟩,Zl,rfl⟩
theorem B4 {ls:List (List Int)} (hs:si ls): ∃res,Ev E 83 [eb ls] res∧nD res:=by
 refine Ev.eQ rfl rfl rfl ?_
 have hl:=hs.1
 have key: ∀k,k<ls.length→ ∃l,ls[k]? =some l∧l.length< 9223372036854775808:=fun k hk=> ⟨_,bp hk,hs.2 _ (aak hk)⟩
 have gen: ∀ (first second cZ:List Int),first.length< 9223372036854775808→second.length< 9223372036854775808→cZ.length< 9223372036854775808→
   (0 <ls.length→ls[0]? =some first)→(1 <ls.length→ls[1]? =some second)→(2 <ls.length→ls[2]? =some cZ)→(ls.length≤0→first=[])→(ls.length≤1→second=[])→(ls.length≤2→cZ=[])→
   oe E f83.body (xy [eb ls]) (vy f83.results [eb ls] nD):=by
  intro first second cZ h1 h2 h3 k1 k2 k3 e1 e2 e3
  have n3:=bG h1 3 (a:=0) Zl Zl
  have n2:=bG h1 2 (a:=aK first 0) Zl Zl
  have b3:=cB (l:=first) (a:=0) (n:=3) Zl Zl
  have b2:=cB (l:=first) (a:=aK first 0) (n:=2) Zl Zl
  generalize cb first 0 3=r3 at n3 b3
  generalize cb first (aK first 0) 2=r2 at n2 b2
  have w3:IntKind.i64.wrap (1+(r3:Int))=((1+r3:Nat):Int):=wt
  have w2:IntKind.i64.wrap (1+(r2:Int))=((1+r2:Nat):Int):=wt
  have f3:V.int .i64 (IntKind.i64.wrap (1+(r3:Int)))=aL (1+r3):=by rw[w3]
  have f2:V.int .i64 (IntKind.i64.wrap (1+(r2:Int)))=aL (1+r2):=by rw[w2]
  have fin: ∀ (S:SS) (gd go:Nat),SS.Sub ⟨[(5,ee second),(6,ee cZ),(7,.ptr 672 gd 0 0),(8,V.int .i64 (IntKind.i64.wrap (1+(r3:Int)))),(9,if IntKind.i64.wrap (1+(r3:Int))=3 then vi 1 else V.int .i64 (IntKind.i64.wrap (1+(r2:Int)))),(10,.ptr 176 go 0 0),(11,vi 0)],
    [(672,⟨gd,2,false,false,some [bY first (aK first (aK first 0))]⟩),(176,⟨go,6,false,false,some [.agg [vi 0,vi 0,vi 0,vi 0,vi 0,vi 0]]⟩)]⟩ S→
    a8 E Bz S (D9 0 (thenS (vy f83.results [eb ls] nD) fun S'=>oe E (xE Ko 11) S' (vy f83.results [eb ls] nD))):=by
   intro S gd go hS
   by_cases hc:IntKind.i64.wrap (1+(r3:Int))=3
   ·rw[f3,if_pos hc] at hS
    exact qo (w:=1+r3) (h:=1) ls h1 h2 h3 Zl Zl Zl Zl S gd go _ [0,0,0,0,0,0] rfl hS
   ·rw[f3,if_neg hc,f2] at hS
    exact qo (w:=1+r3) (h:=1+r2) ls h1 h2 h3 Zl Zl Zl Zl S gd go _ [0,0,0,0,0,0] rfl hS
  rcases(by omega:ls.length=0∨ls.length=1∨ls.length=2∨2 <ls.length) with hz| hz| hz| hz
  ·obtain rfl:=e1 Zl
   obtain rfl:=e2 Zl
   obtain rfl:=e3 Zl
   conv=>whnf
   repeat' (first| intro g| apply ca n3| apply ca n2| refine st ?_| refine br ?_ ?_<;>intro hc| rfl) <;>conv=>whnf
   all_goals (rename_i gd;refine fin _ gd g ?_)
   all_goals first| rw[if_pos hc] | rw[if_neg hc]
   all_goals exact su
  ·obtain rfl:=e2 Zl
   obtain rfl:=e3 Zl
   conv=>whnf
   repeat' (first| intro g| refine wi (gk (k1 Zl)) ?_| apply ca n3| apply ca n2| refine st ?_| refine br ?_ ?_<;>intro hc| rfl) <;>conv=>whnf
   all_goals (rename_i gd;refine fin _ gd g ?_)
   all_goals first| rw[if_pos hc] | rw[if_neg hc]
   all_goals exact su
  ·obtain rfl:=e3 Zl
   conv=>whnf
   repeat' (first| intro g| refine wi (gk (k1 Zl)) ?_| refine wi (gk (k2 Zl)) ?_| apply ca n3| apply ca n2| refine st ?_| refine br ?_ ?_<;>intro hc| rfl) <;>conv=>whnf
   all_goals (rename_i gd;refine fin _ gd g ?_)
   all_goals first| rw[if_pos hc] | rw[if_neg hc]
   all_goals exact su
  ·conv=>whnf
   repeat' (first| intro g| refine wi (gk (k1 Zl)) ?_| refine wi (gk (k2 Zl)) ?_| refine wi (gk (k3 Zl)) ?_| apply ca n3| apply ca n2| refine st ?_| refine br ?_ ?_<;>intro hc| rfl) <;>conv=>whnf
   all_goals (rename_i gd;refine fin _ gd g ?_)
   all_goals first| rw[if_pos hc] | rw[if_neg hc]
   all_goals exact su
 have pick: ∀k,∃l:List Int,l.length< 9223372036854775808∧(k<ls.length→ls[k]? =some l)∧(ls.length≤k→l=[]):=by
  intro k
  by_cases hk:k<ls.length
  ·obtain⟨l,a1,a2⟩:=key k hk
   exact⟨l,a2,fun _=>a1,fun h=>Zl⟩
  ·exact⟨[],Zm,fun h=>Zl,fun _=>rfl⟩
 obtain⟨first,a1,b1,c1⟩:=pick 0
 obtain⟨second,a2,b2,c2⟩:=pick 1
 obtain⟨cZ,a3,b3,c3⟩:=pick 2
 exact gen first second cZ a1 a2 a3 b1 b2 b3 c1 c2 c3
end Go.AM
namespace Go.AM
theorem B5 {ls:List (List Int)} (hs:si ls): ∃res,Ev E 77 [eb ls] res∧ ∃m:bA,(bA.Pk m∧G7 m.aH)∧res=⟨m.vo,[]⟩:=by
 refine Ev.eQ rfl rfl rfl ?_
 have A9:si (ls.take 3):=⟨by have:=hs.1;simp;omega,fun l h=>hs.2 l (ZU h)⟩
 obtain⟨l3,h3,p3⟩:=xZ hs 3 Zl
 obtain⟨l4,h4,p4⟩:=xZ hs 4 Zl
 obtain⟨l5,h5,p5⟩:=xZ hs 5 Zl
 have n2:=fun a=>bG h3 2 (a:=a) Zl Zl
 have n3:=fun a=>bG h3 3 (a:=a) Zl Zl
 have n4:=fun a=>bG h3 4 (a:=a) Zl Zl
 have n6:=fun a=>bG h3 6 (a:=a) Zl Zl
 have n60:=fun a=>bG h3 60 (a:=a) Zl Zl
 have hl:=hs.1
 conv=>whnf
 repeat' (first| intro g| refine wi (zQ (k:=3) (by rw[List.length_map];exact Tl _)) ?_| refine st ?_| (refine eW.cJ ?_;intro s) | refine br ?_ ?_<;>intro hc| rfl) <;>conv=>whnf
 refine c6.ex (B4 A9) ?_
 rintro _ ⟨es,fs,he,WZ,hf,rfl⟩
 conv=>whnf
 repeat' (first| intro g| apply ca p3| refine st ?_| (refine eW.cJ ?_;intro s) | refine br ?_ ?_<;>intro hc| rfl) <;>conv=>whnf
 rename_i g2 g3 gf
 obtain⟨n,hn⟩: ∃n,fs.length=n:=⟨_,rfl⟩
 refine a8.by (fun ((k,fs,a):Nat×List da×Nat)=> ⟨[(0,eb ls),(2,.ptr 48 g2 0 0),(3,.ptr 64 g3 0 0),(4,.ptr 352 g 0 0),(5,aL k)],
   [(48,⟨g2,4,false,false,some [.agg [.lit 4 [],.lit 5 [],.lit 8 [],.lit 7 []]]⟩),(64,⟨g3,4,false,false,some [.agg [.lit 4 (es.map Edge.v),.sl 232 gf 0 n,.lit 8 [],.lit 7 []]]⟩),(232,⟨gf,5,true,false,some (fs.map da.v)⟩),(352,⟨g,2,false,false,some [bY l3 a]⟩)]⟩)
  (fun (k,fs,a)=>k≤n∧fs.length=n) (fun (k,fs,_)=>n - k) (0,fs,0) (by subst hn;exact su) ⟨Zm,hn⟩ ?_
 rw[hn] at hf;clear hn
 rintro⟨k,fs,a⟩ ⟨hk,nE⟩
 try dsimp only at hk nE
 by_cases bz:k<n
 ·obtain⟨f,hx⟩: ∃f,fs[k]? =some f:=⟨_,bp Zl⟩
  conv=>whnf
  repeat' (first| intro g| refine wi (nv (nv (nv (aA hx rfl)))) ?_| refine wi (nv (nv (aA hx rfl))) ?_| refine wi (nv (aA hx rfl)) ?_| refine wi (aA hx rfl) ?_| apply ca (n2 _) | apply ca (n3 _) | apply ca (n4 _) | apply ca (n6 _) | apply ca (n60 _) | refine st ?_| (refine eW.cJ ?_;intro s) | refine br ?_ ?_<;>intro hc| rfl) <;>conv=>whnf
  have G8: ∀c nm w d (x y z:V),((((fs.map da.v).set ((k:Int)).toNat x).set ((k:Int)).toNat y).set ((k:Int)).toNat z).set ((k:Int)).toNat (da.v ⟨f.id,c,nm,w,d⟩)=(fs.set k ⟨f.id,c,nm,w,d⟩).map da.v:=fun c nm w d x y z=>Tk (f:=da.v) _
  rename_i cl
  exact bo.mk (k+1,fs.set k ⟨f.id,cl,s,IntKind.i64.wrap (1+((cb l3 (aK l3 (aK l3 a)) 60:Nat):Int)),IntKind.i64.wrap (1+(IntKind.i64.wrap (((cb l3 (aK l3 (aK l3 (aK l3 a))) 4:Nat):Int)*((cb l3 (aK l3 (aK l3 (aK l3 (aK l3 a)))) 2:Nat):Int))).tmod 3)⟩,(aK l3 (aK l3 (aK l3 (aK l3 (aK l3 a)))))) om ⟨om,by simp[nE]⟩ (by(refine⟨?_,?_⟩ <;>repeat' (first| exact True.intro| refine And.intro (congrArg (fun L=> (⟨gf,5,true,false,some L⟩:Obj)) (G8 cl s (IntKind.i64.wrap (1+((cb l3 (aK l3 (aK l3 a)) 60:Nat):Int))) (IntKind.i64.wrap (1+(IntKind.i64.wrap (((cb l3 (aK l3 (aK l3 (aK l3 a))) 4:Nat):Int)*((cb l3 (aK l3 (aK l3 (aK l3 (aK l3 a)))) 2:Nat):Int))).tmod 3)) _ _ _)) ?_| refine ai ?_| refine And.intro ?_ ?_)))
 ·obtain rfl:k=n:=Zl
  conv=>whnf
  repeat' (first| intro g| apply ca p4| refine st ?_| (refine eW.cJ ?_;intro s) | refine br ?_ ?_<;>intro hc| rfl) <;>conv=>whnf
  refine c6.ex (Jy h4) ?_
  rintro _ ⟨ws,hw,rfl⟩
  conv=>whnf
  repeat' (first| intro g| apply ca p5| refine st ?_| (refine eW.cJ ?_;intro s) | refine br ?_ ?_<;>intro hc| rfl) <;>conv=>whnf
  refine c6.ex (Ey h5 (m:=⟨es,fs,ws,[]⟩) he Zl om) ?_
  rintro _ ⟨ps,hp,rfl⟩
  conv=>whnf
  repeat' (first| intro g| refine st ?_| (refine eW.cJ ?_;intro s) | refine br ?_ ?_<;>intro hc| rfl) <;>conv=>whnf
  exact⟨⟨es,fs,ws,ps⟩,⟨⟨he,om,hw,hp⟩,WZ⟩,rfl⟩
end Go.AM
