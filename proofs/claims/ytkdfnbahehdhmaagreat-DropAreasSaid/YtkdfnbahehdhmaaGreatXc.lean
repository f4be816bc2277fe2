/-
  Texts of the proof, joined by program: DaE, DaF, DaG. Own work.
-/
import Derived.Test.YtkdfnbahehdhmaaGreatXb
import Derived.Test.YtkdfnbahehdhmaaGreatXa
set_option linter.unusedSimpArgs false
set_option linter.unusedVariables false
set_option maxRecDepth 20000
set_option maxHeartbeats 4000000
namespace Go.AM
theorem jB: ∀ (ps:List Pt) (i k:Nat),(gW i (ps.map Pt.v))[k]? =match ps[k]?,ps[k+1]? with
   | some p,some q=>some [.int .i64 ((i+k:Nat):Int),.agg [vi p.x,vi p.y,vi q.x,vi q.y]]
   | _,_=>none
 | [],i,k=>by simp[gW]
 | [p],i,k=>by cases k<;>simp[gW]
 | p::q::r,i,0=>by simp[gW,Pt.v,V.cells]
 | p::q::r,i,k+1=>by
   have ih:=jB (q::r) (i+1) k
   simp only[List.map_cons,gW,List.getElem?_cons_succ] at ih ⊢
   rw[ih]
   have:i+1+k=i+(k+1):=by omega
   rw[this]
theorem sN: ∀ (ps:List V) (i:Nat),∀x ∈ gW i ps,x.length=2
 | [],i,x,h=>by simp[gW] at h
 | [p],i,x,h=>by simp[gW] at h
 | p::q::r,i,x,h=>by
   rw[gW] at h
   rcases List.mem_cons.1 h with rfl| h
   · rfl
   · exact sN (q::r) (i+1) x h
theorem qB (l:List Pt):Ev E 182 [kj l] ⟨.fn 221 [.eptr (kj l) 0],[]⟩:=by
 refine Ev.bY Oi (Oj _) rfl ?_
 (conv=>whnf);repeat' ((first| intro g| refine st ?_| (first| refine b1 ?_ ?_| refine b2 ?_ ?_| refine Br.mk ?_ ?_) <;>intro hc| exact rfl) <;>conv=>whnf)
theorem xW {l:List Pt} (hl:l.length< 1000000):E.iter 221 [(kj l).eptr 0]=some (gW 0 (l.map Pt.v)):=by
 show (if (l.map Pt.v).length< 4611686018427387904 then some (gW 0 (l.map Pt.v)) else none)=_
 rw[if_pos (by simp;omega)]
theorem BW (l:List Pt) (hl:l.length< 1000000): ∃r:Int,Ev E 144 [kj l] ⟨vi r,[]⟩:=by
 have key:=Ev.bT (R:=fun res=> ∃r:Int,res=⟨vi r,[]⟩) NP (NQ [kj l]) rfl ?_
 · obtain⟨res,h1,r,rfl⟩:=key
   exact⟨r,h1⟩
 have hr:Ev E 181 [kj l] ⟨.bool (vM l),[]⟩:=sK l (by omega)
 have T7:=qB l
 (conv=>whnf);repeat' ((first| intro g| refine ak.mk _ (hr) ?_| refine ak.mk _ (T7) ?_| refine st ?_| (first| refine b1 ?_ ?_| refine b2 ?_ ?_| refine Br.mk ?_ ?_) <;>intro hc| exact rfl) <;>conv=>whnf)
 · exact⟨_,rfl⟩
 · exact⟨_,rfl⟩
 · exact⟨_,rfl⟩
 rename_i YG s8 s9 GR
 obtain⟨cl,sV⟩:=zI l hl
 generalize hz:IntKind.i64.wrap (((l.map Pt.v).length:Int) - 2)=z
 refine pj.by (gW 0 (l.map Pt.v)) rfl (xW hl) (fun x hx=>sN _ _ x hx) (fun (_:Unit)=> [(32,⟨YG,1,false,false,some [kj l]⟩),(64,⟨GR,1,false,false,some [vi 0]⟩),(80,⟨g,1,false,false,some [vi z]⟩)]) (fun k a=>True) () (by(repeat' (first| exact True.intro| refine ai ?_| refine And.intro ?_ ?_))) trivial ?_ ?_
 · rintro k x u hx v
   rw[jB] at hx
   cases hp:l[k]? with
   | none=>rw[hp] at hx;cases hx
   | some p=>
   cases hq:l[k+1]? with
   | none=>rw[hp,hq] at hx;cases hx
   | some q=>
   rw[hp,hq] at hx
   injection hx with hx;subst hx
   have hk:=(List.getElem?_eq_some_iff.1 hq).1
   have hw:IntKind.i64.wrap (((0+k:Nat):Int)+1)=((k+1:Nat):Int):=(wrap64 (by omega) (by omega)).trans (by omega)
   have AB:Ev E 182 [V.lit 2 (aF (l.map Pt.v) 0 ((IntKind.i64.wrap (((0+k:Nat):Int)+1)).toNat - 0))] ⟨.fn 221 [.eptr (kj (l.take (k+1))) 0],[]⟩:=by
     rw[hw]
     have e:aF (l.map Pt.v) 0 (((k+1:Nat):Int).toNat - 0)=(l.take (k+1)).map Pt.v:=by
      simp[aF,List.map_take]
     rw[e];exact qB _
   have Rz: (l.take (k+1)).length< 1000000:=by simp;omega
   generalize l.take (k+1)=m at AB Rz
   generalize ((0+k:Nat):Int)=kk at hw AB
   clear T7 hr hp hq hz hc s8 s9
   (conv=>whnf);repeat' ((first| intro g| refine ak.mk _ (AB) ?_| refine st ?_| (first| refine b1 ?_ ?_| refine b2 ?_ ?_| refine Br.mk ?_ ?_) <;>intro hc| exact rfl) <;>conv=>whnf)
   · exact⟨_,rfl⟩
   rename_i g80 yp
   refine pj.by (gW 0 (m.map Pt.v)) rfl (xW Rz) (fun x hx=>sN _ _ x hx) (fun (_:Unit)=> [(32,⟨YG,1,false,false,some [kj l]⟩),(64,⟨GR,1,false,false,some [vi 0]⟩),(80,⟨g80,1,false,false,some [vi z]⟩),
     (96,⟨yp,1,false,false,some [vi kk]⟩),(112,⟨g,4,false,false,some [.agg [vi p.x,vi p.y,vi q.x,vi q.y]]⟩)]) (fun k a=>True) () (by(repeat' (first| exact True.intro| refine ai ?_| refine And.intro ?_ ?_))) trivial ?_ ?_
   · rintro k2 x2 u2 Ez v2
     rw[jB] at Ez
     cases Hb:m[k2]? with
     | none=>rw[Hb] at Ez;cases Ez
     | some p2=>
     cases EJ:m[k2+1]? with
     | none=>rw[Hb,EJ] at Ez;cases Ez
     | some q2=>
     rw[Hb,EJ] at Ez
     injection Ez with Ez;subst Ez
     generalize ((0+k2:Nat):Int)=kk2
     clear Hb EJ Rz AB
     (conv=>whnf);repeat' ((first| intro g| refine ak.mk _ (sV) ?_| refine ak.mk _ (sL p q p2 q2) ?_| refine st ?_| (first| refine b1 ?_ ?_| refine b2 ?_ ?_| refine Br.mk ?_ ?_) <;>intro hc| exact rfl) <;>conv=>whnf)
     all_goals first| (refine EX.mk () trivial ?_; (repeat' (first| exact True.intro| refine ai ?_| refine And.intro ?_ ?_))) | exact⟨_,rfl⟩
   · rintro _ _
     (conv=>whnf);repeat' ((first| intro g| refine st ?_| (first| refine b1 ?_ ?_| refine b2 ?_ ?_| refine Br.mk ?_ ?_) <;>intro hc| exact rfl) <;>conv=>whnf)
     exact EX.mk () trivial (by(repeat' (first| exact True.intro| refine ai ?_| refine And.intro ?_ ?_)))
 · rintro _ _
   (conv=>whnf);repeat' ((first| intro g| refine st ?_| (first| refine b1 ?_ ?_| refine b2 ?_ ?_| refine Br.mk ?_ ?_) <;>intro hc| exact rfl) <;>conv=>whnf)
   exact⟨_,rfl⟩
end Go.AM
set_option maxRecDepth 20000
set_option maxHeartbeats 2000000
namespace Go.AM
theorem BX (l:List Edge) (h:l.length< 1000000):Ev E 28 [.lit 4 (l.map Edge.v)] ⟨.own 4 (l.map Edge.v),[]⟩:=
 Ev.ext (by rw[Vk];simp[dQ];omega)
theorem BY (l:List df) (h:l.length< 1000000):Ev E 29 [.lit 5 (l.map df.v)] ⟨.own 5 (l.map df.v),[]⟩:=
 Ev.ext (by rw[Vl];simp[dQ];omega)
theorem BZ (l:List Way) (h:l.length< 1000000):Ev E 30 [.lit 8 (l.map Way.v)] ⟨.own 8 (l.map Way.v),[]⟩:=
 Ev.ext (by rw[Vm];simp[dQ];omega)
theorem B0 (l:List Place) (h:l.length< 1000000):Ev E 31 [.lit 7 (l.map Place.v)] ⟨.own 7 (l.map Place.v),[]⟩:=
 Ev.ext (by rw[Vn];simp[dQ];omega)
theorem ng (l:List Pt) (h:l.length< 1000000):Ev E 32 [kj l] ⟨.own 2 (l.map Pt.v),[]⟩:=
 Ev.ext (by rw[Vo];simp[dQ,kj];omega)
structure cJ.Fit (m:cJ):Prop where
 e:m.aY.length< 1000000
 f:m.de.length< 1000000
 w:m.ways.length< 1000000
 p:m.eH.length< 1000000
 el: ∀e ∈ m.aY,e.line.length< 1000000
 wl: ∀w ∈ m.ways,w.line.length< 1000000
theorem B1 (e:Edge) (id:Int):Ev E 557 [e.v,.eptr (vi id) 0] ⟨.bool (decide (e.id=id)),[]⟩:=by
 refine Ev.bY OF (OG _) rfl ?_
 (conv=>whnf);repeat' ((first| intro g| refine st ?_| (first| refine b1 ?_ ?_| refine b2 ?_ ?_| refine Br.mk ?_ ?_) <;>intro hc| exact rfl) <;>conv=>whnf)
def AD (es:List Edge) (id:Int):Int:=firstIdx (fun e=>decide (e.id=id)) es
theorem EA {m:cJ} (h:m.Fit) (id:Int):Ev E 543 [m.v,vi id] ⟨vi (AD m.aY id),[]⟩:=by
 have he:=h.e
 have hi:=El (l:=m.aY) (caps:=[.eptr (vi id) 0]) rfl (by omega) (fun x=>B1 x id) rfl
 refine Ev.bY NZ (N0 _) rfl ?_
 (conv=>whnf);repeat' ((first| intro g| refine ak.mk _ (hi) ?_| refine st ?_| (first| refine b1 ?_ ?_| refine b2 ?_ ?_| refine Br.mk ?_ ?_) <;>intro hc| exact rfl) <;>conv=>whnf)
 all_goals rfl
structure gB (m:cJ) where
 k:Nat
 n:Nat
 e:Edge
 a:Pt
 b:Pt
 c:Pt
 he:m.aY[k]? =some e
 hf:AD m.aY e.id=(k:Int)
 hn:1≤n
 ha:e.line[n - 1]? =some a
 hb:e.line[n]? =some b
 hc:e.line[n+1]? =some c
 oV:m.aY.length< 1000000
 hl:e.line.length< 1000000
def gB.v {m:cJ} (q:gB m):V:= .agg [aM q.k,aM q.n,vi q.a.x,vi q.a.y,vi q.b.x,vi q.b.y,vi q.c.x,vi q.c.y]
theorem EB {m:cJ} (h:m.Fit) (q:gB m):Ev E 534 [m.v,vi q.e.id,aM q.n] ⟨.tuple [q.v,vi 0],[]⟩:=by
 have hf:=EA h q.e.id
 obtain⟨k,n,e,a,b,c,he,HW,hn,ha,hb,hc,oV,hl⟩:=q
 dsimp only at hf ⊢
 rw[HW] at hf
 have hk:=(List.getElem?_eq_some_iff.1 he).1
 have sV:=(List.getElem?_eq_some_iff.1 hc).1
 have w1:IntKind.i64.wrap ((n:Int) - 1)=((n - 1:Nat):Int):=(wrap64 (by omega) (by omega)).trans (by omega)
 have w2:IntKind.i64.wrap ((n:Int)+1)=((n+1:Nat):Int):=(wrap64 (by omega) (by omega)).trans (by omega)
 have w3:IntKind.i64.wrap (((e.line.map Pt.v).length:Int) - 2)=(e.line.length:Int) - 2:=by rw[List.length_map];exact wrap64 (by omega) (by omega)
 refine Ev.bY NJ (NK _) rfl ?_
 (conv=>whnf);repeat' ((first| ((exfalso;omega)) | intro g| refine bd.mk _ (aJ he rfl) ?_| refine bd.mk _ (aJ ha w1) ?_| refine bd.mk _ (aJ hb rfl) ?_| refine bd.mk _ (aJ hc w2) ?_| refine ak.mk _ (hf) ?_| refine st ?_| (first| refine b1 ?_ ?_| refine b2 ?_ ?_| refine Br.mk ?_ ?_) <;>intro hc| exact rfl) <;>conv=>whnf)
theorem EC (x:Int): -9223372036854775808≤fj x∧fj x≤9223372036854775807:=by
 unfold fj IntKind.wrap
 simp only[IntKind.bits,IntKind.signed]
 simp
 omega
theorem B2 (f:df) (id:Int):Ev E 551 [f.v,.eptr (vi id) 0] ⟨.bool (decide (f.id=id)),[]⟩:=by
 refine Ev.bY Ob (Od _) rfl ?_
 (conv=>whnf);repeat' ((first| intro g| refine st ?_| (first| refine b1 ?_ ?_| refine b2 ?_ ?_| refine Br.mk ?_ ?_) <;>intro hc| exact rfl) <;>conv=>whnf)
theorem sO {m:cJ} (h:m.Fit) (id:Int): ∃r:Int,Ev E 550 [vi id,.eptr m.v 0] ⟨vi r,[]⟩:=by
 have key:=Ev.bT (R:=fun res=> ∃r:Int,res=⟨vi r,[]⟩) N7 (N8 [vi id,.eptr m.v 0]) rfl ?_
 · obtain⟨res,h1,r,rfl⟩:=key
   exact⟨r,h1⟩
 have hf:=h.f
 have hi:=Em (l:=m.de) (caps:=[.eptr (vi id) 0]) rfl (by omega) (fun x=>B2 x id) rfl
 rcases kF (fun f:df=>decide (f.id=id)) m.de with⟨h1,_⟩ | ⟨i,x,h1,h2,h3⟩
 · rw[h1] at hi
   (conv=>whnf);repeat' ((first| intro g| refine ak.mk _ (hi) ?_| refine st ?_| (first| refine b1 ?_ ?_| refine b2 ?_ ?_| refine Br.mk ?_ ?_) <;>intro hc| exact rfl) <;>conv=>whnf)
   all_goals exact⟨_,rfl⟩
 · rw[h1] at hi
   have:=(List.getElem?_eq_some_iff.1 h2).1
   (conv=>whnf);repeat' ((first| ((exfalso;omega)) | intro g| refine bd.mk _ (aJ h2 rfl) ?_| refine ak.mk _ (hi) ?_| refine st ?_| (first| refine b1 ?_ ?_| refine b2 ?_ ?_| refine Br.mk ?_ ?_) <;>intro hc| exact rfl) <;>conv=>whnf)
   all_goals exact⟨_,rfl⟩
theorem B3 {m:cJ} (h:m.Fit) (e:Edge): ∃r:Int,Ev E 540 [m.v,e.v] ⟨vi r,[]⟩:=by
 have key:=Ev.bT (R:=fun res=> ∃r:Int,res=⟨vi r,[]⟩) NN (NO [m.v,e.v]) rfl ?_
 · obtain⟨res,h1,r,rfl⟩:=key
   exact⟨r,h1⟩
 obtain⟨r1,h1⟩:=sO h e.left
 obtain⟨r2,h2⟩:=sO h e.right
 (conv=>whnf);repeat' ((first| intro g| refine ak.mk _ (h1) ?_| refine ak.mk _ (h2) ?_| refine st ?_| (first| refine b1 ?_ ?_| refine b2 ?_ ?_| refine Br.mk ?_ ?_) <;>intro hc| exact rfl) <;>conv=>whnf)
 all_goals exact⟨_,rfl⟩
def pN (a b:Pt):Int:=fj (fj (a.x*b.y) - fj (a.y*b.x))
theorem xX (a b:Pt):Ev E 219 [a.v,b.v] ⟨vi (pN a b),[]⟩:=by
 refine Ev.bY NT (NU _) rfl ?_
 (conv=>whnf);repeat' ((first| intro g| refine st ?_| (first| refine b1 ?_ ?_| refine b2 ?_ ?_| refine Br.mk ?_ ?_) <;>intro hc| exact rfl) <;>conv=>whnf)
def ED (a b:Pt):Pt:=⟨fj (a.x - b.x),fj (a.y - b.y)⟩
def gB.GS {m:cJ} (q:gB m):Int:=pN (ED q.b q.a) (ED q.c q.a)
def ma (x:Int):Int:=if x<fj (0 - x) then fj (0 - x) else x
theorem GU {x:Int} (h:x≤9223372036854775807):ma x≤9223372036854775807:=by
 unfold ma
 split
 · exact(EC _).2
 · exact h
noncomputable def gB.cost {m:cJ} (q:gB m):Int:=oN (ma q.GS)
theorem GB {m:cJ} (h:m.Fit) (q:gB m):Ev E 527 [m.v,vi q.e.id,aM q.n] ⟨vi q.cost,[]⟩:=by
 have pz:=EB h q
 have hs:=GP (n:=ma q.GS) (GU (EC _).2)
 refine Ev.bY NF (NG _) rfl ?_
 (conv=>whnf);repeat' ((first| intro g| refine ak.mk _ (pz) ?_| refine ak.mk _ (vN q.b q.a) ?_| refine ak.mk _ (vN q.c q.a) ?_| refine ak.mk _ (xX (ED q.b q.a) (ED q.c q.a)) ?_| refine ak.mk _ (hs) ?_| refine st ?_| (first| refine b1 ?_ ?_| refine b2 ?_ ?_| refine Br.mk ?_ ?_) <;>intro hc| exact rfl) <;>conv=>whnf)
end Go.AM
set_option maxRecDepth 20000
set_option maxHeartbeats 2000000
namespace Go.AM
theorem xY {l:List Pt} {i:Nat} (hi:i<l.length) (h:l.length< 1000000):Ev E 547 [.msl 2 (l.map Pt.v) 0 l.length,aM i,vi (IntKind.i64.wrap ((i:Int)+1))] ⟨.sl 0 0 0 (l.length - 1),[(0,(l.eraseIdx i).map Pt.v++[(Pt.mk 0 0).v])]⟩:=by
 have hw:IntKind.i64.wrap ((i:Int)+1)=((i+1:Nat):Int):=(wrap64 (by omega) (by omega)).trans (by omega)
 rw[hw]
 refine Ev.bY N5 (N6 _) rfl ?_
 have LI:aF (l.map Pt.v) (0+((i+1:Nat):Int).toNat) (l.length - ((i+1:Nat):Int).toNat)=(l.drop (i+1)).map Pt.v:=by
  rw[gV]
  congr 1
  rw[List.take_of_length_le (by simp)]
  simp
 (conv=>whnf);repeat' ((first| intro g| refine ep.mk (by first| ((and_intros<;>first| rfl| exact cG (cG (Pt.bP _) (Pt.bP _)) (dL rfl) | exact kE (cG (cG (Pt.bP _) (Pt.bP _)) (dL rfl)) | (simp only[overwrite,aF,List.length_map,List.length_append,List.length_cons,List.length_nil,List.length_take,List.length_drop];omega) | omega)) | fail) ?_| refine bd.mk _ (LI) ?_| refine st ?_| (first| refine b1 ?_ ?_| refine b2 ?_ ?_| refine Br.mk ?_ ?_) <;>intro hc| exact rfl) <;>conv=>whnf)
 obtain⟨A,x,B,rfl,hA⟩: ∃A x B,l=A++x::B∧A.length=i:=⟨l.take i,l[i],l.drop (i+1),by simp,by simp;omega⟩
 have e1: (A++x::B).drop (i+1)=B:=by
  rw[←hA];simp[List.drop_append]
 have e2: (A++x::B).eraseIdx i=A++B:=by
  rw[←hA];simp[List.eraseIdx_append_of_length_le]
 have e3: ((i:Int).toNat - 0+((B).map Pt.v).length)=A.length+B.length:=by simp;omega
 rw[e1,e2,e3]
 have e4: ((A.length+B.length:Nat):Int).toNat=A.length+B.length:=by omega
 have e5: (((A++x::B).length:Nat):Int).toNat - (A.length+B.length)=1:=by simp;omega
 have e6: (A++x::B).length - 1=A.length+B.length:=by simp
 rw[e4,e5,e6]
 subst hA
 show (⟨V.sl 0 0 0 _,[(0,_)]⟩:eS)=_
 congr 3
 simp[overwrite,List.take_append,List.drop_append]
 rw[List.take_of_length_le (by simp),List.drop_eq_nil_of_le (by simp;omega),List.drop_eq_nil_of_le (by simp;omega),List.drop_eq_nil_of_le (by simp;omega),List.drop_eq_nil_of_le (by simp;omega)]
 rfl
def gB.rest {m:cJ} (q:gB m):List Pt:=q.e.line.eraseIdx q.n
theorem AE {m:cJ} (q:gB m):Ev E 535 [q.v,m.v] ⟨.own 2 (q.rest.map Pt.v),[]⟩:=by
 have sV:=ng q.e.line q.hl
 have hb:=(List.getElem?_eq_some_iff.1 q.hb).1
 have Xq:=xY (i:=q.n) hb q.hl
 have hle:q.e.line.length - 1=q.rest.length:=by simp[gB.rest,List.length_eraseIdx,hb]
 have T8:Ev E 547 [.msl 2 (q.e.line.map Pt.v) 0 (q.e.line.map Pt.v).length,aM q.n,vi (IntKind.i64.wrap ((q.n:Int)+1))] ⟨.sl 0 0 0 (q.e.line.length - 1),[(0,q.rest.map Pt.v++[(Pt.mk 0 0).v])]⟩:=by
  rw[List.length_map];exact Xq
 refine Ev.bY NL (NM _) rfl ?_
 have he:=q.he
 (conv=>whnf);repeat' ((first| intro g| refine bd.mk _ (aJ he rfl) ?_| refine bd.mk _ (E0 hle) ?_| refine ak.mk _ (sV) ?_| refine ak.mk _ (T8) ?_| refine st ?_| (first| refine b1 ?_ ?_| refine b2 ?_ ?_| refine Br.mk ?_ ?_) <;>intro hc| exact rfl) <;>conv=>whnf)
end Go.AM
