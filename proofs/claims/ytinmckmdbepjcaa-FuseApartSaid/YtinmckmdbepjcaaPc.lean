/-
  Texts of the proof, joined by program: FpD, FpF. Own work.
-/
import Derived.Test.YtinmckmdbepjcaaGc
set_option linter.unusedSimpArgs false
set_option linter.unusedVariables false
set_option maxRecDepth 20000
namespace Go.AM
theorem Z5 {α β:Type} {f g:α→Option β}: ∀l:List α,(∀x ∈ l,f x=g x)→l.filterMap f=l.filterMap g
 | [],_=>rfl
 | x::l,h=>by rw[List.filterMap_cons,List.filterMap_cons,h x (by simp),Z5 l fun y hy=>h y (by simp[hy])]
theorem ZB (n:Int):IntKind.i64.wrap n=if n % 18446744073709551616≥9223372036854775808 then n % 18446744073709551616 - 18446744073709551616 else n % 18446744073709551616:=by
 simp[IntKind.wrap,IntKind.bits,IntKind.signed]
theorem aa4 (s x:Int):EE (EE s+x)=EE (s+x):=by
 unfold EE
 rw[ZB (IntKind.i64.wrap s+x),ZB (s+x),ZB s]
 have e: ∀t:Int,(if t≥9223372036854775808 then t - 18446744073709551616 else t) % 18446744073709551616=t % 18446744073709551616:=by intro t;split<;>omega
 have: ((if s % 18446744073709551616≥9223372036854775808 then s % 18446744073709551616 - 18446744073709551616 else s % 18446744073709551616)+x) % 18446744073709551616=(s+x) % 18446744073709551616:=by split<;>omega
 rw[this]
noncomputable def aaR (es:List Edge) (a b:Int):Int:=((es.filter (b9 a b)).map fun e=>Y8 e.line).sum
theorem Z6 (es:List Edge) (a b:Int): ∀n,n≤es.length→Y9 es a b n=EE (aaR (es.take n) a b)
 | 0,_=>by simp[Y9,aaR];decide
 | n+1,hn=>by
   have ih:=Z6 es a b n (by omega)
   obtain⟨x,hx⟩: ∃x,es[n]? =some x:=⟨_,aL (by omega)⟩
   unfold aaR at*
   rw[Zo hx]
   cases ht:b9 a b x with
   | false=>rw[ZO hx ht,ih];simp
   | true=>rw[Zz hx ht,ih,aa4];simp
theorem aan (es:List Edge) (a b:Int):brd es a b=EE (aaR es a b):=by
 have:=Z6 es a b es.length (Nat.le_refl _)
 rw[List.take_length] at this
 exact this
def YU {α:Type} (l:List α) (k:Nat):List α:=l.drop k++l.take k
theorem Zi {α:Type} {l:List α} {k:Nat} {x:α}:x ∈ YU l k↔x ∈ l:=by
 unfold YU
 rw[List.mem_append,or_comm,←List.mem_append,List.take_append_drop]
theorem Zj {α:Type} (l:List α) (k:Nat): (YU l k).length=l.length:=by unfold YU;simp;omega
theorem aa5 (es:List Edge) (k:Nat) (a b:Int):brd (YU es k) a b=brd es a b:=by
 rw[aan,aan]
 congr 1
 unfold aaR YU
 conv=>rhs;rw[←List.take_append_drop k es]
 simp only[List.filter_append,List.map_append,List.sum_append]
 omega
theorem aa6 (es:List Edge) (k:Nat) (p:Edge→Bool): (YU es k).any p=es.any p:=by
 unfold YU
 conv=>rhs;rw[←List.take_append_drop k es]
 rw[List.any_append,List.any_append,Bool.or_comm]
def YP (d n:Int) (f:ar):ar:=if f.bg=d then f else⟨f.id,f.cls,[111,116,104,101,114],n,99⟩
theorem ZP (d n:Int) (f:ar): (YP d n f).id=f.id:=by unfold YP;split<;>rfl
def Zl (m:aG) (d n:Int) (k k':Nat):aG:=⟨YU m.an k,(YU m.ah k').map (YP d n),[],[]⟩
section
variable {m:aG} (oK:m.ah.Pairwise fun a b=>a.id<b.id) {d n:Int} (hd:d≠99) {k k':Nat}
include oK
theorem aa7 {f g:ar} (hf:f ∈ m.ah) (hg:g ∈ m.ah) (h:f.id=g.id):f=g:=by
 obtain⟨i,hi,rfl⟩:=List.mem_iff_getElem.1 hf
 obtain⟨j,hj,rfl⟩:=List.mem_iff_getElem.1 hg
 rcases Nat.lt_trichotomy i j with bk| rfl| bk
 · have:=(List.pairwise_iff_getElem.1 oK) i j hi hj bk;omega
 · rfl
 · have:=(List.pairwise_iff_getElem.1 oK) j i hj hi bk;omega
omit oK in
theorem ZQ:YK (Zl m d n k k')=YK m:=by
 refine aar (Y1 _) (Y1 _) fun x=> ?_
 rw[YW,YW]
 have key: ∀ (M:aG),(∃ (i:Nat) (f:ar),i<M.ah.length∧M.ah[i]? =some f∧f.id=x)↔ ∃f ∈ M.ah,f.id=x:=fun M=>
   ⟨fun ⟨i,f,_,h1,h2⟩=> ⟨f,List.mem_of_getElem? h1,h2⟩,fun ⟨f,h1,h2⟩=>by
     obtain⟨i,hi⟩:=List.getElem?_of_mem h1
     exact⟨i,f,(List.getElem?_eq_some_iff.1 hi).1,hi,h2⟩⟩
 rw[key,key]
 constructor
 · rintro⟨f,hf,rfl⟩
   obtain⟨g,hg,rfl⟩:=List.mem_map.1 hf
   exact⟨g,Zi.1 hg,(ZP ..).symm⟩
 · rintro⟨f,hf,rfl⟩
   exact⟨_,List.mem_map.2 ⟨f,Zi.2 hf,rfl⟩,ZP ..⟩
theorem ZC {id:Int} (h:id ∈ YK m): ∃ (i j:Nat) (f:ar),findF m.ah id=some i∧m.ah[i]? =some f∧findF (Zl m d n k k').ah id=some j∧(Zl m d n k k').ah[j]? =some (YP d n f):=by
 obtain⟨p,hp⟩:=List.getElem?_of_mem h
 obtain⟨i,f,hi,hf⟩:=YQ hp
 have h2:id ∈ YK (Zl m d n k k'):=by rw[ZQ];exact h
 obtain⟨q,hq⟩:=List.getElem?_of_mem h2
 obtain⟨j,g,hj,hg⟩:=YQ hq
 obtain⟨f0,XO,acO,_⟩:=cu hi
 obtain⟨g0,H0,abO,_⟩:=cu hj
 rw[hf] at XO;obtain rfl:=Option.some.inj XO
 rw[hg] at H0;obtain rfl:=Option.some.inj H0
 obtain⟨f2,Ay,Ql⟩:=List.mem_map.1 (List.mem_of_getElem? hg)
 have:f2=f:=aa7 oK (Zi.1 Ay) (List.mem_of_getElem? hf) (by rw[acO,←abO,←Ql,ZP])
 subst this
 exact⟨i,j,f2,hi,hf,hj,by rw[hg,Ql]⟩
include hd
theorem aa8 {id x:Int} {i:Nat} {f:ar} (hi:findF m.ah id=some i) (hf:m.ah[i]? =some f) (Zb:f.bg=d) (hx:x ∈ YK m):jX (Zl m d n k k') id x=jX m id x:=by
 have RX:id ∈ YK m:=by
   obtain⟨g,hg,abO,_⟩:=cu hi
   exact(YW m id).2 ⟨i,g,(List.getElem?_eq_some_iff.1 hg).1,hg,abO⟩
 obtain⟨i1,j1,f1,a1,a2,a3,a4⟩:=ZC oK (d:=d) (n:=n) (k:=k) (k':=k') RX
 rw[hi] at a1;obtain rfl:=Option.some.inj a1
 rw[hf] at a2;obtain rfl:=Option.some.inj a2
 obtain⟨i2,j2,g,b1,b2,b3,Yy⟩:=ZC oK (d:=d) (n:=n) (k:=k) (k':=k') hx
 unfold jX
 rw[hi,b1,a3,b3]
 simp only[hf,b2,a4,Yy]
 have AE:YP d n f=f:=by unfold YP;rw[if_pos Zb]
 rw[AE]
 unfold IG
 by_cases ZY:id=x
 · simp[ZY]
 rw[if_neg ZY,if_neg ZY]
 by_cases vb:g.bg=d
 · have BK:YP d n g=g:=by unfold YP;rw[if_pos vb]
   rw[BK]
   simp only[Zl,aa6]
 · have BK: (YP d n g).bg=99:=by unfold YP;rw[if_neg vb]
   rw[if_pos (.inl (by rw[BK,Zb];exact hd)),if_pos (.inl (by rw[Zb];exact fun h=>vb h.symm))]
theorem aa9 {id:Int} (h:id ∈ YK m):evF (Zl m d n k k') d id=evF m d id:=by
 obtain⟨i,j,f,a1,a2,a3,a4⟩:=ZC oK (d:=d) (n:=n) (k:=k) (k':=k') h
 by_cases h1:d< 1
 · rw[Y6 h1,Y6 h1]
 by_cases Zb:f.bg=d
 · have hc:YP d n f=f:=by unfold YP;rw[if_pos Zb]
   rw[hc] at a4
   have hn:ZK (Zl m d n k k') id=ZK m id:=by
    unfold ZK YO
    rw[ZQ]
    refine List.filter_congr fun x hx=> ?_
    show (!decide (jX (Zl m d n k k') id x≠0))= !decide (jX m id x≠0)
    rw[aa8 oK hd a1 a2 Zb hx]
   have hb:brd (Zl m d n k k').an id=brd m.an id:=by
    funext y
    exact aa5 _ _ _ _
   by_cases hp:0 < (ZK m id).length
   · rw[Zg h1 a1 a2 Zb hp,Zg h1 a3 a4 Zb (by rw[hn];exact hp),hn,hb]
   · rw[Zf h1 a1 a2 Zb hp,Zf h1 a3 a4 Zb (by rw[hn];exact hp)]
 · have hc: (YP d n f).bg=99:=by unfold YP;rw[if_neg Zb]
   rw[Y7 h1 a1 a2 Zb,Y7 h1 a3 a4 (by rw[hc];exact fun h=>hd h.symm)]
theorem aba:ZM (Zl m d n k k') d=ZM m d:=by
 unfold ZM ZL
 rw[ZQ]
 refine Z5 _ fun x hx=> ?_
 exact aa9 oK hd (List.mem_of_mem_take hx)
end
end Go.AM
set_option maxRecDepth 20000
namespace Go.AM
abbrev aiS (g8 dK gE gF ne YE kd:Nat) (t nn d:Int) (M:V) (D YF:List V) (L:List ar) (n i:Nat):SS:=
 ⟨[(1,.int .u8 t),(2,vi nn),(7,.bool true),(8,.ptr 144 g8 0 0),(18,.lit 1 D),(19,aF YE),(20,aF kd),(10,vi d),(11,.ptr 192 dK 0 0),(66,aF n),(67,aF i)],
  [(144,⟨g8,4,false,false,some [M]⟩),(192,⟨dK,4,false,false,some [.agg [.sl 528 gE 0 ne,.sl 816 gF 0 n,.nils,.nils]]⟩),(528,⟨gE,4,true,false,some YF⟩),(816,⟨gF,5,true,false,some (L.map ar.v)⟩)]⟩
set_option maxHeartbeats 4000000 in
theorem acr {M:V} {D YF:List V} {g8 dK gE gF ne YE kd n i:Nat} {t nn d:Int} {L:List ar} {x:ar} {Q:aW→SS→Prop} (hx:L[i]? =some x) (hn:L.length=n) (hi:i<n) (hb:n< 1000) (hd:x.bg=d)
  (hQ: ∀T' O',(aiS g8 dK gE gF ne YE kd t nn d M D YF L n (i+1)).Sub ⟨T',O'⟩→Q .normal ⟨T',O'⟩):gY E ZJ (aiS g8 dK gE gF ne YE kd t nn d M D YF L n i) Q:=by
 have sA: (L.map ar.v)[i]? =some x.v:=by simp[hx]
 (conv=>whnf);repeat' ((first| intro g| refine aH.mk _ (sA) ?_| refine st ?_| (first| refine b1 ?_ ?_| refine b2 ?_ ?_| refine Br.mk ?_ ?_) <;>intro hc| exact rfl) <;>conv=>whnf)
 exact hQ _ _ (by(refine⟨?_,?_⟩ <;>repeat' (first| exact True.intro| refine ai ?_| refine And.intro ?_ ?_)))
set_option maxHeartbeats 4000000 in
theorem abP {M:V} {D YF:List V} {g8 dK gE gF ne YE kd n i:Nat} {t nn d:Int} {L:List ar} {x:ar} {Q:aW→SS→Prop} (hx:L[i]? =some x) (hn:L.length=n) (hi:i<n) (hb:n< 1000) (hd: ¬x.bg=d)
  (hQ: ∀T' O',(aiS g8 dK gE gF ne YE kd t nn d M D YF (L.set i ⟨x.id,x.cls,[111,116,104,101,114],nn,99⟩) n (i+1)).Sub ⟨T',O'⟩→Q .normal ⟨T',O'⟩):gY E ZJ (aiS g8 dK gE gF ne YE kd t nn d M D YF L n i) Q:=by
 (conv=>whnf);repeat' ((first| intro g| refine aH.mk _ (lH (lH (aC hx rfl))) ?_| refine aH.mk _ (lH (aC hx rfl)) ?_| refine aH.mk _ (aC hx rfl) ?_| refine st ?_| (first| refine b1 ?_ ?_| refine b2 ?_ ?_| refine Br.mk ?_ ?_) <;>intro hc| exact rfl) <;>conv=>whnf)
 have jG: ∀y z:V,((((L.map ar.v).set ((i:Int)).toNat y).set ((i:Int)).toNat z).set ((i:Int)).toNat (ar.v ⟨x.id,x.cls,[111,116,104,101,114],nn,99⟩))=(L.set i ⟨x.id,x.cls,[111,116,104,101,114],nn,99⟩).map ar.v:=fun y z=>by
  simp only[List.set_set,List.map_set,Int.toNat_natCast]
 exact hQ _ _ (by(refine⟨?_,?_⟩ <;>repeat' (first| exact True.intro| refine And.intro (congrArg (fun L=> (⟨gF,5,true,false,some L⟩:Obj)) (jG _ _)) ?_| refine ai ?_| refine And.intro ?_ ?_)))
end Go.AM
