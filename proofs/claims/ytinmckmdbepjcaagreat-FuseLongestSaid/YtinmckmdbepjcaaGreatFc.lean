/-
  Texts of the proof, joined by program: FlC, FlD, FlB, FlB2, FlA. Own work.
-/
import Derived.Test.YtinmckmdbepjcaaGreatLc
import Derived.Test.YtinmckmdbepjcaaGreatGb
import Derived.Test.YtinmckmdbepjcaaGreatGc
import Derived.Test.YtinmckmdbepjcaaGreatLa
import Derived.Test.YtinmckmdbepjcaaGreatLb
set_option linter.unusedSimpArgs false
set_option linter.unusedVariables false
set_option maxRecDepth 20000
namespace Go.AM
noncomputable def Zb (es:List Edge) (id:Int) (s:Int):Nat→Int
 | 0=>s
 | k+1=>match es[k]? with
   | some e=>if e.id=id then EE (Zb es id s k+Y8 e.line) else Zb es id s k
   | none=>Zb es id s k
noncomputable def Y6 (es:List Edge) (L:List Int):Nat→Int
 | 0=>0
 | j+1=>match L[j]? with
   | some id=>Zb es id (Y6 es L j) es.length
   | none=>Y6 es L j
theorem acN {M:V} {L B:List V} {e:Edge} {k n aeM j:Nat} {id s:Int} {Q:aW→SS→Prop} (he:L[k]? =some e.v) (hn:L.length=n) (hk:k<n) (hb:n< 1000000) (RX: ¬e.id=id)
  (hQ: ∀T' O',SS.Sub ⟨[(2,.eptr M 0),(6,vi s),(8,vi id),(15,.lit 1 B),(16,aF aeM),(17,aF j),(22,.lit 4 L),(23,aF n),(24,aF (k+1))],[]⟩ ⟨T',O'⟩→Q .normal ⟨T',O'⟩):
  gY E aab ⟨[(2,.eptr M 0),(6,vi s),(8,vi id),(15,.lit 1 B),(16,aF aeM),(17,aF j),(22,.lit 4 L),(23,aF n),(24,aF k)],[]⟩ Q:=by
 (conv=>whnf);repeat' ((first| intro g| refine aH.mk _ (he) ?_| refine st ?_| (first| refine b1 ?_ ?_| refine b2 ?_ ?_| refine Br.mk ?_ ?_) <;>intro hc| exact rfl) <;>conv=>whnf)
 exact hQ _ _ (by(refine⟨?_,?_⟩ <;>repeat' (first| exact True.intro| refine ai ?_| refine And.intro ?_ ?_)))
theorem abK {M:V} {L B:List V} {e:Edge} {k n aeM j:Nat} {id s:Int} {Q:aW→SS→Prop} (he:L[k]? =some e.v) (hn:L.length=n) (hk:k<n) (hb:n< 1000000) (RX:e.id=id) (R1:Ev E 496 [iP e.line] ⟨vi (Y8 e.line),[]⟩)
  (hQ: ∀T' O',SS.Sub ⟨[(2,.eptr M 0),(6,vi (EE (s+Y8 e.line))),(8,vi id),(15,.lit 1 B),(16,aF aeM),(17,aF j),(22,.lit 4 L),(23,aF n),(24,aF (k+1))],[]⟩ ⟨T',O'⟩→Q .normal ⟨T',O'⟩):
  gY E aab ⟨[(2,.eptr M 0),(6,vi s),(8,vi id),(15,.lit 1 B),(16,aF aeM),(17,aF j),(22,.lit 4 L),(23,aF n),(24,aF k)],[]⟩ Q:=by
 (conv=>whnf);repeat' ((first| intro g| refine aH.mk _ (he) ?_| refine ag.mk _ (R1) ?_| refine st ?_| (first| refine b1 ?_ ?_| refine b2 ?_ ?_| refine Br.mk ?_ ?_) <;>intro hc| exact rfl) <;>conv=>whnf)
 exact hQ _ _ (by(refine⟨?_,?_⟩ <;>repeat' (first| exact True.intro| refine ai ?_| refine And.intro ?_ ?_)))
set_option maxHeartbeats 2000000 in
theorem aaS {m:aG} (hl:aaT m.an) (a b:Int):Ev E 494 [vi a,vi b,.eptr m.v 0] ⟨vi (Y6 m.an (b4 m.an a b) (b4 m.an a b).length),[]⟩:=by
 have U1:=hl.1
 have V4:=Am U1 a b
 have aeA: (b4 m.an a b).length< 1000000:=by
   have:=aal (mZ m.an a b m.an.length)
   have:=E4 m.an a b m.an.length
   unfold b4;omega
 refine Ev.bU acO (acP _) rfl ?_
 generalize b4 m.an a b=B at*
 (conv=>whnf);repeat' ((first| intro g| refine ag.mk _ (V4) ?_| refine st ?_| (first| refine b1 ?_ ?_| refine b2 ?_ ?_| refine Br.mk ?_ ?_) <;>intro hc| exact rfl) <;>conv=>whnf)
 clear V4
 refine ba.by (fun (j:Nat)=> ⟨[(2,.eptr m.v 0),(6,vi (Y6 m.an B j)),(15,.lit 1 (B.map vi)),(16,aF B.length),(17,aF j)],[]⟩) (fun j=>j≤B.length) (fun j=>B.length - j) 0 ?_ (by simp) ?_
 · (refine⟨?_,?_⟩ <;>repeat' (first| exact True.intro| refine And.intro ((by(conv=>whnf);first| rfl| simp)) ?_| refine ai ?_| refine And.intro ?_ ?_))
 intro j hj
 try dsimp only at hj
 by_cases bk:j<B.length
 · obtain⟨id,RX⟩: ∃x,B[j]? =some x:=⟨_,aL bk⟩
   have B3:Y6 m.an B (j+1)=Zb m.an id (Y6 m.an B j) m.an.length:=by simp only[Y6,RX]
   generalize Y6 m.an B j=s at*
   (conv=>whnf);repeat' ((first| intro g| refine aH.mk _ (aC RX rfl) ?_| refine st ?_| (first| refine b1 ?_ ?_| refine b2 ?_ ?_| refine Br.mk ?_ ?_) <;>intro hc| exact rfl) <;>conv=>whnf)
   refine ba.by (fun (k:Nat)=> ⟨[(2,.eptr m.v 0),(6,vi (Zb m.an id s k)),(8,vi id),(15,.lit 1 (B.map vi)),(16,aF B.length),(17,aF j),(22,.lit 4 (m.an.map Edge.v)),(23,aF m.an.length),(24,aF k)],[]⟩) (fun k=>k≤m.an.length) (fun k=>m.an.length - k) 0 ?_ (by simp) ?_
   · (refine⟨?_,?_⟩ <;>repeat' (first| exact True.intro| refine And.intro ((by(conv=>whnf);simp[Zb])) ?_| refine ai ?_| refine And.intro ?_ ?_))
   intro k hk
   try dsimp only at hk
   by_cases fS:k<m.an.length
   · obtain⟨e,he⟩: ∃x,m.an[k]? =some x:=⟨_,aL fS⟩
     by_cases hei:e.id=id
     · have oK:Zb m.an id s (k+1)=EE (Zb m.an id s k+Y8 e.line):=by simp only[Zb,he,if_pos hei]
       refine abK (aC he rfl) (by simp) fS U1 hei (aaU (hl.2 e (List.mem_of_getElem? he))) fun T' O' hs=>bc.mk (k+1) (by first| omega| (dsimp only;omega)) (by omega) ?_
       simp only[oK]
       exact hs
     · have oK:Zb m.an id s (k+1)=Zb m.an id s k:=by simp only[Zb,he,if_neg hei]
       refine acN (aC he rfl) (by simp) fS U1 hei fun T' O' hs=>bc.mk (k+1) (by first| omega| (dsimp only;omega)) (by omega) ?_
       simp only[oK]
       exact hs
   · obtain rfl:k=m.an.length:=by omega
     (conv=>whnf);repeat' ((first| intro g| refine st ?_| (first| refine b1 ?_ ?_| refine b2 ?_ ?_| refine Br.mk ?_ ?_) <;>intro hc| exact rfl) <;>conv=>whnf)
     exact bc.mk (j+1) (by first| omega| (dsimp only;omega)) (by omega) (by(refine⟨?_,?_⟩ <;>repeat' (first| exact True.intro| refine And.intro ((by(conv=>whnf);rw[B3])) ?_| refine ai ?_| refine And.intro ?_ ?_)))
 · obtain rfl:j=B.length:=by omega
   (conv=>whnf);repeat' ((first| intro g| refine st ?_| (first| refine b1 ?_ ?_| refine b2 ?_ ?_| refine Br.mk ?_ ?_) <;>intro hc| exact rfl) <;>conv=>whnf)
end Go.AM
set_option maxRecDepth 20000
namespace Go.AM
theorem aam {l:List Int} (h:l.Pairwise (· < ·)):kH l=l:=by
 have hn:l.Nodup:=h.imp fun h=>by omega
 have UZ: (kH l).Nodup:=(Y7 l).nodup_iff.2 hn
 exact aaK (Z2 (Zd l) UZ) h fun x=> (Y7 l).mem_iff
theorem Zx {l:List Int} (h:l.Pairwise (· < ·)): ∀t,t≤l.length→fD l t=l.take t
 | 0,_=>by simp[fD]
 | t+1,ht=>by
   have ih:=Zx h t (by omega)
   have hx:l[t]? =some l[t]:=List.getElem?_eq_getElem (by omega)
   have cT: ¬ (0 <t∧l.getD t 0=l.getD (t - 1) 0):=by
    rintro⟨h0,he⟩
    have:=(List.pairwise_iff_getElem.1 h) (t - 1) t (by omega) (by omega) (by omega)
    rw[List.getD_eq_getElem?_getD,List.getD_eq_getElem?_getD,hx,List.getElem?_eq_getElem (by omega:t - 1 <l.length)] at he
    simp at he;omega
   rw[fD,if_neg cT,ih,List.take_add_one,hx]
   simp[List.getD_eq_getElem?_getD,hx]
theorem aax {l:List Int} (h:l.Pairwise (· < ·)):Hr l=l:=by
 unfold Hr jb
 rw[aam h,Zx h _ (Nat.le_refl _),List.take_length]
def aac (es:List Edge):Prop:= ∀ (i:Nat) (e:Edge),es[i]? =some e→e.id=(i:Int)+1
theorem aac.strict {es:List Edge} (h:aac es):es.Pairwise fun a b=>a.id<b.id:=by
 rw[List.pairwise_iff_getElem]
 intro i j hi hj vr
 rw[h i _ (List.getElem?_eq_getElem hi),h j _ (List.getElem?_eq_getElem hj)];omega
theorem aac.aef {es:List Edge} (h:aac es) (a b:Int):b4 es a b=(es.filter (b9 a b)).map (·.id):=by
 unfold b4 mZ
 rw[List.take_length]
 exact aax (List.pairwise_map.2 (h.strict.filter _))
theorem aan {es:List Edge} (h:aac es) {k:Nat} {e:Edge} (hk:es[k]? =some e) (s:Int): ∀n,n≤es.length→Zb es e.id s n=if k<n then EE (s+Y8 e.line) else s
 | 0,_=>by simp[Zb]
 | n+1,hn=>by
   have ih:=aan h hk s n (by omega)
   obtain⟨x,hx⟩: ∃x,es[n]? =some x:=⟨_,aL (by omega)⟩
   have h1:=h k e hk
   have h2:=h n x hx
   simp only[Zb,hx,ih]
   by_cases hkn:n=k
   · subst hkn
     obtain rfl:e=x:=by rw[hk] at hx;exact Option.some.inj hx
     simp
   · rw[if_neg (by omega)]
     by_cases bk:k<n
     · rw[if_pos bk,if_pos (by omega)]
     · rw[if_neg bk,if_neg (by omega)]
theorem ZI (es:List Edge) (L:List Int) (x:Int): ∀j,j≤L.length→Y6 es (L++[x]) j=Y6 es L j
 | 0,_=>rfl
 | j+1,hj=>by
   have ih:=ZI es L x j (by omega)
   have hg: (L++[x])[j]? =L[j]? :=List.getElem?_append_left (by omega)
   simp only[Y6,hg,ih]
theorem ZJ {es:List Edge} (h:aac es) (a b:Int): ∀n,n≤es.length→Y6 es (((es.take n).filter (b9 a b)).map (·.id)) (((es.take n).filter (b9 a b)).map (·.id)).length=Zt es a b n
 | 0,_=>by simp[Y6,Zt]
 | n+1,hn=>by
   have ih:=ZJ h a b n (by omega)
   obtain⟨x,hx⟩: ∃x,es[n]? =some x:=⟨_,aL (by omega)⟩
   rw[Zj hx]
   cases ht:b9 a b x with
   | false=>rw[aaG hx ht];simpa using ih
   | true=>
     rw[aao hx ht]
     simp only[if_true,List.map_append,List.map_cons,List.map_nil]
     generalize ((es.take n).filter (b9 a b)).map (·.id)=L at*
     have hl: (L++[x.id]).length=L.length+1:=by simp
     have hg: (L++[x.id])[L.length]? =some x.id:=by simp
     rw[hl]
     simp only[Y6,hg]
     rw[ZI es L x.id _ (Nat.le_refl _),ih,aan h hx _ _ (Nat.le_refl _),if_pos (by omega)]
theorem aaH {m:aG} (hl:aaT m.an) (h:aac m.an) (a b:Int):Ev E 494 [vi a,vi b,.eptr m.v 0] ⟨vi (brd m.an a b),[]⟩:=by
 have h1:=aaS hl a b
 have h2:=ZJ h a b m.an.length (Nat.le_refl _)
 rw[List.take_length,←h.aef a b] at h2
 rw[h2] at h1
 exact h1
theorem ZK {f:Int→Int} {l:List Int} (h:l.Pairwise (· < ·)): ∀k,0 <k→k≤l.length→Zc f l k ∈ l.take k∧ ∀x ∈ l.take k,f x≤f (Zc f l k)∧(f x=f (Zc f l k)→Zc f l k≤x)
 | 0,h0,_=>by omega
 | k+1,_,hk=>by
   obtain⟨x,hx⟩: ∃x,l[k]? =some x:=⟨_,aL (by omega)⟩
   have ht:l.take (k+1)=l.take k++[x]:=by rw[List.take_add_one,hx];rfl
   rw[ZL hx,ht]
   by_cases hz:k=0
   · subst hz
     simp
   have ih:=ZK (f:=f) h k (by omega) (by omega)
   have bk: ∀y ∈ l.take k,y<x:=fun y hy=>by
     obtain⟨j,hj,rfl⟩:=List.mem_iff_getElem.1 hy
     have hj2:j<k:=by simp at hj;omega
     rw[List.getElem_take]
     have hxe:x=l[k]'(by omega):=by rw[List.getElem?_eq_getElem (by omega)] at hx;exact(Option.some.inj hx).symm
     rw[hxe]
     exact(List.pairwise_iff_getElem.1 h) j k (by omega) (by omega) hj2
   by_cases hf:f (Zc f l k) <f x
   · rw[if_pos (.inr hf)]
     refine⟨by simp,fun y hy=> ?_⟩
     rcases List.mem_append.1 hy with hy| hy
     · have:=(ih.2 y hy).1
       exact⟨by omega,fun he=>by omega⟩
     · obtain rfl:y=x:=by simpa using hy
       exact⟨Int.le_refl _,fun _=>Int.le_refl _⟩
   · rw[if_neg (by simp[hz,hf])]
     refine⟨by simp[ih.1],fun y hy=> ?_⟩
     rcases List.mem_append.1 hy with hy| hy
     · exact ih.2 y hy
     · obtain rfl:y=x:=by simpa using hy
       exact⟨by omega,fun _=>by have:=bk _ ih.1;omega⟩
theorem aay {f:Int→Int} {l:List Int} (h:l.Pairwise (· < ·)) (hl:0 <l.length):Zy f l ∈ l∧ ∀x ∈ l,f x≤f (Zy f l)∧(f x=f (Zy f l)→Zy f l≤x):=by
 have:=ZK (f:=f) h l.length hl (Nat.le_refl _)
 rwa [List.take_length] at this
theorem aad {m:aG} {id o:Int}:o ∈ nbs m id↔o ∈ Y4 m∧jX m id o=0:=by
 unfold nbs Za
 simp[List.mem_filter]
theorem aaz (m:aG) (id:Int): (nbs m id).Pairwise (· < ·):=(Ze m).filter _
theorem Z3 {m:aG} {id:Int} {i:Nat} (h:findF m.ah id=some i):id ∈ Y4 m:=by
 obtain⟨f,hf,RX,_⟩:=cu h
 exact(Zz m id).2 ⟨i,f,(List.getElem?_eq_some_iff.1 hf).1,hf,RX⟩
theorem aaI {m:aG} {a b:Int} (h:jX m a b=0):b ∈ Y4 m:=by
 unfold jX at h
 cases h1:findF m.ah a with
 | none=>rw[h1] at h;simp at h
 | some i=>
   cases h2:findF m.ah b with
   | none=>rw[h1,h2] at h;simp at h
   | some j=>exact Z3 h2
theorem aaV {m:aG} {a b:Int} {i:Nat} {f:ar} (h:jX m a b=0) (hi:findF m.ah a=some i) (hf:m.ah[i]? =some f): ¬f.bg< 1:=by
 intro hd
 unfold jX at h
 rw[hi] at h
 cases h2:findF m.ah b with
 | none=>rw[h2] at h;simp at h
 | some j=>
   obtain⟨g,hg,_⟩:=cu h2
   rw[h2] at h
   simp only[hf,hg,IG] at h
   split at h
   · omega
   · rw[if_pos (.inr hd)] at h;omega
theorem aaL {m:aG} {d id:Int} {i:Nat} {f:ar} (hi:findF m.ah id=some i) (hf:m.ah[i]? =some f) (hd:f.bg=d):
   (evF m d id=none∧ ∀g,jX m id g≠0)∨ ∃best,evF m d id=some (evI f.weight id best)∧jX m id best=0∧ ∀g,jX m id g=0→brd m.an id g≤brd m.an id best∧(brd m.an id g=brd m.an id best→best≤g):=by
 by_cases h1:d< 1
 · exact .inl ⟨Z4 h1,fun g hg=>aaV hg hi hf (by omega)⟩
 by_cases hn:0 < (nbs m id).length
 · obtain⟨GC,MK⟩:=aay (f:=brd m.an id) (aaz m id) hn
   exact .inr ⟨_,aap h1 hi hf hd hn,(aad.1 GC).2,fun g hg=>MK g (aad.2 ⟨aaI hg,hg⟩)⟩
 · refine .inl ⟨aaq h1 hi hf hd hn,fun g hg=> ?_⟩
   have:=List.length_pos_of_mem (aad.2 ⟨aaI hg,hg⟩)
   exact hn this
theorem ZM {m:aG} {d id:Int} {e:Event} (h:evF m d id=some e):e.id=id∧e.kind=2∧1≤e.at_∧e.n=0∧ ∃ (i:Nat) (f:ar),findF m.ah id=some i∧m.ah[i]? =some f∧f.bg=d:=by
 unfold evF at h
 split at h
 · simp at h
 split at h
 · simp at h
 rename_i i hi
 split at h
 · simp at h
 rename_i f hf
 split at h
 · rename_i hd
   split at h
   · obtain rfl:=Option.some.inj h
     refine⟨rfl,rfl,?_,rfl,i,f,hi,hf,hd⟩
     unfold evI
     dsimp only
     split<;>omega
   · simp at h
 · simp at h
def aae (e:Event):V:= .tuple [vi e.id,vi e.other]
theorem Zv (x:Int): ∀es:List Event,cB (vi x) (es.map aae)=some ((es.find? fun e=>decide (e.id=x)).map fun e=>vi e.other)
 | []=>rfl
 | e::es=>by
   have ih:=Zv x es
   simp only[List.map_cons,aae,cB,vi,vT,if_true]
   by_cases hx:e.id=x
   · subst hx;simp
   · have h1: (x==e.id)=false:=by simp;omega
     rw[h1]
     simp only[List.find?_cons,decide_eq_false hx]
     exact ih
theorem aaJ (g:Int→Option Event) (hg: ∀y e,g y=some e→e.id=y) (x:Int): ∀l:List Int,l.Nodup→(l.filterMap g).find? (fun e=>decide (e.id=x))=if x ∈ l then g x else none
 | [],_=>by simp
 | y::l,hn=>by
   have ih:=aaJ g hg x l (List.nodup_cons.1 hn).2
   have hny:=(List.nodup_cons.1 hn).1
   cases MM:g y with
   | none=>
     rw[List.filterMap_cons,MM]
     by_cases D6:x=y
     · subst D6
       simp only[ih,if_neg hny];simp[MM]
     · simp only[ih];simp[D6]
   | some e=>
     rw[List.filterMap_cons,MM]
     have he:=hg y e MM
     by_cases D6:x=y
     · subst D6
       simp[List.find?_cons,he,MM]
     · have: ¬e.id=x:=fun h=>D6 (by rw[←h,he])
       simp only[List.find?_cons,decide_eq_false this,ih]
       simp[D6]
theorem aaW {m:aG} {d x:Int} (hx:x ∈ Y4 m): (Y5 m d).find? (fun e=>decide (e.id=x))=evF m d x:=by
 unfold Y5 ZY
 rw[List.take_length,aaJ _ (fun y e h=> (ZM h).1) x _ ((Ze m).imp fun h=>by omega),if_pos hx]
theorem ZN (m:aG) (d:Int): (Y5 m d).Pairwise fun a b=>a.id<b.id:=by
 unfold Y5 ZY
 rw[List.take_length,List.pairwise_filterMap]
 exact(Ze m).imp fun h e he e' vd=>by rw[(ZM he).1,(ZM vd).1];exact h
theorem abl {m:aG} {d:Int} {e:Event} (h:e ∈ Y5 m d):evF m d e.id=some e:=by
 unfold Y5 ZY at h
 obtain⟨x,_,hx⟩:=List.mem_filterMap.1 h
 rw[(ZM hx).1];exact hx
theorem abL {m:aG} {d:Int} {k:Nat} {e e':Event} (h0:0 <k) (h: (Y5 m d)[k]? =some e) (h': (Y5 m d)[k - 1]? =some e'):e'.id<e.id:=by
 obtain⟨h1,rfl⟩:=List.getElem?_eq_some_iff.1 h
 obtain⟨h2,rfl⟩:=List.getElem?_eq_some_iff.1 h'
 exact(List.pairwise_iff_getElem.1 (ZN m d)) (k - 1) k h2 h1 (by omega)
theorem aaX {m:aG} {d:Int} {k:Nat} {e:Event} (h: (Y5 m d)[k]? =some e):jD (vi e.id) (vi e.other) (((Y5 m d).take k).map aae)=some (((Y5 m d).take (k+1)).map aae):=by
 have hf: ((Y5 m d).take k).find? (fun x=>decide (x.id=e.id))=none:=by
  rw[List.find?_eq_none]
  intro x hx
  obtain⟨j,hj,rfl⟩:=List.mem_iff_getElem.1 hx
  have hj2:j<k:=by simp at hj;omega
  rw[List.getElem_take]
  obtain⟨h1,rfl⟩:=List.getElem?_eq_some_iff.1 h
  have:=(List.pairwise_iff_getElem.1 (ZN m d)) j k (by omega) h1 hj2
  simp;omega
 rw[sk _ _ _ (by rw[Zv,hf];rfl),List.take_add_one,h]
 simp[aae]
theorem aaY {m:aG} {d x:Int} (hx:x ∈ Y4 m):eE true (.int .i64 0) ((Y5 m d).map aae) (vi x)= .done (match evF m d x with
  | some e=> .tuple [vi e.other,.bool true]
  | none=> .tuple [vi 0,.bool false]):=by
 simp only[eE,Zv,aaW hx]
 cases evF m d x<;>rfl
end Go.AM
set_option maxRecDepth 20000
namespace Go.AM
def Zf (m:aG):V:= .agg [.lit 5 (m.ah.map ar.v),.fn 192 []]
theorem aaZ (m:aG):Ev E 153 [m.v] ⟨Zf m,[]⟩:=by
 refine Ev.bU acQ (acR _) rfl ?_
 (conv=>whnf);repeat' ((first| intro g| refine st ?_| (first| refine b1 ?_ ?_| refine b2 ?_ ?_| refine Br.mk ?_ ?_) <;>intro hc| exact rfl) <;>conv=>whnf)
theorem abM (f:ar):Ev E 192 [f.v] ⟨vi f.id,[]⟩:=by
 refine Ev.bU acS (acT _) rfl ?_
 (conv=>whnf);repeat' ((first| intro g| refine st ?_| (first| refine b1 ?_ ?_| refine b2 ?_ ?_| refine Br.mk ?_ ?_) <;>intro hc| exact rfl) <;>conv=>whnf)
theorem abN (m:aG) (f:ar) (id:Int):Ev E 197 [f.v,.eptr (Zf m) 0,.eptr (vi id) 0] ⟨.bool (decide (f.id=id)),[]⟩:=by
 have h:=abM f
 refine Ev.bU acU (acV _) rfl ?_
 (conv=>whnf);repeat' ((first| intro g| refine ag.mk _ (h) ?_| refine st ?_| (first| refine b1 ?_ ?_| refine b2 ?_ ?_| refine Br.mk ?_ ?_) <;>intro hc| exact rfl) <;>conv=>whnf)
theorem abO {m:aG} (hl:m.ah.length< 1000000) {id:Int} {i:Nat} (h:findF m.ah id=some i):Ev E 179 [.lit 5 (m.ah.map ar.v),.fn 197 [.eptr (Zf m) 0,.eptr (vi id) 0]] ⟨vi i,[]⟩:=by
 obtain⟨f,hf,RX,V4⟩:=cu h
 have GD:i<m.ah.length:=(List.getElem?_eq_some_iff.1 hf).1
 have hc: ∀x:ar,Ev E 197 [x.v,.eptr (Zf m) 0,.eptr (vi id) 0] ⟨.bool (decide (x.id=id)),[]⟩:=fun x=>abN m x id
 generalize Zf m=aeN at*
 refine Ev.bU acW (acX _) rfl ?_
 (conv=>whnf);repeat' ((first| intro g| refine st ?_| (first| refine b1 ?_ ?_| refine b2 ?_ ?_| refine Br.mk ?_ ?_) <;>intro hc| exact rfl) <;>conv=>whnf)
 refine ba.by (fun (n:Nat)=> ⟨[(0,.lit 5 (m.ah.map ar.v)),(1,.fn 197 [.eptr aeN 0,.eptr (vi id) 0]),(7,aF m.ah.length),(8,aF n)],[]⟩) (fun n=>n≤i) (fun n=>m.ah.length - n) 0 ?_ (by simp) ?_
 · (refine⟨?_,?_⟩ <;>repeat' (first| exact True.intro| refine And.intro ((by(conv=>whnf);simp)) ?_| refine ai ?_| refine And.intro ?_ ?_))
 intro n hn
 try dsimp only at hn
 by_cases bk:n<i
 · obtain⟨x,hx⟩: ∃x,m.ah[n]? =some x:=⟨_,aL (by omega)⟩
   have cT:=V4 n x bk hx
   have Vd:=hc x
   rw[decide_eq_false cT] at Vd
   clear hc
   (conv=>whnf);repeat' ((first| intro g| refine aH.mk _ (aC hx rfl) ?_| refine ag.mk _ (Vd) ?_| refine st ?_| (first| refine b1 ?_ ?_| refine b2 ?_ ?_| refine Br.mk ?_ ?_) <;>intro hc| exact rfl) <;>conv=>whnf)
   exact bc.mk (n+1) (by first| omega| (dsimp only;omega)) (by omega) (by(refine⟨?_,?_⟩ <;>repeat' (first| exact True.intro| refine ai ?_| refine And.intro ?_ ?_)))
 obtain rfl:n=i:=by omega
 have Vd:=hc f
 rw[decide_eq_true RX] at Vd
 clear hc
 (conv=>whnf);repeat' ((first| intro g| refine aH.mk _ (aC hf rfl) ?_| refine ag.mk _ (Vd) ?_| refine st ?_| (first| refine b1 ?_ ?_| refine b2 ?_ ?_| refine Br.mk ?_ ?_) <;>intro hc| exact rfl) <;>conv=>whnf)
end Go.AM
set_option maxRecDepth 20000
namespace Go.AM
theorem aa0 {m:aG} (hl:m.ah.length< 1000000) {id:Int} {i:Nat} {f:ar} (h:findF m.ah id=some i) (hf:m.ah[i]? =some f):Ev E 160 [Zf m,vi id] ⟨.tuple [f.v,.bool true],[]⟩:=by
 have hi:=abO hl h
 have hfv: (m.ah.map ar.v)[i]? =some f.v:=by simp[hf]
 have GD:i<m.ah.length:=(List.getElem?_eq_some_iff.1 hf).1
 unfold Zf at*
 generalize m.ah.map ar.v=aeN at*
 refine Ev.bU acY (acZ _) rfl ?_
 (conv=>whnf);repeat' ((first| intro g| refine aH.mk _ (hfv) ?_| refine ag.mk _ (hi) ?_| refine st ?_| (first| refine b1 ?_ ?_| refine b2 ?_ ?_| refine Br.mk ?_ ?_) <;>intro hc| exact rfl) <;>conv=>whnf)
theorem abm {m:aG} (hl:m.ah.length< 1000000) {id:Int} {i:Nat} {f:ar} (h:findF m.ah id=some i) (hf:m.ah[i]? =some f):Ev E 511 [m.v,vi id] ⟨.tuple [vi 1,vi f.bg],[]⟩:=by
 have h1:=aaZ m
 have h2:=aa0 hl h hf
 have Pn:gv E 153=[]:=rfl
 have Uc:gv E 160=[]:=rfl
 have h0:V.aE m.v=true:=aG.ug false m
 have hp:V.aq [m.v]=true:=by simp only[V.aq,h0];rfl
 have y6:V.aE (Zf m)=true:=rfl
 have Lv:V.aq [Zf m,vi id]=true:=by simp only[V.aq,y6];rfl
 generalize Zf m=aeN at*
 refine Ev.bU ac0 (ac1 _) rfl ?_
 (conv=>whnf);repeat' ((first| refine tg Pn hp h1 y6 ?_| refine tg Uc Lv h2 rfl ?_| intro g| refine st ?_| (first| refine b1 ?_ ?_| refine b2 ?_ ?_| refine Br.mk ?_ ?_) <;>intro hc| exact rfl) <;>conv=>whnf)
theorem aar {m:aG} (hl:m.ah.length< 1000000) {id:Int} {i:Nat} {f:ar} (h:findF m.ah id=some i) (hf:m.ah[i]? =some f):Ev E 497 [m.v,vi id] ⟨vi f.bg,[]⟩:=by
 have h1:=abm hl h hf
 have Pn:gv E 511=[]:=rfl
 have h0:V.aE m.v=true:=aG.ug false m
 have hp:V.aq [m.v,vi id]=true:=by simp only[V.aq,h0];rfl
 refine Ev.bU ac2 (ac3 _) rfl ?_
 (conv=>whnf);repeat' ((first| refine tg Pn hp h1 rfl ?_| intro g| refine st ?_| (first| refine b1 ?_ ?_| refine b2 ?_ ?_| refine Br.mk ?_ ?_) <;>intro hc| exact rfl) <;>conv=>whnf)
end Go.AM
set_option maxRecDepth 20000
namespace Go.AM
def Zk (m:aG):List Int:=m.ah.map ar.bg++m.ways.map Way.bg++m.aw.map Place.bg
def ZO (m:aG):List Int:=Hr (Zk m)
theorem aeg {L:List V} {M:V} {x:ar} {A:List Int} {n k g g1:Nat} {Q:aW→SS→Prop} (hx:L[k]? =some x.v) (hn:L.length=n) (hk:k<n) (hb:n< 1000) (hA:A.length< 10000)
  (hQ: ∀T' O' g',SS.Sub ⟨[(1,.ptr 32 g1 0 0),(3,.sl 65 g' 0 (A++[x.bg]).length),(11,.lit 5 L),(12,aF n),(13,aF (k+1))],[(32,⟨g1,4,false,false,some [M]⟩),(65,⟨g',1,true,false,some ((A++[x.bg]).map vi)⟩)]⟩ ⟨T',O'⟩→Q .normal ⟨T',O'⟩):
  gY E aa1 ⟨[(1,.ptr 32 g1 0 0),(3,.sl 65 g 0 A.length),(11,.lit 5 L),(12,aF n),(13,aF k)],[(32,⟨g1,4,false,false,some [M]⟩),(65,⟨g,1,true,false,some (A.map vi)⟩)]⟩ Q:=by
 (conv=>whnf);repeat' ((first| intro g| refine aH.mk _ (hx) ?_| refine st ?_| (first| refine b1 ?_ ?_| refine b2 ?_ ?_| refine Br.mk ?_ ?_) <;>intro hc| exact rfl) <;>conv=>whnf)
 exact hQ _ _ _ (by(refine⟨?_,?_⟩ <;>repeat' (first| exact True.intro| refine ai ?_| refine And.intro ?_ ?_)))
theorem aeh {L:List V} {M:V} {x:Way} {A:List Int} {n k g g1:Nat} {Q:aW→SS→Prop} (hx:L[k]? =some x.v) (hn:L.length=n) (hk:k<n) (hb:n< 1000) (hA:A.length< 10000)
  (hQ: ∀T' O' g',SS.Sub ⟨[(1,.ptr 32 g1 0 0),(3,.sl 65 g' 0 (A++[x.bg]).length),(24,.lit 8 L),(25,aF n),(26,aF (k+1))],[(32,⟨g1,4,false,false,some [M]⟩),(65,⟨g',1,true,false,some ((A++[x.bg]).map vi)⟩)]⟩ ⟨T',O'⟩→Q .normal ⟨T',O'⟩):
  gY E aa2 ⟨[(1,.ptr 32 g1 0 0),(3,.sl 65 g 0 A.length),(24,.lit 8 L),(25,aF n),(26,aF k)],[(32,⟨g1,4,false,false,some [M]⟩),(65,⟨g,1,true,false,some (A.map vi)⟩)]⟩ Q:=by
 (conv=>whnf);repeat' ((first| intro g| refine aH.mk _ (hx) ?_| refine st ?_| (first| refine b1 ?_ ?_| refine b2 ?_ ?_| refine Br.mk ?_ ?_) <;>intro hc| exact rfl) <;>conv=>whnf)
 exact hQ _ _ _ (by(refine⟨?_,?_⟩ <;>repeat' (first| exact True.intro| refine ai ?_| refine And.intro ?_ ?_)))
theorem aei {L:List V} {M:V} {x:Place} {A:List Int} {n k g g1:Nat} {Q:aW→SS→Prop} (hx:L[k]? =some x.v) (hn:L.length=n) (hk:k<n) (hb:n< 1000) (hA:A.length< 10000)
  (hQ: ∀T' O' g',SS.Sub ⟨[(1,.ptr 32 g1 0 0),(3,.sl 65 g' 0 (A++[x.bg]).length),(37,.lit 7 L),(38,aF n),(39,aF (k+1))],[(32,⟨g1,4,false,false,some [M]⟩),(65,⟨g',1,true,false,some ((A++[x.bg]).map vi)⟩)]⟩ ⟨T',O'⟩→Q .normal ⟨T',O'⟩):
  gY E aa3 ⟨[(1,.ptr 32 g1 0 0),(3,.sl 65 g 0 A.length),(37,.lit 7 L),(38,aF n),(39,aF k)],[(32,⟨g1,4,false,false,some [M]⟩),(65,⟨g,1,true,false,some (A.map vi)⟩)]⟩ Q:=by
 (conv=>whnf);repeat' ((first| intro g| refine aH.mk _ (hx) ?_| refine st ?_| (first| refine b1 ?_ ?_| refine b2 ?_ ?_| refine Br.mk ?_ ?_) <;>intro hc| exact rfl) <;>conv=>whnf)
 exact hQ _ _ _ (by(refine⟨?_,?_⟩ <;>repeat' (first| exact True.intro| refine ai ?_| refine And.intro ?_ ?_)))
theorem fv {α β:Type} (f:α→β) {l:List α} {k:Nat} {x:α} (h:l[k]? =some x): (l.take (k+1)).map f=(l.take k).map f++[f x]:=by
 rw[List.take_add_one,h];simp
set_option maxHeartbeats 2000000 in
theorem aa4 {m:aG} (hf:m.ah.length< 1000) (hw:m.ways.length< 1000) (hp:m.aw.length< 1000):Ev E 96 [m.v] ⟨.own 1 ((ZO m).map vi),[]⟩:=by
 refine Ev.bU aej (aek _) rfl ?_
 (conv=>whnf);repeat' ((first| intro g| refine st ?_| (first| refine b1 ?_ ?_| refine b2 ?_ ?_| refine Br.mk ?_ ?_) <;>intro hc| exact rfl) <;>conv=>whnf)
 rename_i g1
 refine ba.by (fun ((n,g):Nat×Nat)=> ⟨[(1,.ptr 32 g1 0 0),(3,.sl 65 g 0 ((m.ah.take n).map ar.bg).length),(11,.lit 5 (m.ah.map ar.v)),(12,aF m.ah.length),(13,aF n)],[(32,⟨g1,4,false,false,some [m.v]⟩),(65,⟨g,1,true,false,some (((m.ah.take n).map ar.bg).map vi)⟩)]⟩) (fun (n,_)=>n≤m.ah.length) (fun (n,_)=>m.ah.length - n) (0,g) ?_ (by simp) ?_
 · (refine⟨?_,?_⟩ <;>repeat' (first| exact True.intro| refine And.intro ((by(conv=>whnf);simp)) ?_| refine ai ?_| refine And.intro ?_ ?_))
 rintro⟨n,g⟩ hn
 try dsimp only at hn
 by_cases bk:n<m.ah.length
 · obtain⟨x,hx⟩: ∃x,m.ah[n]? =some x:=⟨_,aL bk⟩
   refine aeg (aC hx rfl) (by simp) bk hf (by simp;omega) fun T' O' g' hs=>bc.mk (n+1,g') (by first| omega| (dsimp only;omega)) (by omega) ?_
   simp only[fv ar.bg hx]
   exact hs
 obtain rfl:n=m.ah.length:=by omega
 dsimp only
 rw[List.take_length]
 (conv=>whnf);repeat' ((first| intro g| refine st ?_| (first| refine b1 ?_ ?_| refine b2 ?_ ?_| refine Br.mk ?_ ?_) <;>intro hc| exact rfl) <;>conv=>whnf)
 refine ba.by (fun ((n,g):Nat×Nat)=> ⟨[(1,.ptr 32 g1 0 0),(3,.sl 65 g 0 (m.ah.map ar.bg++(m.ways.take n).map Way.bg).length),(24,.lit 8 (m.ways.map Way.v)),(25,aF m.ways.length),(26,aF n)],[(32,⟨g1,4,false,false,some [m.v]⟩),(65,⟨g,1,true,false,some ((m.ah.map ar.bg++(m.ways.take n).map Way.bg).map vi)⟩)]⟩) (fun (n,_)=>n≤m.ways.length) (fun (n,_)=>m.ways.length - n) (0,g) ?_ (by simp) ?_
 · (refine⟨?_,?_⟩ <;>repeat' (first| exact True.intro| refine And.intro ((by(conv=>whnf);simp)) ?_| refine ai ?_| refine And.intro ?_ ?_))
 rintro⟨n,g⟩ hn
 try dsimp only at hn
 by_cases bk:n<m.ways.length
 · obtain⟨x,hx⟩: ∃x,m.ways[n]? =some x:=⟨_,aL bk⟩
   refine aeh (aC hx rfl) (by simp) bk hw (by simp;omega) fun T' O' g' hs=>bc.mk (n+1,g') (by first| omega| (dsimp only;omega)) (by omega) ?_
   simp only[fv Way.bg hx,←List.append_assoc]
   exact hs
 obtain rfl:n=m.ways.length:=by omega
 dsimp only
 rw[List.take_length]
 (conv=>whnf);repeat' ((first| intro g| refine st ?_| (first| refine b1 ?_ ?_| refine b2 ?_ ?_| refine Br.mk ?_ ?_) <;>intro hc| exact rfl) <;>conv=>whnf)
 refine ba.by (fun ((n,g):Nat×Nat)=> ⟨[(1,.ptr 32 g1 0 0),(3,.sl 65 g 0 (m.ah.map ar.bg++m.ways.map Way.bg++(m.aw.take n).map Place.bg).length),(37,.lit 7 (m.aw.map Place.v)),(38,aF m.aw.length),(39,aF n)],[(32,⟨g1,4,false,false,some [m.v]⟩),(65,⟨g,1,true,false,some ((m.ah.map ar.bg++m.ways.map Way.bg++(m.aw.take n).map Place.bg).map vi)⟩)]⟩) (fun (n,_)=>n≤m.aw.length) (fun (n,_)=>m.aw.length - n) (0,g) ?_ (by simp) ?_
 · (refine⟨?_,?_⟩ <;>repeat' (first| exact True.intro| refine And.intro ((by(conv=>whnf);simp)) ?_| refine ai ?_| refine And.intro ?_ ?_))
 rintro⟨n,g⟩ hn
 try dsimp only at hn
 by_cases bk:n<m.aw.length
 · obtain⟨x,hx⟩: ∃x,m.aw[n]? =some x:=⟨_,aL bk⟩
   refine aei (aC hx rfl) (by simp) bk hp (by simp;omega) fun T' O' g' hs=>bc.mk (n+1,g') (by first| omega| (dsimp only;omega)) (by omega) ?_
   simp only[fv Place.bg hx,←List.append_assoc]
   exact hs
 obtain rfl:n=m.aw.length:=by omega
 dsimp only
 rw[List.take_length]
 have hl: (Zk m).length< 1000000:=by simp[Zk];omega
 have hd:m.ah.map ar.bg++m.ways.map Way.bg++m.aw.map Place.bg=Zk m:=rfl
 rw[hd]
 unfold ZO Hr
 generalize Zk m=D at*
 have h1:=HC hl
 have h2:=AA (S:=kH D) (by rw[nU];exact hl)
 rw[nU] at h2
 have R5:=iG D
 have Lu:=iG (kH D)
 have Lv:=iG (ei (kH D))
 (conv=>whnf);repeat' ((first| intro g| refine eY.mk (⟨rfl,rfl,rfl,by simp[nU],iG _⟩) ?_| refine eY.mk (⟨(vZ (kH D)).1,iG _⟩) ?_| refine aH.mk _ (E3 (kH D)) ?_| refine ag.mk _ (h1) ?_| refine ag.mk _ (h2) ?_| refine st ?_| (first| refine b1 ?_ ?_| refine b2 ?_ ?_| refine Br.mk ?_ ?_) <;>intro hc| exact rfl) <;>conv=>whnf)
end Go.AM
