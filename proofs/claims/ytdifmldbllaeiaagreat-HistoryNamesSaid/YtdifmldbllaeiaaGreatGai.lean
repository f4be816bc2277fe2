/- Texts of the proof. -/
import Derived.Test.YtdifmldbllaeiaaGreatGah
set_option maxRecDepth 20000
set_option maxHeartbeats 4000000
set_option linter.unusedSimpArgs false
set_option linter.unusedVariables false
namespace Go.AM
open Dr
inductive Slot
 | h (i j:Nat)
 | v (i j:Nat)
 | o (i j:Nat)
 deriving DecidableEq
def gu (a b:Pt) (I:Pt->Prop) (l:List Pt):Prop:= ∃mid:List Pt,mid.length<=3/\(∀p ∈ mid,I p)/\(l=a::mid++[b]\/l=b::mid++[a])
theorem gu.rev {a b:Pt} {I:Pt->Prop} {l:List Pt} (h:gu a b I l):gu a b I l.reverse:=by
 obtain⟨mid,h1,h2,h3⟩:=h;refine⟨mid.reverse,by simpa using h1,fun p hp=>h2 p (by simpa using hp),?_⟩;rcases h3 with rfl| rfl
 .exact .inr ajl
 exact .inl ajl
def uj (x y:Int) (e:aH):Prop:=(e.left=x/\e.right=y)\/(e.left=y/\e.right=x)
def mid (i j:Nat):Pt:=⟨90+100*(i:Int),90+100*(j:Int)⟩
def B0 (nd:Nat->Nat->Pt) (cz:Int->Int->Int):Slot->aH->Prop
 | .h i j,e=>i< 4/\j< 4/\gu (nd i j) (nd (i+1) j) (G5 (nd i j) (nd (i+1) j)) e.line/\uj (cz i j) (cz i ((j:Int) - 1)) e
 | .v i j,e=>i< 4/\j< 4/\gu (nd i j) (nd i (j+1)) (G6 (nd i j) (nd i (j+1))) e.line/\uj (cz ((i:Int) - 1) j) (cz i j) e
 | .o i j,e=>i< 4/\j< 4/\(∀p ∈ e.line,np (mid i j) p)/\eZ e.line/\uj 28 (cz i j) e
structure nQ (nd:Nat->Nat->Pt) (cz:Int->Int->Int) (S:List Slot) (es:List aH):Prop where
 len:S.length=es.length
 at_: ∀ (k:Nat) e s,es[k]? =some e->S[k]? =some s->B0 nd cz s e
 nd:S.Nodup
 ids: ∀ (k:Nat) e,es[k]? =some e->e.id=(k:Int)+1
 ne: ∀e ∈ es,e.left≠e.right
theorem nQ.nil (nd:Nat->Nat->Pt) (cz:Int->Int->Int):nQ nd cz [] []:=⟨rfl,fun k e s h=>by simp at h,ajl,fun k e h=>by simp at h,fun e h=>by simp at h⟩
theorem nQ.snoc {nd:Nat->Nat->Pt} {cz:Int->Int->Int} {S:List Slot} {es:List aH} (h:nQ nd cz S es) {s:Slot} {e:aH} (hs:s ∉ S) (he:B0 nd cz s e) (hi:e.id=(es.length:Int)+1) (hn:e.left≠e.right):nQ nd cz (S++[s]) (es++[e]):=by
 refine⟨by simp[h.len],fun k e' f h1 h2=> ?_,?_,fun k e' h1=> ?_,fun e' h1=> ?_⟩
 .by_cases c:k<es.length
  .rw[aj2 c] at h1;rw[aj2 (by rw[h.len];exact c)] at h2;exact h.at_ k e' f h1 h2
  rw[ajR ajk] at h1;rw[ajR (by rw[h.len];omega),h.len] at h2;by_cases d:k - es.length=0
  .rw[d] at h1 h2;simp at h1 h2;subst h1 h2;exact he
  rw[akm (by simp;omega)] at h1;cases h1
 .rw[List.nodup_append];refine⟨h.nd,ajl,fun a ha b hb=> ?_⟩;rw[ajX.1 hb];exact fun e=>hs (e ▸ ha)
 .by_cases c:k<es.length
  .rw[aj2 c] at h1;exact h.ids k e' h1
  rw[ajR ajk] at h1;by_cases d:k - es.length=0
  .rw[d] at h1;simp at h1;subst h1;rw[hi];omega
  rw[akm (by simp;omega)] at h1;cases h1
 rcases ajD.1 h1 with h1| h1
 .exact h.ne e' h1
 rw[ajX.1 h1];exact hn
theorem SZ {ps:List Pt} {left right:Int} {e:aH} (h: (e.line=ps/\e.left=left/\e.right=right)\/(e.line=ps.reverse/\e.left=right/\e.right=left)): (e.line=ps\/e.line=ps.reverse)/\uj left right e:=by
 rcases h with⟨h1,h2,h3⟩ | ⟨h1,h2,h3⟩
 .exact⟨.inl h1,.inl ⟨h2,h3⟩⟩
 exact⟨.inr h1,.inr ⟨h2,h3⟩⟩
theorem nQ.added {nd:Nat->Nat->Pt} {cz:Int->Int->Int} {S:List Slot} {es es':List aH} (h:nQ nd cz S es) {s:Slot} {ps:List Pt} {left right:Int} (ha:oa es es' ps left right) (hs:s ∉ S)
  (he: ∀e:aH,(e.line=ps\/e.line=ps.reverse)->uj left right e->B0 nd cz s e): ∃S',(S'=S\/S'=S++[s])/\nQ nd cz S' es':=by
 rcases ha with⟨_,rfl⟩ | ⟨hn,e,rfl,hi,h1⟩
 .exact⟨S,.inl rfl,h⟩
 obtain⟨h2,h3⟩:=SZ h1;refine⟨S++[s],.inr rfl,h.snoc hs (he e h2 h3) hi ?_⟩;rcases h3 with⟨h4,h5⟩ | ⟨h4,h5⟩
 .rw[h4,h5];exact hn
 rw[h4,h5];exact fun e=>hn e.symm
def inner (l:List Pt):List Pt:=l.tail.dropLast
def Sep (l a:List Pt):Prop:= ∃f:Pt->Int,Ax f/\ ∃ (k:Int) (v:Pt),((∀p ∈ l,f p<=k/\(f p=k->p=v))/\ ∀p ∈ inner l,f p<k)/\(∀p ∈ a,k<=f p/\(f p=k->p=v))/\ ∀p ∈ inner a,k<f p
theorem Sep.symm {l a:List Pt} (h:Sep l a):Sep a l:=by
 obtain⟨f,ax,k,v,⟨h1,h2⟩,h3,h4⟩:=h;refine⟨fun p=> - f p,ax.neg,-k,v,⟨fun p hp=> ?_,fun p hp=> ?_⟩,fun p hp=> ?_,fun p hp=> ?_⟩
 .have:=h3 p hp;exact⟨by show - f p<= -k;omega,fun h=>this.2 (by have h: - f p= -k:=h;omega)⟩
 .have:=h4 p hp;show - f p< -k;omega
 .have:=h1 p hp;exact⟨by show -k<= - f p;omega,fun h=>this.2 (by have h: - f p= -k:=h;omega)⟩
 have:=h2 p hp;show -k< - f p;omega
theorem Em {l:List Pt} {p:Pt} (h:p ∈ inner l):p ∈ l:=List.mem_of_mem_tail (List.dropLast_subset _ h)
theorem Sep.strict {f:Pt->Int} (ax:Ax f) {l b:List Pt} (k:Int) (h: ∀p ∈ l,f p<k) (a: ∀p ∈ b,k<f p):Sep l b:=
 ⟨f,ax,k,⟨0,0⟩,⟨fun p hp=> ⟨Int.le_of_lt (h p hp),fun e=>absurd (h p hp) ajk⟩,fun p hp=>h p (Em hp)⟩,fun p hp=> ⟨Int.le_of_lt (a p hp),fun e=>absurd (a p hp) ajk⟩,fun p hp=>a p (Em hp)⟩
theorem K6 (a b:Pt) (m:List Pt):inner (a::m++[b])=m:=by simp[inner]
theorem gu.all {a b:Pt} {I P:Pt->Prop} {l:List Pt} (h:gu a b I l) (ha:P a) (hb:P b) (c: ∀p,I p->P p): ∀p ∈ l,P p:=by
 obtain⟨m,_,h2,h3⟩:=h;intro p hp;rcases h3 with rfl| rfl;all_goals
  simp only[ajK,ajy,ajD,List.not_mem_nil,or_false] at hp;rcases hp with rfl| hp| rfl
  .assumption
  .exact c p (h2 p hp)
  .assumption
theorem gu.inner {a b:Pt} {I:Pt->Prop} {l:List Pt} (h:gu a b I l): ∀p ∈ inner l,I p:=by
 obtain⟨m,_,h2,h3⟩:=h;intro p hp;rcases h3 with rfl| rfl;all_goals
  rw[K6] at hp;exact h2 p hp
section
variable {nd:Nat->Nat->Pt} {cz:Int->Int->Int} (kc: ∀i j,i< 10->j< 10->ki i j (nd i j))
include kc
theorem MQ {i j:Nat} (hi:i< 4) (c:j< 4) {l:List Pt} (h:gu (nd i j) (nd (i+1) j) (G5 (nd i j) (nd (i+1) j)) l): ∀p ∈ l,(30+100*(i:Int)<=p.x/\p.x<=150+100*(i:Int))/\20+100*(j:Int)<=p.y/\p.y<=60+100*(j:Int):=by
 have a:=kc i j ajk ajk;have b:=kc (i+1) j ajk ajk;unfold ki at a b;refine h.all ?_ ?_ ?_
 .omega
 .omega
 intro p hp;unfold G5 at hp;omega
theorem MR {i j:Nat} (hi:i< 4) (c:j< 4) {l:List Pt} (h:gu (nd i j) (nd i (j+1)) (G6 (nd i j) (nd i (j+1))) l): ∀p ∈ l,(20+100*(i:Int)<=p.x/\p.x<=60+100*(i:Int))/\30+100*(j:Int)<=p.y/\p.y<=150+100*(j:Int):=by
 have a:=kc i j ajk ajk;have b:=kc i (j+1) ajk ajk;unfold ki at a b;refine h.all ?_ ?_ ?_
 .omega
 .omega
 intro p hp;unfold G6 at hp;omega
theorem S4 {i j a:Nat} (hi:i< 4) (m:j< 4) (n:a< 4) (o:i<a) {l c:List Pt} (h:gu (nd i j) (nd (i+1) j) (G5 (nd i j) (nd (i+1) j)) l) (b:gu (nd a j) (nd (a+1) j) (G5 (nd a j) (nd (a+1) j)) c):Sep l c:=by
 have d:=kc i j ajk ajk;have f:=kc (i+1) j ajk ajk;have g:=kc a j ajk ajk;have k:=kc (a+1) j ajk ajk;unfold ki at d f g k;by_cases e:a=i+1
 .subst e;refine⟨Pt.x,Dg,(nd (i+1) j).x,nd (i+1) j,⟨h.all ⟨ajk,fun e=>ajk⟩ ⟨ajk,fun _=>rfl⟩ ?_,?_⟩,b.all ⟨ajk,fun _=>rfl⟩ ⟨ajk,fun e=>ajk⟩ ?_,?_⟩
  .intro p hp;unfold G5 at hp;exact⟨ajk,fun e=>ajk⟩
  .intro p hp;have:=h.inner p hp;unfold G5 at this;omega
  .intro p hp;unfold G5 at hp;exact⟨ajk,fun e=>ajk⟩
  intro p hp;have:=b.inner p hp;unfold G5 at this;omega
 refine Sep.strict Dg (60+100*((i:Int)+1)) (h.all ajk ajk ?_) (b.all ajk ajk ?_)
 .intro p hp;unfold G5 at hp;omega
 intro p hp;unfold G5 at hp;omega
theorem S5 {i j a:Nat} (hi:i< 4) (m:j< 4) (n:a< 4) (o:j<a) {l c:List Pt} (h:gu (nd i j) (nd i (j+1)) (G6 (nd i j) (nd i (j+1))) l) (b:gu (nd i a) (nd i (a+1)) (G6 (nd i a) (nd i (a+1))) c):Sep l c:=by
 have d:=kc i j ajk ajk;have f:=kc i (j+1) ajk ajk;have g:=kc i a ajk ajk;have k:=kc i (a+1) ajk ajk;unfold ki at d f g k;by_cases e:a=j+1
 .subst e;refine⟨Pt.y,Dh,(nd i (j+1)).y,nd i (j+1),⟨h.all ⟨ajk,fun e=>ajk⟩ ⟨ajk,fun _=>rfl⟩ ?_,?_⟩,b.all ⟨ajk,fun _=>rfl⟩ ⟨ajk,fun e=>ajk⟩ ?_,?_⟩
  .intro p hp;unfold G6 at hp;exact⟨ajk,fun e=>ajk⟩
  .intro p hp;have:=h.inner p hp;unfold G6 at this;omega
  .intro p hp;unfold G6 at hp;exact⟨ajk,fun e=>ajk⟩
  intro p hp;have:=b.inner p hp;unfold G6 at this;omega
 refine Sep.strict Dh (60+100*((j:Int)+1)) (h.all ajk ajk ?_) (b.all ajk ajk ?_)
 .intro p hp;unfold G6 at hp;omega
 intro p hp;unfold G6 at hp;omega
def u9 (e e':aH):Prop:=(e.left≠e'.left/\e.left≠e'.right)/\e.right≠e'.left/\e.right≠e'.right
omit kc in
theorem u9.symm {e e':aH} (h:u9 e e'):u9 e' e:=⟨⟨fun x=>h.1.1 x.symm,fun x=>h.2.1 x.symm⟩,fun x=>h.1.2 x.symm,fun x=>h.2.2 x.symm⟩
omit kc in
theorem uj.mU {x y x' a:Int} {e e':aH} (h:uj x y e) (b:uj x' a e') (hf:u9 e e') (hc:x=x'\/x=a\/y=x'\/y=a):False:=by obtain⟨⟨f1,f2⟩,c,d⟩:=hf;rcases h with⟨a1,a2⟩ | ⟨a1,a2⟩ <;>rcases b with⟨b1,b2⟩ | ⟨b1,b2⟩ <;>rw[a1,b1] at f1<;>rw[a1,b2] at f2<;>rw[a2,b1] at c<;>rw[a2,b2] at d<;>omega
theorem S6 {i j a b:Nat} (hi:i< 4) (c:j< 4) (d:a< 4) (f:b< 4) {e e':aH} (hf:u9 e e') (h:gu (nd i j) (nd (i+1) j) (G5 (nd i j) (nd (i+1) j)) e.line) (s:uj (cz i j) (cz i ((j:Int) - 1)) e)
  (g:gu (nd a b) (nd a (b+1)) (G6 (nd a b) (nd a (b+1))) e'.line) (s':uj (cz ((a:Int) - 1) b) (cz a b) e'):Sep e.line e'.line:=by
 have r:=MQ kc hi c h;have r':=MR kc d f g;by_cases a1:a<i
 .exact(Sep.strict Dg (100*(i:Int)) (fun p hp=>by have:=r' p hp;omega) (fun p hp=>by have:=r p hp;omega)).symm
 by_cases k:i+1 <a
 .exact Sep.strict Dg (160+100*(i:Int)) (fun p hp=>by have:=r p hp;omega) (fun p hp=>by have:=r' p hp;omega)
 by_cases l:j<b
 .exact Sep.strict Dh (100+100*(j:Int)) (fun p hp=>by have:=r p hp;omega) (fun p hp=>by have:=r' p hp;omega)
 by_cases m:b+1 <j
 .exact(Sep.strict Dh (100*(j:Int)) (fun p hp=>by have:=r' p hp;omega) (fun p hp=>by have:=r p hp;omega)).symm
 exfalso;rcases(by omega:a=i\/a=i+1) with rfl| rfl<;>rcases(by omega:b=j\/j=b+1) with rfl| rfl
 .exact s.mU s' hf (.inr (.inl rfl))
 .exact s.mU s' hf (.inr (.inr (.inr (by congr 1;omega))))
 .exact s.mU s' hf (.inl (by congr 1;omega))
 exact s.mU s' hf (.inr (.inr (.inl (by congr 1 <;>omega))))
theorem S7 {s s':Slot} {e e':aH} (bW:s≠s') (h:B0 nd cz s e) (l:B0 nd cz s' e') (hf:u9 e e'):Sep e.line e'.line:=by
 cases s with
 | h i j=>
   obtain⟨hi,k,hl,hs⟩:=h;have r:=MQ kc hi k hl;cases s' with
   | h b c=>
     obtain⟨d,f,a,g⟩:=l;have r':=MQ kc d f a;by_cases m:j=c
     .subst m;rcases Nat.lt_trichotomy i b with h1| h1| h1
      .exact S4 kc hi k d h1 hl a
      .exact absurd (by rw[h1]) bW
      exact(S4 kc d k hi h1 a hl).symm
     by_cases n:j<c
     .exact Sep.strict Dh (100+100*(j:Int)) (fun p hp=>by have:=r p hp;omega) (fun p hp=>by have:=r' p hp;omega)
     exact(Sep.strict Dh (100+100*(c:Int)) (fun p hp=>by have:=r' p hp;omega) (fun p hp=>by have:=r p hp;omega)).symm
   | v b c=>
     obtain⟨d,f,a,g⟩:=l;exact S6 kc hi k d f hf hl hs a g
   | o b c=>
     obtain⟨d,f,a,_,g⟩:=l;by_cases m:c<j
     .exact(Sep.strict Dh (110+100*(c:Int)) (fun p hp=>by have:=a p hp;unfold np mid at this;dsimp only at this;omega) (fun p hp=>by have:=r p hp;omega)).symm
     exact Sep.strict Dh (70+100*(c:Int)) (fun p hp=>by have:=r p hp;omega) (fun p hp=>by have:=a p hp;unfold np mid at this;dsimp only at this;omega)
 | v i j=>
   obtain⟨hi,k,hl,hs⟩:=h;have r:=MR kc hi k hl;cases s' with
   | h b c=>
     obtain⟨d,f,a,g⟩:=l;exact(S6 kc d f hi k hf.symm a g hl hs).symm
   | v b c=>
     obtain⟨d,f,a,g⟩:=l;have r':=MR kc d f a;by_cases m:i=b
     .subst m;rcases Nat.lt_trichotomy j c with h1| h1| h1
      .exact S5 kc hi k f h1 hl a
      .exact absurd (by rw[h1]) bW
      exact(S5 kc hi f k h1 a hl).symm
     by_cases n:i<b
     .exact Sep.strict Dg (100+100*(i:Int)) (fun p hp=>by have:=r p hp;omega) (fun p hp=>by have:=r' p hp;omega)
     exact(Sep.strict Dg (100+100*(b:Int)) (fun p hp=>by have:=r' p hp;omega) (fun p hp=>by have:=r p hp;omega)).symm
   | o b c=>
     obtain⟨d,f,a,_,g⟩:=l;by_cases m:b<i
     .exact(Sep.strict Dg (110+100*(b:Int)) (fun p hp=>by have:=a p hp;unfold np mid at this;dsimp only at this;omega) (fun p hp=>by have:=r p hp;omega)).symm
     exact Sep.strict Dg (70+100*(b:Int)) (fun p hp=>by have:=r p hp;omega) (fun p hp=>by have:=a p hp;unfold np mid at this;dsimp only at this;omega)
 | o i j=>
   obtain⟨hi,k,hl,_,hs⟩:=h;cases s' with
   | h b c=>
     obtain⟨d,f,a,g⟩:=l;have r':=MQ kc d f a;by_cases m:j<c
     .exact Sep.strict Dh (110+100*(j:Int)) (fun p hp=>by have:=hl p hp;unfold np mid at this;dsimp only at this;omega) (fun p hp=>by have:=r' p hp;omega)
     exact(Sep.strict Dh (70+100*(j:Int)) (fun p hp=>by have:=r' p hp;omega) (fun p hp=>by have:=hl p hp;unfold np mid at this;dsimp only at this;omega)).symm
   | v b c=>
     obtain⟨d,f,a,g⟩:=l;have r':=MR kc d f a;by_cases m:i<b
     .exact Sep.strict Dg (110+100*(i:Int)) (fun p hp=>by have:=hl p hp;unfold np mid at this;dsimp only at this;omega) (fun p hp=>by have:=r' p hp;omega)
     exact(Sep.strict Dg (70+100*(i:Int)) (fun p hp=>by have:=r' p hp;omega) (fun p hp=>by have:=hl p hp;unfold np mid at this;dsimp only at this;omega)).symm
   | o b c=>
     obtain⟨d,f,a,_,g⟩:=l;exact(hs.mU g hf (.inl rfl)).elim
end
end Go.AM
namespace Go.AM.Dr
def fD (a l:List Pt):Prop:=(∀p ∈ a,p ∈ l)/\ ∀p ∈ inner a,p ∈ inner l
theorem fD.refl (l:List Pt):fD l l:=⟨fun _ h=>h,fun _ h=>h⟩
theorem fD.trans {a b c:List Pt} (h:fD a b) (k:fD b c):fD a c:=⟨fun p hp=>k.1 p (h.1 p hp),fun p hp=>k.2 p (h.2 p hp)⟩
theorem OL {l:List Pt} {n:Nat} {p:Pt} (h0:1<=n) (h:l[n]? =some p) (h1:n+1 <l.length):p ∈ inner l:=by
 unfold inner;cases l with
 | nil=>simp at h1
 | cons a l=>
   obtain⟨n,rfl⟩: ∃k,n=k+1:=⟨n - 1,by omega⟩;simp only[List.getElem?_cons_succ] at h;simp only[List.tail_cons];have hl:n<l.dropLast.length:=by simp at h1;simp;omega
   have:l.dropLast[n]? =some p:=by rw[List.dropLast_eq_take,List.getElem?_take];rw[if_pos (by simp at h1;omega)];exact h
   exact List.mem_of_getElem? this
theorem fD.erase {l:List Pt} {n:Nat} (h0:1<=n) (h1:n+1 <l.length):fD (l.eraseIdx n) l:=by
 refine⟨fun p hp=>List.mem_of_mem_eraseIdx hp,fun p hp=> ?_⟩;cases l with
 | nil=>simp at h1
 | cons a l=>
   obtain⟨n,rfl⟩: ∃k,n=k+1:=⟨n - 1,by omega⟩;unfold inner at hp ⊢;simp only[List.eraseIdx_cons_succ,List.tail_cons] at hp ⊢;have hn:n<l.dropLast.length:=by simp at h1;simp;omega
   have e: (l.eraseIdx n).dropLast=l.dropLast.eraseIdx n:=by
    rcases List.eq_nil_or_concat l with rfl| ⟨L,x,rfl⟩
    .simp at h1
    rw[List.concat_eq_append] at*;simp only[List.dropLast_concat] at hn;rw[List.eraseIdx_append_of_lt_length hn,List.dropLast_concat,List.dropLast_concat]
   rw[e] at hp;exact List.mem_of_mem_eraseIdx hp
theorem Wm {l c a b:List Pt} (h:Sep l c) (ha:fD a l) (hb:fD b c):Sep a b:=by obtain⟨f,ax,k,v,⟨h1,h2⟩,h3,h4⟩:=h;exact⟨f,ax,k,v,⟨fun p hp=>h1 p (ha.1 p hp),fun p hp=>h2 p (ha.2 p hp)⟩,fun p hp=>h3 p (hb.1 p hp),fun p hp=>h4 p (hb.2 p hp)⟩
theorem O8 {l g:List Pt} (h:Sep l g) {a b c d e:Pt} (ha:a ∈ l) (hb:b ∈ inner l) (hc:c ∈ l) (hd:d ∈ g) (he:e ∈ g):fj a b c d e=false:=by obtain⟨f,ax,k,v,⟨h1,h2⟩,h3,h4⟩:=h;exact SY ax (h1 a ha) (h2 b hb) (h1 c hc) (h3 d hd) (h3 e he)
theorem Ex {skip:Bool} {n:Int}: ∀ {ps:List Pt} {i:Nat} {x:Pt×Pt},x ∈ pJ skip n i ps->x.1 ∈ ps/\x.2 ∈ ps
 | [],i,x,h=>by simp[pJ] at h
 | [p],i,x,h=>by simp[pJ] at h
 | p::q::r,i,x,h=>by
   rw[pJ] at h;rcases List.mem_append.1 h with h| h
   .split at h
    .simp at h
    rw[List.mem_singleton.1 h];simp
   have:=Ex h;exact⟨List.mem_cons_of_mem _ this.1,List.mem_cons_of_mem _ this.2⟩
theorem Wl {l d:List Pt} (h:Sep l d) {a b c:Pt} (ha:a ∈ l) (hb:b ∈ inner l) (hc:c ∈ l) (skip:Bool) (n:Int) (i:Nat): ((pJ skip n i d).any fun x=>fj a b c x.1 x.2)=false:=by rw[List.any_eq_false];intro x hx;have:=Ex hx;rw[O8 h ha hb hc this.1 this.2];simp
structure La (d0:Int) (m x:aB):Prop where
 f:x.ak=m.ak
 p:x.ar=m.ar
 len:x.aA.length=m.aA.length
 e: ∀ (k:Nat) e,m.aA[k]? =some e-> ∃e',x.aA[k]? =some e'/\e'.id=e.id/\e'.left=e.left/\e'.right=e.right/\fD e'.line e.line/\(bZ m e=d0\/e'=e)
def qK (m:aB):Prop:= ∀ (i j:Nat) e e',m.aA[i]? =some e->m.aA[j]? =some e'->bZ m e≠0->bZ m e'≠0->bZ m e≠bZ m e'->Sep e.line e'.line
theorem O9 {m:aB} {e e':aH} (h:bZ m e≠0) (c:bZ m e'≠0) (bW:bZ m e≠bZ m e'):u9 e e':=by
 unfold bZ at h c bW;split at h
 case isFalse=>exact absurd rfl h
 rename_i a;split at c
 case isFalse=>exact absurd rfl c
 rename_i b;rw[if_pos a,if_pos b] at bW;refine⟨⟨fun k=>bW (by rw[k]),fun k=>bW (by rw[k,b])⟩,fun k=>bW (by rw[a,k]),fun k=>bW (by rw[a,b,k])⟩
theorem Tn {m:aB} {nd:Nat->Nat->Pt} {cz:Int->Int->Int} {S:List Slot} (kc: ∀i j,i< 10->j< 10->ki i j (nd i j)) (b:nQ nd cz S m.aA):qK m:=by
 intro i j e e' he a h d bW;have JL:i≠j:=fun k=>by subst k;rw[he] at a;injection a with a;exact bW (by rw[a])
 obtain⟨s,hs⟩: ∃s,S[i]? =some s:=⟨_,List.getElem?_eq_getElem (by rw[b.len];exact(List.getElem?_eq_some_iff.1 he).1)⟩;obtain⟨s',c⟩: ∃s,S[j]? =some s:=⟨_,List.getElem?_eq_getElem (by rw[b.len];exact(List.getElem?_eq_some_iff.1 a).1)⟩;refine S7 kc (s:=s) (s':=s') (fun k=>JL ?_) (b.at_ i e s he hs) (b.at_ j e' s' a c) (O9 h d bW);exact(List.getElem?_inj (by have:=(List.getElem?_eq_some_iff.1 hs).1;exact this) b.nd).1 (by rw[hs,c,k])
section
variable {d0:Int} {m x:aB} (h:La d0 m x) (o9:qK m) (h0:d0≠0)
include h o9 h0
end
section
variable {d0:Int} {m x:aB} (h:La d0 m x) (o9:qK m) (h0:d0≠0) {fm gm fx gx:Int->Int->Int} {d:Int} (hd:d≠0) (bW:d≠d0)
variable (hfm: ∀id n,alH 526 [m.v,vi id,vi n] (vi (fm id n))) (FI: ∀id n,alH 527 [m.v,vi id,vi n] (vi (gm id n)))
variable (hfx: ∀id n,alH 526 [x.v,vi id,vi n] (vi (fx id n))) (P2: ∀id n,alH 527 [x.v,vi id,vi n] (vi (gx id n)))
variable (hm:m.Fit) (hx:x.Fit)
include h o9 h0 hd bW hfm FI hfx P2 hm hx
end
end Go.AM.Dr
namespace Go.AM
theorem oa.fit {es es':List aH} {ps:List Pt} {left right:Int} {n:Nat} (h:oQ es n) (hp:eZ ps) (ha:oa es es' ps left right):oQ es' (n+1):=by
 rcases ha with⟨_,rfl⟩ | ⟨_,e,rfl,_,h1⟩
 .exact h.mono ajk
 refine h.snoc ?_;rcases h1 with⟨h2,_⟩ | ⟨h2,_⟩
 .rw[h2];exact hp
 rw[h2];unfold eZ at*;rw[List.length_reverse];exact hp
theorem S8 {l:List Int} (hl:l.length< 9223372036854775808): ∃nd:Nat->Nat->Pt,∀i j,i< 10->j< 10->ki i j (nd i j)/\alH 115 [.lit 1 (l.map vi),au i,au j] ((nd i j).v):=
 ⟨fun i j=>if h:i< 10/\j< 10 then Classical.choose (Ik hl h.1 h.2) else⟨0,0⟩,fun i j hi a=>by dsimp only;rw[dif_pos ⟨hi,a⟩];exact Classical.choose_spec (Ik hl hi a)⟩
theorem Ay {i j:Nat} {p:Pt} (hi:i< 6) (a:j< 6) (h:ki i j p):Wr p:=by unfold ki at h;unfold Wr;omega
section
variable {second eH first:List Int} (h3:eH.length< 9223372036854775808) {w h:Nat} (hw:w<=3) (hh:h<=2) {gd go ge ad:Nat} {x0 x1 x2 x3 x4 x5:Int}
variable {nd:Nat->Nat->Pt} (kc: ∀i j,i< 10->j< 10->ki i j (nd i j)/\alH 115 [.lit 1 (second.map vi),au i,au j] ((nd i j).v))
include h3 hw hh kc
theorem Z5 (S:SS) (m:Nat) (t:Nat) (A:SS.Sub (XY second eH gd w h go ge x0 x1 x2 x3 x4 x5 first ad m [] t [(15,au 0)]) S) (Q:aW->SS->Prop)
  (B: ∀ (es:List aH) (ae g7:Nat),oQ es 9->(∃S,nQ nd (lu [x0,x1,x2,x3,x4,x5] w h) S es/\ ∀s ∈ S,∃c a,s=Slot.h c a)->Q (.exit 4) (XY second eH gd w h go ge x0 x1 x2 x3 x4 x5 first ad ae es g7 [])):aO E YU S Q:=by
 refine aO.NK ?_;refine aO.by (fun ((j,es,ae,g7):Nat×List aH×Nat×Nat)=>XY second eH gd w h go ge x0 x1 x2 x3 x4 x5 first ad ae es g7 [(15,au j)])
  (fun (j,es,_,_)=>j<=h+1/\oQ es (3*j)/\(∃S,nQ nd (lu [x0,x1,x2,x3,x4,x5] w h) S es/\ ∀s ∈ S,∃c a,s=Slot.h c a/\a<j)) (fun (j,_)=>h+1 - j) (0,[],m,t) A ⟨ajl,⟨ajl,ajl⟩,[],nQ.nil _ _,ajl⟩ ?_
 rintro⟨j,es,ae,g7⟩ ⟨hj,he,hG⟩
 try dsimp only at hj he hG
 by_cases I:j<=h
 .conv=>whnf
  repeat' (first| intro g| refine st ?_| refine br ?_ ?_<;>intro hc| rfl) <;>conv=>whnf
  refine aO.by (fun ((i,es,ae,g7):Nat×List aH×Nat×Nat)=>XY second eH gd w h go ge x0 x1 x2 x3 x4 x5 first ad ae es g7 [(15,au j),(16,au i)])
   (fun (i,es,_,_)=>i<=w/\oQ es (3*j+i)/\(∃S,nQ nd (lu [x0,x1,x2,x3,x4,x5] w h) S es/\ ∀s ∈ S,∃c a,s=Slot.h c a/\(a<j\/a=j/\c<i))) (fun (i,_)=>w - i) (0,es,ae,g7) su ⟨ajl,he,by
     obtain⟨S,f,d⟩:=hG;exact⟨S,f,fun s hs=>by
       obtain⟨c,a,k,n⟩:=d s hs;exact⟨c,a,k,.inl n⟩⟩⟩ ?_
  clear he hG;rintro⟨i,es,ae,g7⟩ ⟨hi,he,hG⟩
  try dsimp only at hi he hG
  have uU:=he.1;by_cases Y0:i<w
  .have p:IntKind.i64.wrap ((i:Int)+1)=((i+1:Nat):Int):=wt;obtain⟨N1,Fz⟩:=kc i j ajk ajk;obtain⟨N2,FA⟩:=kc (i+1) j ajk ajk;have S1:=Ay ajk ajk N1;have S2:=Ay ajk ajk N2;have Z6:alH 115 [.lit 1 (second.map vi),vi (IntKind.i64.wrap ((i:Int)+1)),au j] ((nd (i+1) j).v):=by rw[p];exact FA
   have o:IntKind.i64.wrap ((j:Int) - 1)=(j:Int) - 1:=bo ajk ajk;obtain⟨ps,a1,C,D,Z7⟩:=Wt h3 S1 S2 (by unfold ki at N1 N2;omega) (by unfold ki at N1 N2;omega) ae;have F:=wU (cs:=[x0,x1,x2,x3,x4,x5]) rfl hw hh (i:Int) (j:Int);have u:=wU (cs:=[x0,x1,x2,x3,x4,x5]) rfl hw hh (i:Int) ((j:Int) - 1);rw[<-o] at u;have x:eZ (nd i j::ps++[nd (i+1) j]):=⟨ajl,by simp;omega⟩;obtain⟨es',G,b,hA,H⟩:=F4 h3 (es:=es) ajk (ps:=nd i j::ps++[nd (i+1) j]) x (lu [x0,x1,x2,x3,x4,x5] w h i j) (lu [x0,x1,x2,x3,x4,x5] w h i (IntKind.i64.wrap ((j:Int) - 1))) a1;have jg:=oa.fit he x hA;have r: ∃S,nQ nd (lu [x0,x1,x2,x3,x4,x5] w h) S es'/\ ∀s ∈ S,∃c a,s=Slot.h c a/\(a<j\/a=j/\c<i+1):=by
     obtain⟨S,f,d⟩:=hG;rw[o] at hA;obtain⟨S',k,n⟩:=f.added (s:= .h i j) hA (fun hs=>by obtain⟨c,a,l,y⟩:=d _ hs;injection l with l J;omega) (fun e hl hs=> ⟨ajk,ajk,⟨ps,C,D,.inl rfl⟩ |> fun z:gu (nd i j) (nd (i+1) j) (G5 (nd i j) (nd (i+1) j)) (nd i j::ps++[nd (i+1) j])=>hl.elim (fun q=>q ▸ z) (fun q=>q ▸ z.rev),hs⟩);refine⟨S',n,fun s hs=> ?_⟩;rcases k with rfl| rfl
     . obtain⟨c,a,l,y⟩:=d s hs
       exact⟨c,a,l,ajk⟩
     rcases ajD.1 hs with hs| hs
     .obtain⟨c,a,l,y⟩:=d s hs;exact⟨c,a,l,ajk⟩
     exact⟨i,j,ajX.1 hs,ajk⟩
   clear hG;conv=>whnf
   repeat' (first| intro g| apply ca Fz| apply ca Z6| apply ca Z7| apply ca F| apply ca u| apply ca H| refine st ?_| refine br ?_ ?_<;>intro hc| rfl) <;>conv=>whnf
   exact aR.mk (i+1,es',G,_) om ⟨om,jg,r⟩ su
  obtain rfl:i=w:=ajk;conv=>whnf
  repeat' (first| intro g| refine st ?_| refine br ?_ ?_<;>intro hc| rfl) <;>conv=>whnf
  exact aR.mk (j+1,es,ae,g7) om ⟨om,he.mono ajk,by
    obtain⟨S,f,d⟩:=hG;exact⟨S,f,fun s hs=>by
      obtain⟨c,a,k,n⟩:=d s hs;exact⟨c,a,k,ajk⟩⟩⟩ su
 .conv=>whnf
  repeat' (first| intro g| refine st ?_| refine br ?_ ?_<;>intro hc| rfl) <;>conv=>whnf
  refine⟨_,?_,B es ae g7 (he.mono ajk) (by
   obtain⟨S,f,d⟩:=hG;exact⟨S,f,fun s hs=>by
     obtain⟨c,a,k,n⟩:=d s hs;exact⟨c,a,k⟩⟩)⟩
  exact su
theorem Z8 (S:SS) (p:List aH) (r:oQ p 9) (t: ∃S,nQ nd (lu [x0,x1,x2,x3,x4,x5] w h) S p/\ ∀s ∈ S,∃c a,s=Slot.h c a) (m:Nat) (x:Nat) (C:SS.Sub (XY second eH gd w h go ge x0 x1 x2 x3 x4 x5 first ad m p x [(17,au 0)]) S) (Q:aW->SS->Prop)
  (D: ∀ (es:List aH) (ae g7:Nat),oQ es 17->(∃S,nQ nd (lu [x0,x1,x2,x3,x4,x5] w h) S es/\ ∀s ∈ S,(∃c a,s=Slot.h c a)\/ ∃c a,s=Slot.v c a)->Q (.exit 8) (XY second eH gd w h go ge x0 x1 x2 x3 x4 x5 first ad ae es g7 [])):aO E YV S Q:=by
 refine aO.NK ?_;refine aO.by (fun ((j,es,ae,g7):Nat×List aH×Nat×Nat)=>XY second eH gd w h go ge x0 x1 x2 x3 x4 x5 first ad ae es g7 [(17,au j)])
  (fun (j,es,_,_)=>j<=h/\oQ es (9+4*j)/\(∃S,nQ nd (lu [x0,x1,x2,x3,x4,x5] w h) S es/\ ∀s ∈ S,(∃c a,s=Slot.h c a)\/ ∃c a,s=Slot.v c a/\a<j)) (fun (j,_)=>h - j) (0,p,m,x) C ⟨ajl,r,by obtain⟨S,f,d⟩:=t;exact⟨S,f,fun s hs=> .inl (d s hs)⟩⟩ ?_
 rintro⟨j,es,ae,g7⟩ ⟨hj,he,hG⟩
 try dsimp only at hj he hG
 by_cases L:j<h
 .conv =>whnf
  repeat' (first| intro g| refine st ?_| refine br ?_ ?_<;>intro hc| rfl) <;>conv=>whnf
  refine aO.by (fun ((i,es,ae,g7):Nat×List aH×Nat×Nat)=>XY second eH gd w h go ge x0 x1 x2 x3 x4 x5 first ad ae es g7 [(17,au j),(18,au i)])
    (fun (i,es,_,_)=>i<=w+1/\oQ es (9+4*j+i)/\(∃S,nQ nd (lu [x0,x1,x2,x3,x4,x5] w h) S es/\ ∀s ∈ S,(∃c a,s=Slot.h c a)\/ ∃c a,s=Slot.v c a/\(a<j\/a=j/\c<i))) (fun (i,_)=>w+1 - i) (0,es,ae,g7) su ⟨ajl,he,by obtain⟨S,f,d⟩:=hG;exact⟨S,f,fun s hs=> (d s hs).imp id fun ⟨c,a,l,n⟩=> ⟨c,a,l,.inl n⟩⟩⟩ ?_
  clear he hG;rintro⟨i,es,ae,g7⟩ ⟨hi,he,hG⟩
  try dsimp only at hi he hG
  have uU:=he.1;by_cases Y0:i<=w
  . have F:IntKind.i64.wrap ((j:Int)+1)=((j+1:Nat):Int):=wt
    obtain⟨N1,Fz⟩:=kc i j ajk ajk;obtain⟨N2,FA⟩:=kc i (j+1) ajk ajk;have S1:=Ay ajk ajk N1;have S2:=Ay ajk ajk N2;have Z6:alH 115 [.lit 1 (second.map vi),au i,vi (IntKind.i64.wrap ((j:Int)+1))] ((nd i (j+1)).v):=by rw[F];exact FA
    have o:IntKind.i64.wrap ((i:Int) - 1)=(i:Int) - 1:=bo ajk ajk;obtain⟨ps,a1,G,H,Z7⟩:=Wv h3 S1 S2 (by unfold ki at N1 N2;omega) (by unfold ki at N1 N2;omega) ae;have y:=wU (cs:=[x0,x1,x2,x3,x4,x5]) rfl hw hh ((i:Int) - 1) (j:Int);have I:=wU (cs:=[x0,x1,x2,x3,x4,x5]) rfl hw hh (i:Int) (j:Int);rw[<-o] at y;have A:eZ (nd i j::ps++[nd i (j+1)]):=⟨ajl,by simp;omega⟩;obtain⟨es',J,b,hA,K⟩:=F4 h3 (es:=es) ajk (ps:=nd i j::ps++[nd i (j+1)]) A (lu [x0,x1,x2,x3,x4,x5] w h (IntKind.i64.wrap ((i:Int) - 1)) j) (lu [x0,x1,x2,x3,x4,x5] w h i j) a1;have jg:=oa.fit he A hA;have u: (∃S,nQ nd (lu [x0,x1,x2,x3,x4,x5] w h) S es'/\ ∀s ∈ S,(∃c a,s=Slot.h c a)\/ ∃c a,s=Slot.v c a/\(a<j\/a=j/\c<i+1)):=by
      obtain⟨S,f,d⟩:=hG;rw[o] at hA;obtain⟨S',l,n⟩:=f.added (s:= .v i j) hA (fun hs=>by
        rcases d _ hs with⟨c,a,k⟩ | ⟨c,a,k,B⟩
        .cases k
        .injection k with k M;omega) (fun e hl hs=> ⟨ajk,ajk,⟨ps,G,H,.inl rfl⟩ |> fun z:gu (nd i j) (nd i (j+1)) (G6 (nd i j) (nd i (j+1))) (nd i j::ps++[nd i (j+1)])=>hl.elim (fun q=>q ▸ z) (fun q=>q ▸ z.rev),hs⟩)
      refine⟨S',n,fun s hs=> ?_⟩;rcases l with rfl| rfl
      .exact(d s hs).imp id fun ⟨c,a,k,B⟩=> ⟨c,a,k,ajk⟩
      rcases ajD.1 hs with hs| hs
      .exact(d s hs).imp id fun ⟨c,a,k,B⟩=> ⟨c,a,k,ajk⟩
      exact .inr ⟨i,j,ajX.1 hs,ajk⟩
    clear hG;conv=>whnf
    repeat' (first| intro g| apply ca Fz| apply ca Z6| apply ca Z7| apply ca y| apply ca I| apply ca K| refine st ?_| refine br ?_ ?_<;>intro hc| rfl) <;>conv=>whnf
    exact aR.mk (i+1,es',J,_) om ⟨om,jg,u⟩ su
  obtain rfl:i=w+1:=ajk;conv=>whnf
  repeat' (first| intro g| refine st ?_| refine br ?_ ?_<;>intro hc| rfl) <;>conv=>whnf
  exact aR.mk (j+1,es,ae,g7) om ⟨om,he.mono ajk,by obtain⟨S,f,d⟩:=hG;exact⟨S,f,fun s hs=> (d s hs).imp id fun ⟨c,a,l,n⟩=> ⟨c,a,l,ajk⟩⟩⟩ su
 .conv=>whnf
  repeat' (first| intro g| refine st ?_| refine br ?_ ?_<;>intro hc| rfl) <;>conv=>whnf
  refine⟨_,?_,D es ae g7 (he.mono ajk) (by obtain⟨S,f,d⟩:=hG;exact⟨S,f,fun s hs=> (d s hs).imp id fun ⟨c,a,l,n⟩=> ⟨c,a,l⟩⟩)⟩;exact su
end
def B1 (l:List Int):Prop:=l.Pairwise (· < ·)
theorem Az {l:List Int} {n:Int} {j:Nat} {y:Int} (h: ∀ (i:Nat) x,j+1<=i->l[i]? =some x->n<=x) (hy:l[j]? =some y) (hn:n<=y): ∀ (i:Nat) x,j<=i->l[i]? =some x->n<=x:=fun i x h1 h2=>by
 by_cases e:i=j
 .subst e;rw[hy] at h2;injection h2 with h2;omega
 exact h i x ajk h2
theorem S9 {l:List Int} {n:Int} {j:Nat} (c:B1 l) (h1: ∀ (i:Nat) x,i<j->l[i]? =some x->x<n) (h2: ∀ (i:Nat) x,j<=i->l[i]? =some x->n<x):B1 (l.take j++[n]++l.drop j):=by
 unfold B1 at*;rw[List.pairwise_append,List.pairwise_append];have d: ∀a ∈ l.take j,a<n:=fun a ha=>by
  obtain⟨i,hi⟩:=ajH ha;rw[ajW] at hi;split at hi
  .exact h1 i a (by assumption) hi
  cases hi
 have e: ∀a ∈ l.drop j,n<a:=fun a ha=>by obtain⟨i,hi⟩:=ajH ha;rw[ak5] at hi;exact h2 (j+i) a ajk hi
 refine⟨⟨List.Pairwise.sublist (List.take_sublist _ _) c,List.pairwise_singleton _ _,fun a ha b hb=>by rw[ajX.1 hb];exact d a ha⟩,List.Pairwise.sublist (List.drop_sublist _ _) c,fun a ha b hb=> ?_⟩;rcases ajD.1 ha with ha| ha
 .exact Int.lt_trans (d a ha) (e b hb)
 rw[ajX.1 ha];exact e b hb
theorem MS {l:List Int} (a:B1 l) {i j:Nat} {x y:Int} (h:i<j) (hx:l[i]? =some x) (hy:l[j]? =some y):x<y:=by obtain⟨h1,rfl⟩:=ajp.1 hx;obtain⟨h2,rfl⟩:=ajp.1 hy;exact ak6.1 a i j h1 h2 h
theorem MT {l:List Int} {n:Int} {j:Nat} {y:Int} (a:B1 l) (hy:l[j]? =some y) (h: ¬n<=y): ∀ (i:Nat) x,i<j+1->l[i]? =some x->x<n:=fun i x h1 h2=>by
 by_cases e:i=j
 .subst e;rw[hy] at h2;injection h2 with h2;omega
 have:=MS a (by omega:i<j) h2 hy;omega
theorem MU {l:List Int} {n:Int} {j:Nat} {y:Int} (a:B1 l) (b: ∀ (i:Nat) x,j<=i->l[i]? =some x->n<=x) (hy:l[j]? =some y) (h: ¬y=n): ∀ (i:Nat) x,j<=i->l[i]? =some x->n<x:=fun i x h1 h2=>by
 have h3:=b j y (ajw _) hy;by_cases e:i=j
 .subst e;rw[hy] at h2;injection h2 with h2;omega
 have:=MS a (by omega:j<i) hy h2;omega
theorem MV {l:List Int} {n:Int} {j:Nat} (h: ¬j<l.length): ∀ (i:Nat) x,j<=i->l[i]? =some x->n<x:=fun i x h1 h2=>by have:=(ajp.1 h2).1;omega
theorem wY {l:List Int} {n:Int} (j:Nat) (b:B1 l) (h1: ∀ (i:Nat) x,i<j->l[i]? =some x->x<n) (h2: ∀ (i:Nat) x,j<=i->l[i]? =some x->n<x) {A B:List Int} (hA:A=l.take j) (c:B=l.drop j): ∃a:List Int,a.length<=l.length+1/\B1 a/\
  ((⟨V.own 1 ([]++A.map vi++[vi n]++B.map vi),[]⟩:fu)=⟨.lit 1 (a.map vi),[]⟩\/(⟨V.own 1 ([]++A.map vi++[vi n]++B.map vi),[]⟩:fu)=⟨.own 1 (a.map vi),[]⟩):=by
 subst hA c;exact⟨l.take j++[n]++l.drop j,by simp;omega,S9 b h1 h2,.inr ajl⟩
theorem AA {l:List Int} (hl:l.length< 1000000) (a:B1 l) (n:Int): ∃res,Ev E 162 [.lit 1 (l.map vi),vi n] res/\ ∃c:List Int,c.length<=l.length+1/\B1 c/\(res=⟨.lit 1 (c.map vi),[]⟩\/res=⟨.own 1 (c.map vi),[]⟩):=by
 refine amN ?_;conv=>whnf
 repeat' (first| intro g| refine st ?_| (refine fP.dF ?_;intro s) | refine br ?_ ?_<;>intro hc| rfl) <;>conv=>whnf
 refine aO.by (fun (j:Nat)=> ⟨[(0,.lit 1 (l.map vi)),(1,vi n),(5,au j)],[]⟩) (fun j=>j<=l.length/\ ∀ (i:Nat) x,j<=i->l[i]? =some x->n<=x) (fun j=>j) l.length ?_ ⟨ajw _,fun i x h1 h2=>by have:=(ajp.1 h2).1;omega⟩ ?_
 .exact su
 rintro j ⟨f,b⟩;by_cases d:j<l.length
 .obtain⟨x,hx⟩: ∃x,l[j]? =some x:=⟨_,aM d⟩;cases j with
  | zero=>
    conv=>whnf
    repeat' (first| intro g| refine wi (aw hx rfl) ?_| refine wi (iq _ _ _ _) ?_| refine st ?_| (refine fP.dF ?_;intro s) | refine br ?_ ?_<;>intro hc| rfl) <;>conv=>whnf
    all_goals first
     | exact⟨l,ajk,a,.inl rfl⟩
     | exact aR.mk j om ⟨ajk,Az b hy ajk⟩ su
     | (refine wY 0 a ajk (MU a b hx hc) ?_ ?_<;> (simp[List.take_of_length_le] <;>omega))
     | trace_state
  | succ j=>
    obtain⟨y,hy⟩: ∃y,l[j]? =some y:=⟨_,aM ajk⟩;have e:IntKind.i64.wrap (((j+1:Nat):Int) - 1)=(j:Int):=wt;conv=>whnf
    repeat' (first| intro g| refine wi (aw hx rfl) ?_| refine wi (aw hy e) ?_| refine wi (iq _ _ _ _) ?_| refine st ?_| (refine fP.dF ?_;intro s) | refine br ?_ ?_<;>intro hc| rfl) <;>conv=>whnf
    all_goals first
     | exact⟨l,ajk,a,.inl rfl⟩
     | exact aR.mk j om ⟨ajk,Az b hy ajk⟩ su
     | (refine wY (j+1) a (MT a hy (by assumption)) (MU a b hx hc) ?_ ?_<;> (simp[List.take_of_length_le] <;>omega))
     | trace_state
 cases j with
 | zero=>
   conv=>whnf
   repeat' (first| intro g| refine wi (iq _ _ _ _) ?_| refine st ?_| (refine fP.dF ?_;intro s) | refine br ?_ ?_<;>intro hc| rfl) <;>conv=>whnf
   all_goals first
    | exact⟨l,ajk,a,.inl rfl⟩
    | exact aR.mk j om ⟨ajk,Az b hy ajk⟩ su
    | (refine wY 0 a ajk (MV d) ?_ ?_<;> (simp[List.take_of_length_le] <;>omega))
    | trace_state
 | succ j=>
   obtain⟨y,hy⟩: ∃y,l[j]? =some y:=⟨_,aM ajk⟩;have e:IntKind.i64.wrap (((j+1:Nat):Int) - 1)=(j:Int):=wt;conv=>whnf
   repeat' (first| intro g| refine wi (aw hy e) ?_| refine wi (iq _ _ _ _) ?_| refine st ?_| (refine fP.dF ?_;intro s) | refine br ?_ ?_<;>intro hc| rfl) <;>conv=>whnf
   all_goals first
    | exact⟨l,ajk,a,.inl rfl⟩
    | exact aR.mk j om ⟨ajk,Az b hy ajk⟩ su
    | (refine wY (j+1) a (MT a hy (by assumption)) (MV d) ?_ ?_<;> (simp[List.take_of_length_le] <;>omega))
    | trace_state
theorem En {es:List aH} (he:es.length< 10000): ∃res,Ev E 118 [.lit 4 (es.map aH.v)] res/\ ∃fs:List aP,fs.length<=2*es.length/\(fs.map aP.id).Nodup/\res=⟨.own 5 (fs.map aP.v),[]⟩:=by
 refine amN ?_;conv=>whnf
 repeat' (first| intro g| refine st ?_| (refine fP.dF ?_;intro s) | refine br ?_ ?_<;>intro hc| rfl) <;>conv=>whnf
 refine aO.by (fun ((k,ids):Nat×List Int)=> ⟨[(0,.lit 4 (es.map aH.v)),(3,.lit 1 (ids.map vi)),(4,au k)],[]⟩) (fun (k,ids)=>k<=es.length/\ids.length<=2*k/\B1 ids) (fun (k,_)=>es.length - k) (0,[]) su ⟨ajl,ajl,List.Pairwise.nil⟩ ?_
 rintro⟨k,ids⟩ ⟨hk,hi,hI⟩
 try dsimp only at hk hi hI
 by_cases d:k<es.length
 .obtain⟨e,b⟩: ∃e,es[k]? =some e:=⟨_,aM d⟩;by_cases h1:e.left=0 <;>by_cases h2:e.right=0
  .conv=>whnf
   repeat' (first| intro g| refine wi (aw b rfl) ?_| refine st ?_| (refine fP.dF ?_;intro s) | refine br ?_ ?_<;>intro hc| rfl) <;>conv=>whnf
   exact aR.mk (k+1,ids) om ⟨om,om,hI⟩ su
  .conv=>whnf
   repeat' (first| intro g| refine wi (aw b rfl) ?_| refine st ?_| (refine fP.dF ?_;intro s) | refine br ?_ ?_<;>intro hc| rfl) <;>conv=>whnf
   refine eQ.ex (AA ajk hI _) ?_;rintro _ ⟨c,i,a,rfl| rfl⟩;all_goals
    conv=>whnf
    repeat' (first| intro g| refine wi (aw b rfl) ?_| refine st ?_| (refine fP.dF ?_;intro s) | refine br ?_ ?_<;>intro hc| rfl) <;>conv=>whnf
    exact aR.mk (k+1,c) om ⟨om,om,a⟩ su
  .conv=>whnf
   repeat' (first| intro g| refine wi (aw b rfl) ?_| refine st ?_| (refine fP.dF ?_;intro s) | refine br ?_ ?_<;>intro hc| rfl) <;>conv=>whnf
   refine eQ.ex (AA ajk hI _) ?_;rintro _ ⟨c,i,a,rfl| rfl⟩;all_goals
    conv=>whnf
    repeat' (first| intro g| refine wi (aw b rfl) ?_| refine st ?_| (refine fP.dF ?_;intro s) | refine br ?_ ?_<;>intro hc| rfl) <;>conv=>whnf
    exact aR.mk (k+1,c) om ⟨om,om,a⟩ su
  conv=>whnf
  repeat' (first| intro g| refine wi (aw b rfl) ?_| refine st ?_| (refine fP.dF ?_;intro s) | refine br ?_ ?_<;>intro hc| rfl) <;>conv=>whnf
  refine eQ.ex (AA ajk hI _) ?_;rintro _ ⟨c,i,a,rfl| rfl⟩;all_goals
   conv=>whnf
   repeat' (first| intro g| refine wi (aw b rfl) ?_| refine st ?_| (refine fP.dF ?_;intro s) | refine br ?_ ?_<;>intro hc| rfl) <;>conv=>whnf
   refine eQ.ex (AA ajk a _) ?_;rintro _ ⟨l,JQ,f,rfl| rfl⟩;all_goals
    conv=>whnf
    repeat' (first| intro g| refine wi (aw b rfl) ?_| refine st ?_| (refine fP.dF ?_;intro s) | refine br ?_ ?_<;>intro hc| rfl) <;>conv=>whnf
    exact aR.mk (k+1,l) om ⟨om,om,f⟩ su
 obtain rfl:k=es.length:=ajk;conv=>whnf
 repeat' (first| intro g| refine st ?_| (refine fP.dF ?_;intro s) | refine br ?_ ?_<;>intro hc| rfl) <;>conv=>whnf
 refine aO.by (fun ((j,fs,g):Nat×List aP×Nat)=> ⟨[(3,.lit 1 (ids.map vi)),(5,.sl 97 g 0 fs.length),(6,au j)],[(97,⟨g,5,true,false,some (fs.map aP.v)⟩)]⟩) (fun (j,fs,_)=>j<=ids.length/\fs.length=j/\fs.map aP.id=ids.take j) (fun (j,_)=>ids.length - j) (0,[],g) su ⟨ajl,ajl,ajl⟩ ?_
 rintro⟨j,fs,g⟩ ⟨hj,hf,hT⟩
 try dsimp only at hj hf hT
 by_cases d:j<ids.length
 .obtain⟨x,hx⟩: ∃x,ids[j]? =some x:=⟨_,aM d⟩;conv=>whnf
  repeat' (first| intro g| refine wi (aw hx rfl) ?_| refine st ?_| (refine fP.dF ?_;intro s) | refine br ?_ ?_<;>intro hc| rfl) <;>conv=>whnf
  exact aR.mk (j+1,fs++[⟨x,[],[],0,0⟩],g) om ⟨om,by simp;omega,by rw[ajV,hT,aj6,hx];rfl⟩ su
 conv=>whnf
 repeat' (first| intro g| refine st ?_| (refine fP.dF ?_;intro s) | refine br ?_ ?_<;>intro hc| rfl) <;>conv=>whnf
 refine⟨fs,ajk,?_,rfl⟩;rw[hT,List.take_of_length_le ajk];exact hI.imp fun h e=>ajk
def Ta (es:List aH):Prop:= ∃nd cz S,(∀i j,i< 10->j< 10->ki i j (nd i j))/\nQ nd cz S es
theorem Iw {nd:Nat->Nat->Pt} {cz:Int->Int->Int} {S:List Slot} {es es':List aH} (h:nQ nd cz S es) (f: ∀s ∈ S,(∃b c,s=Slot.h b c)\/ ∃b c,s=Slot.v b c) {ps:List Pt} {a:Int} {i j:Nat} (hi:i< 4) (d:j< 4) (ha:oa es es' ps 28 a) (hc:a=cz i j) (hp: ∀p ∈ ps,np (mid i j) p) (hl:eZ ps): ∃S',nQ nd cz S' es':=by
 subst hc;obtain⟨S',_,k⟩:=h.added (s:= .o i j) ha (fun hs=>by
  rcases f _ hs with⟨_,_,k⟩ | ⟨_,_,k⟩ <;>cases k) fun e g hs=>by
  rcases g with h| h
  .exact⟨hi,d,by rw[h];exact hp,by rw[h];exact hl,hs⟩
  exact⟨hi,d,by rw[h];exact fun p l=>hp p (List.mem_reverse.1 l),by rw[h];unfold eZ at*;rw[List.length_reverse];exact hl,hs⟩
 exact⟨S',k⟩
theorem Z9 {i j:Nat} (hi:i< 4) (a:j< 4):Wr (mid i j):=by unfold Wr mid;dsimp only;omega
def tk (r:fu):Prop:= ∃ (es:List aH) (fs:List aP),oQ es 18/\Ta es/\(fs.length<=36/\(fs.map aP.id).Nodup)/\r=⟨.tuple [.lit 4 (es.map aH.v),.own 5 (fs.map aP.v)],[]⟩
theorem wZ (t:List (List Int)) {first second eH:List Int} (h1:first.length< 9223372036854775808) (h2:second.length< 9223372036854775808) (h3:eH.length< 9223372036854775808) {w h:Nat} (hw:w<=3) (hh:h<=2) (Fu:1<=w) (B:1<=h) (S:SS) (gd go a0:Nat) (YX:List Int) (h6:YX.length=6)
   (C:SS.Sub ⟨[(5,gZ second),(6,gZ eH),(7,.ptr 672 gd 0 0),(8,au w),(9,au h),(10,.ptr 176 go 0 0),(11,au 0)],[(672,⟨gd,2,false,false,some [da first a0]⟩),(176,⟨go,6,false,false,some [.agg (YX.map vi)]⟩)]⟩ S):
   aO E Kd S (QF 0 (thenS (C4 f83.results [iX t] tk) fun S'=>mf E (Kg XV 11) S' (C4 f83.results [iX t] tk))):=by
 obtain⟨nd,kc⟩:=S8 h2;have e: ∀i j,i< 10->j< 10->ki i j (nd i j):=fun i j hi f=> (kc i j hi f).1;refine adk h1 hw hh S gd go a0 YX h6 C _ ?_;intro a cs D
 match cs,D with
 | [x0,x1,x2,x3,x4,x5],_=>
   conv=>whnf
   repeat' (first| intro g| refine st ?_| refine br ?_ ?_<;>intro hc| rfl) <;>conv=>whnf
   rename_i ge;refine Z5 (gd:=gd) (go:=go) (ge:=ge) (ad:=a) (first:=first) (x0:=x0) (x1:=x1) (x2:=x2) (x3:=x3) (x4:=x4) (x5:=x5) h3 hw hh kc _ 0 g su _ ?_;intro es m o he c;conv=>whnf
   repeat' (first| intro g| refine st ?_| refine br ?_ ?_<;>intro hc| rfl) <;>conv=>whnf
   refine Z8 (gd:=gd) (go:=go) (ge:=ge) (ad:=a) (first:=first) (x0:=x0) (x1:=x1) (x2:=x2) (x3:=x3) (x4:=x4) (x5:=x5) h3 hw hh kc _ es he c m o su _ ?_;clear he c es m o;intro es m o he c;obtain⟨S0,c,q⟩:=c;have uU:=he.1;have u:=cD h1 2 (a:=a) ajk ajk;have x:=cD h1 w (a:=cm first a) ajk ajk;have y:=cD h1 h (a:=cm first (cm first a)) ajk ajk;have z:=fF (l:=first) (a:=cm first a) (n:=w) ajk ajk;have A:=fF (l:=first) (a:=cm first (cm first a)) (n:=h) ajk ajk;generalize eR first (cm first a) w=i at x z;generalize eR first (cm first (cm first a)) h=j at y A;by_cases F:eR first a 2=1
   . have OW: ∀ (i j:Nat),i< 3->j< 2-> ∀ (d:Int) (a0:Nat),∃res,Ev E 117 [.msl 4 (es.map aH.v) 0 es.length,(mid i j).v,vi d,.mptr 2 [da eH a0] 0 0] res/\ ∃ (es':List aH) (a b:Nat),(∃ps,eZ ps/\(∀p ∈ ps,np (mid i j) p)/\oa es es' ps 28 d)/\res=⟨.sl 0 b 0 es'.length,[(b,es'.map aH.v),(0,[da eH a])]⟩:=fun i j hi f d a0=>KZ h3 ajk (Z9 ajk ajk) d a0
     have r: ∀ (i j:Nat),i<w->j<h->lu [x0,x1,x2,x3,x4,x5] w h i j=[x0,x1,x2,x3,x4,x5].getD (2*i+j) 0:=fun i j hi f=>by unfold lu;rw[if_pos ajk];simp
     have G: ∀ {es':List aH} {fs:List aP} {ps:List Pt} {d:Int} (i j:Nat),i<w->j<h->eZ ps->(∀p ∈ ps,np (mid i j) p)->oa es es' ps 28 d->d=[x0,x1,x2,x3,x4,x5].getD (2*i+j) 0->oQ es' 18/\Ta es':=fun i j hi f hl hp hA hr=>by obtain⟨S',k⟩:=Iw c q (i:=i) (j:=j) ajk ajk hA (by rw[hr,r i j hi f]) hp hl;exact⟨oa.fit he hl hA,nd,_,S',e,k⟩
     rcases(by omega:i=0\/i=1\/i=2) with rfl| rfl| rfl<;>rcases(by omega:j=0\/j=1) with rfl| rfl
     all_goals
      conv=>whnf
      repeat' (first| intro g| apply ca u| apply ca x| apply ca y| refine st ?_| refine br ?_ ?_<;>intro hc| rfl) <;>conv=>whnf
      first
       | refine eQ.ex (OW 0 0 ajm ajm _ _) ?_
       | refine eQ.ex (OW 0 1 ajm ajm _ _) ?_
       | refine eQ.ex (OW 1 0 ajm ajm _ _) ?_
       | refine eQ.ex (OW 1 1 ajm ajm _ _) ?_
       | refine eQ.ex (OW 2 0 ajm ajm _ _) ?_
       | refine eQ.ex (OW 2 1 ajm ajm _ _) ?_
      rintro _ ⟨es',YZ,b,⟨ps,hl,hp,hA⟩,rfl⟩;have H:es'.length<=18:=(oa.fit he hl hA).1;conv=>whnf
      repeat' (first| intro g| refine st ?_| refine br ?_ ?_<;>intro hc| rfl) <;>conv=>whnf
      refine eQ.ex (En (es:=es') ajk) ?_;rintro _ ⟨fs,s,Am,rfl⟩;conv=>whnf
      repeat' (first| intro g| refine st ?_| refine br ?_ ?_<;>intro hc| rfl) <;>conv=>whnf
      obtain⟨I,J⟩:=G (fs:=fs) _ _ z A hl hp hA rfl;exact⟨es',fs,I,J,⟨ajk,Am⟩,rfl⟩
   conv=>whnf
   repeat' (first| intro g| apply ca u| refine st ?_| refine br ?_ ?_<;>intro hc| rfl) <;>conv=>whnf
   refine eQ.ex (En (es:=es) ajk) ?_;rintro _ ⟨fs,s,Am,rfl⟩;conv=>whnf
   repeat' (first| intro g| refine st ?_| refine br ?_ ?_<;>intro hc| rfl) <;>conv=>whnf
   exact⟨es,fs,he.mono ajk,⟨nd,_,S0,e,c⟩,⟨ajk,Am⟩,rfl⟩
theorem K7 {b:List (List Int)} (hs:y8 b): ∃res,Ev E 83 [iX b] res/\tk res:=by
 refine amN ?_;have hl:=hs.1;have key: ∀k,k<b.length-> ∃l,b[k]? =some l/\l.length< 9223372036854775808:=fun k f=> ⟨_,aM f,hs.2 _ (aky f)⟩;have gen: ∀ (first second eH:List Int),first.length< 9223372036854775808->second.length< 9223372036854775808->eH.length< 9223372036854775808->
   (0 <b.length->b[0]? =some first)->(1 <b.length->b[1]? =some second)->(2 <b.length->b[2]? =some eH)->(b.length<=0->first=[])->(b.length<=1->second=[])->(b.length<=2->eH=[])->
   mf E f83.body (xU [iX b]) (C4 f83.results [iX b] tk):=by
  intro first second eH h1 h2 h3 j s v x t m;have d:=cD h1 3 (a:=0) ajk ajk;have e:=cD h1 2 (a:=cm first 0) ajk ajk;have o:=fF (l:=first) (a:=0) (n:=3) ajk ajk;have p:=fF (l:=first) (a:=cm first 0) (n:=2) ajk ajk;generalize eR first 0 3=c at d o;generalize eR first (cm first 0) 2=r2 at e p;have w3:IntKind.i64.wrap (1+(c:Int))=((1+c:Nat):Int):=wt;have y:IntKind.i64.wrap (1+(r2:Int))=((1+r2:Nat):Int):=wt;have u:V.int .i64 (IntKind.i64.wrap (1+(c:Int)))=au (1+c):=by rw[w3]
  have f2:V.int .i64 (IntKind.i64.wrap (1+(r2:Int)))=au (1+r2):=by rw[y]
  have fin: ∀ (S:SS) (gd go:Nat),SS.Sub ⟨[(5,gZ second),(6,gZ eH),(7,.ptr 672 gd 0 0),(8,V.int .i64 (IntKind.i64.wrap (1+(c:Int)))),(9,if IntKind.i64.wrap (1+(c:Int))=3 then vi 1 else V.int .i64 (IntKind.i64.wrap (1+(r2:Int)))),(10,.ptr 176 go 0 0),(11,vi 0)],
    [(672,⟨gd,2,false,false,some [da first (cm first (cm first 0))]⟩),(176,⟨go,6,false,false,some [.agg [vi 0,vi 0,vi 0,vi 0,vi 0,vi 0]]⟩)]⟩ S->
    aO E Kd S (QF 0 (thenS (C4 f83.results [iX b] tk) fun S'=>mf E (Kg XV 11) S' (C4 f83.results [iX b] tk))):=by
   intro S gd go i;by_cases hc:IntKind.i64.wrap (1+(c:Int))=3
   .rw[u,if_pos hc] at i;exact wZ (w:=1+c) (h:=1) b h1 h2 h3 ajk ajk ajk ajk S gd go _ [0,0,0,0,0,0] rfl i
   rw[u,if_neg hc,f2] at i;exact wZ (w:=1+c) (h:=1+r2) b h1 h2 h3 ajk ajk ajk ajk S gd go _ [0,0,0,0,0,0] rfl i
  rcases(by omega:b.length=0\/b.length=1\/b.length=2\/2 <b.length) with q| q| q| q
  .obtain rfl:=x ajk;obtain rfl:=t ajk;obtain rfl:=m ajk;conv=>whnf
   repeat' (first| intro g| apply ca d| apply ca e| refine st ?_| refine br ?_ ?_<;>intro hc| rfl) <;>conv=>whnf
   all_goals (rename_i gd;refine fin _ gd g ?_)
   all_goals first| rw[if_pos hc] | rw[if_neg hc]
   all_goals exact su
  .obtain rfl:=t ajk;obtain rfl:=m ajk;conv=>whnf
   repeat' (first| intro g| refine wi (kx (j ajk)) ?_| apply ca d| apply ca e| refine st ?_| refine br ?_ ?_<;>intro hc| rfl) <;>conv=>whnf
   all_goals (rename_i gd;refine fin _ gd g ?_)
   all_goals first| rw[if_pos hc] | rw[if_neg hc]
   all_goals exact su
  .obtain rfl:=m ajk;conv=>whnf
   repeat' (first| intro g| refine wi (kx (j ajk)) ?_| refine wi (kx (s ajk)) ?_| apply ca d| apply ca e| refine st ?_| refine br ?_ ?_<;>intro hc| rfl) <;>conv=>whnf
   all_goals (rename_i gd;refine fin _ gd g ?_)
   all_goals first| rw[if_pos hc] | rw[if_neg hc]
   all_goals exact su
  .conv=>whnf
   repeat' (first| intro g| refine wi (kx (j ajk)) ?_| refine wi (kx (s ajk)) ?_| refine wi (kx (v ajk)) ?_| apply ca d| apply ca e| refine st ?_| refine br ?_ ?_<;>intro hc| rfl) <;>conv=>whnf
   all_goals (rename_i gd;refine fin _ gd g ?_)
   all_goals first| rw[if_pos hc] | rw[if_neg hc]
   all_goals exact su
 have pick: ∀k,∃l:List Int,l.length< 9223372036854775808/\(k<b.length->b[k]? =some l)/\(b.length<=k->l=[]):=by
  intro k;by_cases f:k<b.length
  .obtain⟨l,a1,r⟩:=key k f;exact⟨l,r,fun _=>a1,fun h=>ajk⟩
  exact⟨[],ajl,fun h=>ajk,fun _=>rfl⟩
 obtain⟨first,a1,b1,c1⟩:=pick 0;obtain⟨second,r,p,c2⟩:=pick 1;obtain⟨eH,z,o,c3⟩:=pick 2;exact gen first second eH a1 r z b1 p o c1 c2 c3
theorem ie (i j:Int): ∃p:Pt,alH 120 [vi i,vi j] p.v:=by
 refine dJ (amN ?_);conv=>whnf
 repeat' (first| intro g| refine st ?_| (refine fP.dF ?_;intro s) | refine br ?_ ?_<;>intro hc| rfl) <;>conv=>whnf
 exact⟨⟨_,_⟩,rfl⟩
def yA (ws:List bH) (n:Nat):Prop:=ws.length<=n/\(∀w ∈ ws,eZ w.line)/\ ∀ (i:Nat) w,ws[i]? =some w->w.id=41+(i:Int)
theorem yA.snoc {es:List bH} {n:Nat} {e:bH} (h:yA es n) (k:eZ e.line) (hi:e.id=41+(es.length:Int)):yA (es++[e]) (n+1):=
 ⟨by have:=h.1;simp;omega,fun x hx=>by
   rcases ajD.1 hx with hx| hx
   .exact h.2.1 x hx
   . have:x=e:=by simpa using hx
     subst this;exact k,fun i w hw=>by
   by_cases hl:i<es.length
   . rw[aj2 hl] at hw
     exact h.2.2 i w hw
   . rw[ajR ajk] at hw
     have a:i - es.length=0:=by have:=(ajp.1 hw).1;simp at this;omega
     rw[a] at hw;obtain rfl:e=w:=by simpa using hw
     rw[hi];omega⟩
theorem yA.mono {es:List bH} {n m:Nat} (h:yA es n) (k:n<=m):yA es m:=⟨ajQ h.1 k,h.2⟩
theorem rV {l:List Int} (hl:l.length< 9223372036854775808) {ws:List bH} {n:Nat} (hw:yA ws n) (hn:n< 1000) (p q:Pt) (level:Int) (a0:Nat):
  ∃res,Ev E 119 [.msl 8 (ws.map bH.v) 0 ws.length,p.v,q.v,vi level,.mptr 2 [da l a0] 0 0] res/\ ∃ (G7:List bH) (a b:Nat),yA G7 (n+1)/\res=⟨.sl 0 b 0 G7.length,[(b,G7.map bH.v),(0,[da l a])]⟩:=by
 refine amN ?_;have r:=hw.1;have nx:=fun k a (h:0 <k) (h2:k< 1000)=>cD hl k (a:=a) h ajk;have hb:=fF (l:=l) (a:=a0) (n:=3) ajk ajk;have d:=nx 3 a0 ajk ajk;generalize hm:eR l a0 3=many at hb d;have t:IntKind.i64.wrap ((many:Int)+1)=((many+1:Nat):Int):=wt;have KY:IntKind.i64.wrap (41+(ws.length:Int))=41+(ws.length:Int):=bo ajk ajk;conv=>whnf
 repeat' (first| intro g| apply ca d| refine st ?_| (refine fP.dF ?_;intro s) | refine br ?_ ?_<;>intro hc| rfl) <;>conv=>whnf
 rename_i g6 j c;refine aO.by (fun ((k,L,a,c):Nat×List Pt×Nat×Nat)=> ⟨[(0,.sl 0 0 0 ws.length),(4,.ptr 4 0 0 0),(6,.ptr 112 g6 0 0),(7,.ptr 128 j 0 0),(11,.ptr 192 g 0 0),(12,au many),(13,au k)],
   [(0,⟨0,8,true,false,some (ws.map bH.v)⟩),(4,⟨0,2,false,false,some [da l a]⟩),(112,⟨g6,2,false,false,some [p.v]⟩),(128,⟨j,2,false,false,some [q.v]⟩),
    (192,⟨g,8,false,false,some [.agg [vi (41+(ws.length:Int)),.sl 352 c 0 L.length,vi level,.str [],.str [],.bool false,vi 0,vi 0]]⟩),(352,⟨c,2,true,false,some (L.map Pt.v)⟩)]⟩)
  (fun (k,L,_,_)=>1<=k/\k<=many+1/\L.length=k) (fun (k,_)=>many+1 - k) (1,[p],cm l a0,c) ?_ ⟨ajl,ajl,ajl⟩ ?_
 .rw[KY];exact su
 rintro⟨k,L,a,c⟩ ⟨Al,JR,hL⟩
 try dsimp only at Al JR hL
 by_cases u:k<=many
 .have e:=nx 17 a ajk ajk;conv=>whnf
  repeat' (first| intro g| apply ca e| refine st ?_| (refine fP.dF ?_;intro s) | refine br ?_ ?_<;>intro hc| rfl) <;>conv=>whnf
  all_goals exact aR.mk (k+1,L++[⟨_,_⟩],cm l a,g) om ⟨om,om,by simp[hL]⟩ su
 have m:=fun a=>cD hl 2 (a:=a) ajk ajk;have d:=fun a=>cD hl 3 (a:=a) ajk ajk;have o:=fun a=>cD hl 4 (a:=a) ajk ajk;have f:=fun a=>cD hl 60 (a:=a) ajk ajk;conv=>whnf
 repeat' (first| intro g| apply ca (m _) | apply ca (d _) | apply ca (o _) | apply ca (f _) | refine st ?_| (refine fP.dF ?_;intro s) | refine br ?_ ?_<;>intro hc| rfl) <;>conv=>whnf
 have i:eZ (L++[q]):=⟨by simp;omega,by simp;omega⟩;exact⟨ws++[⟨_,L++[q],_,_,_,_,_,_⟩],_,_,hw.snoc i rfl,by simp only[ajV,List.map_cons,alj,List.length_append,ajC,ajJ,List.length_map,bH.v,iW];rfl⟩
end Go.AM
