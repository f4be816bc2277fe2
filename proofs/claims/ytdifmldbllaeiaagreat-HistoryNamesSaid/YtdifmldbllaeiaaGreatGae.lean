/- Texts of the proof. -/
import Derived.Test.YtdifmldbllaeiaaGreatGad
set_option maxRecDepth 20000
set_option maxHeartbeats 4000000
set_option linter.unusedSimpArgs false
set_option linter.unusedVariables false
namespace Go.AM.Dr
def Z3 (p a:Pt):Bool:=p.x==a.x && (p.y==a.y &&true)
def yw (a b c p:Pt):Bool:= !Z3 p a && (!Z3 p c &&Z1 a b c p)
def zm (d e x y p:Pt):Bool:=Ej d e p &&Ej x y p
def JO (x y d e a c:Pt):Bool:=if fH d e x y=1 then !zm d e x y a && !zm d e x y c else decide (fH d e x y=2)
def fj (a b c d e:Pt):Bool:=oi [a,b,c,d,e] && (yw a b c d || (yw a b c e || (JO a b d e a c || (JO b c d e a c || JO c a d e a c))))
theorem SO (a b c d:Pt):fH a b c d=0\/fH a b c d=1\/fH a b c d=2:=by
 unfold fH
 repeat' split
 all_goals simp
section
variable {a b c d e x y p:Pt} (ha:qL a) (hb:qL b) (hc:qL c) (hd:qL d) (he:qL e) (hx:qL x) (hy:qL y) (hp:qL p)
include hd he hx hy hp in
theorem sY:alH 566 [p.v,.eptr (.agg [vi d.x,vi d.y,vi e.x,vi e.y]) 0,.eptr (.agg [vi x.x,vi x.y,vi y.x,vi y.y]) 0] (.bool (zm d e x y p)):=by
 have h1:=Is hd he hp;have h2:=Is hx hy hp;unfold zm;generalize Ej d e p=a at*;generalize Ej x y p=b at*;cases a<;>cases b
 all_goals
  refine amM ?_;conv=>whnf
  repeat' (first| intro g| apply ca h1| apply ca h2| refine st ?_| refine br ?_ ?_<;>intro hc| rfl) <;>conv=>whnf
include ha hb hc hp in
theorem tl0 {Q:aW->SS->Prop} {i Aw j k K2 l g:Nat} {L:List V} {d e:Pt} (n:L[i]? =some p.v) (hi:i< 2)
  (m: ∀T' O',yw a b c p=true->lk T' 10=some (.bool true)->Q .ret ⟨T',O'⟩)
  (f: ∀T' O',yw a b c p=false->SS.Sub ⟨[(5,.ptr 96 Aw 0 0),(6,.ptr 112 j 0 0),(7,.ptr 128 k 0 0),(8,.ptr 144 K2 0 0),(9,.ptr 160 l 0 0),(28,.sl 464 g 0 2),(29,au 2),(30,au (i+1))],
    [(96,⟨Aw,2,false,false,some [a.v]⟩),(112,⟨j,2,false,false,some [b.v]⟩),(128,⟨k,2,false,false,some [c.v]⟩),(144,⟨K2,2,false,false,some [d.v]⟩),(160,⟨l,2,false,false,some [e.v]⟩),(464,⟨g,2,true,false,some L⟩)]⟩ ⟨T',O'⟩->Q .normal ⟨T',O'⟩):
  mf E VI ⟨[(5,.ptr 96 Aw 0 0),(6,.ptr 112 j 0 0),(7,.ptr 128 k 0 0),(8,.ptr 144 K2 0 0),(9,.ptr 160 l 0 0),(28,.sl 464 g 0 2),(29,au 2),(30,au i)],
    [(96,⟨Aw,2,false,false,some [a.v]⟩),(112,⟨j,2,false,false,some [b.v]⟩),(128,⟨k,2,false,false,some [c.v]⟩),(144,⟨K2,2,false,false,some [d.v]⟩),(160,⟨l,2,false,false,some [e.v]⟩),(464,⟨g,2,true,false,some L⟩)]⟩ Q:=by
 have h:=SN ha hb hc hp;clear ha hb hc hp;unfold yw at m f;generalize Z1 a b c p=z at*;cases z
 .have f:=fun T' O'=>f T' O' (by simp);clear m;conv=>whnf
  repeat' (first| intro g| refine wi n ?_| apply ca h| refine st ?_| refine br ?_ ?_<;>intro hc| rfl) <;>conv=>whnf
  all_goals exact f _ _ su
 conv=>whnf
 repeat' (first| intro g| refine wi n ?_| apply ca h| refine st ?_| refine br ?_ ?_<;>intro hc| rfl) <;>conv=>whnf
 .exact m _ _ (by unfold Z3;first| (simp_all;done) | grind) rfl
 .exact f _ _ (by unfold Z3;first| (simp_all;done) | grind) su
 exact f _ _ (by unfold Z3;first| (simp_all;done) | grind) su
include ha hc hd he hx hy in
theorem tl1 {Q:aW->SS->Prop} {i Aw j K3 g:Nat} {L:List V} (k:L[i]? =some (.agg [vi x.x,vi x.y,vi y.x,vi y.y])) (hi:i< 3)
  (b: ∀T' O',JO x y d e a c=true->lk T' 10=some (.bool true)->Q .ret ⟨T',O'⟩)
  (f: ∀T' O',JO x y d e a c=false->SS.Sub ⟨[(5,.ptr 96 Aw 0 0),(7,.ptr 128 j 0 0),(13,.ptr 224 K3 0 0),(62,.sl 1008 g 0 3),(63,au 3),(64,au (i+1))],
    [(96,⟨Aw,2,false,false,some [a.v]⟩),(128,⟨j,2,false,false,some [c.v]⟩),(224,⟨K3,4,false,false,some [.agg [vi d.x,vi d.y,vi e.x,vi e.y]]⟩),(1008,⟨g,4,true,false,some L⟩)]⟩ ⟨T',O'⟩->Q .normal ⟨T',O'⟩):
  mf E VJ ⟨[(5,.ptr 96 Aw 0 0),(7,.ptr 128 j 0 0),(13,.ptr 224 K3 0 0),(62,.sl 1008 g 0 3),(63,au 3),(64,au i)],
    [(96,⟨Aw,2,false,false,some [a.v]⟩),(128,⟨j,2,false,false,some [c.v]⟩),(224,⟨K3,4,false,false,some [.agg [vi d.x,vi d.y,vi e.x,vi e.y]]⟩),(1008,⟨g,4,true,false,some L⟩)]⟩ Q:=by
 have h:=BZ hd he hx hy;have h1:=sY hd he hx hy ha;have h2:=sY hd he hx hy hc;have hm:=SO d e x y;clear ha hc hd he hx hy;unfold JO at b f;generalize fH d e x y=n at*;generalize zm d e x y a=l at*;generalize zm d e x y c=m at*;rcases hm with rfl| rfl| rfl
 .have f:=fun T' O'=>f T' O' rfl;clear b;conv=>whnf
  repeat' (first| intro g| refine wi k ?_| apply ca h| apply ca h1| apply ca h2| refine st ?_| refine br ?_ ?_<;>intro hc| rfl) <;>conv=>whnf
  exact f _ _ su
 .cases l<;>cases m
  . have b:=fun T' O'=>b T' O' rfl
    clear f;conv=>whnf
    repeat' (first| intro g| refine wi k ?_| apply ca h| apply ca h1| apply ca h2| refine st ?_| refine br ?_ ?_<;>intro hc| rfl) <;>conv=>whnf
    exact b _ _ rfl
  all_goals
    have f:=fun T' O'=>f T' O' rfl;clear b;conv=>whnf
    repeat' (first| intro g| refine wi k ?_| apply ca h| apply ca h1| apply ca h2| refine st ?_| refine br ?_ ?_<;>intro hc| rfl) <;>conv=>whnf
    exact f _ _ su
 have b:=fun T' O'=>b T' O' rfl;clear f;conv=>whnf
 repeat' (first| intro g| refine wi k ?_| apply ca h| apply ca h1| apply ca h2| refine st ?_| refine br ?_ ?_<;>intro hc| rfl) <;>conv=>whnf
 exact b _ _ rfl
end
theorem K4 (a b c d e:Pt):alH 553 [a.v,b.v,c.v,d.v,e.v] (.bool (fj a b c d e)):=by
 have hr:alH 181 [.lit 2 [a.v,b.v,c.v,d.v,e.v]] (.bool (oi [a,b,c,d,e])):=BX (l:=[a,b,c,d,e]) (by simp);cases hf:oi [a,b,c,d,e] with
 | false=>
   have f:fj a b c d e=false:=by unfold fj;rw[hf];rfl
   rw[f];rw[hf] at hr;refine amM ?_;conv=>whnf
   repeat' (first| intro g| apply ca hr| refine st ?_| refine br ?_ ?_<;>intro hc| rfl) <;>conv=>whnf
 | true=>
   have j: ∀x ∈ [a,b,c,d,e],qL x:=by simpa [oi] using hf
   have ha:=j a (by simp);have hb:=j b (by simp);have hc:=j c (by simp);have hd:=j d (by simp);have he:=j e (by simp);rw[hf] at hr;have f:fj a b c d e=(yw a b c d || (yw a b c e || (JO a b d e a c || (JO b c d e a c || JO c a d e a c)))):=by unfold fj;rw[hf];rfl
   generalize fj a b c d e=Z at*;refine amM ?_;have SP:Z=true-> ∀T' O',lk T' 10=some (V.bool true)->C4 afc.results [a.v,b.v,c.v,d.v,e.v] (fun res=>res=⟨.bool Z,[]⟩) .ret ⟨T',O'⟩:=by
    intro m T' O' h;show rq [.tmp 10] [a.v,b.v,c.v,d.v,e.v] ⟨T',O'⟩ (fun res=>res=⟨.bool Z,[]⟩);unfold rq;simp only[J9,h];rw[m];conv=>whnf
    repeat' (first| intro g| refine st ?_| refine br ?_ ?_<;>intro hc| rfl) <;>conv=>whnf
   conv=>whnf
   repeat' (first| intro g| apply ca hr| refine st ?_| refine br ?_ ?_<;>intro hc| rfl) <;>conv=>whnf
   rename_i Aw n k K2 o p;clear hr j hf;refine aO.by (fun (i:Nat)=> ⟨[(5,.ptr 96 Aw 0 0),(6,.ptr 112 n 0 0),(7,.ptr 128 k 0 0),(8,.ptr 144 K2 0 0),(9,.ptr 160 o 0 0),(28,.sl 464 g 0 2),(29,au 2),(30,au i)],
    [(96,⟨Aw,2,false,false,some [a.v]⟩),(112,⟨n,2,false,false,some [b.v]⟩),(128,⟨k,2,false,false,some [c.v]⟩),(144,⟨K2,2,false,false,some [d.v]⟩),(160,⟨o,2,false,false,some [e.v]⟩),(464,⟨g,2,true,false,some [d.v,e.v]⟩)]⟩)
    (fun i=>i<=2/\(0 <i->yw a b c d=false)/\(1 <i->yw a b c e=false)) (fun i=>2 - i) 0 su ⟨by simp,by simp,by simp⟩ ?_
   rintro i ⟨hi,i1,i2⟩;rcases(by omega:i=0\/i=1\/i=2) with rfl| rfl| rfl
   .exact tl0 (d:=d) (e:=e) ha hb hc hd rfl (by omega) (fun T' O' hh h=>SP (by rw[f,hh];rfl) T' O' h) fun T' O' hh hs=>aR.mk 1 om ⟨by simp,fun _=>hh,by simp⟩ hs
   .exact tl0 (d:=d) (e:=e) ha hb hc he rfl (by omega) (fun T' O' hh h=>SP (by rw[f,hh];simp) T' O' h) fun T' O' hh hs=>aR.mk 2 om ⟨by simp,fun _=>i1 (by omega),fun _=>hh⟩ hs
   have i1:=i1 (by omega);have i2:=i2 (by omega);rw[i1,i2,Bool.false_or,Bool.false_or] at f;clear hi i1 i2;conv=>whnf
   repeat' (first| intro g| refine st ?_| refine br ?_ ?_<;>intro hc| rfl) <;>conv=>whnf
   rename_i q K3;refine aO.by (fun (i:Nat)=> ⟨[(5,.ptr 96 Aw 0 0),(7,.ptr 128 k 0 0),(13,.ptr 224 K3 0 0),(62,.sl 1008 g 0 3),(63,au 3),(64,au i)],
    [(96,⟨Aw,2,false,false,some [a.v]⟩),(128,⟨k,2,false,false,some [c.v]⟩),(224,⟨K3,4,false,false,some [.agg [vi d.x,vi d.y,vi e.x,vi e.y]]⟩),(1008,⟨g,4,true,false,some [.agg [vi a.x,vi a.y,vi b.x,vi b.y],.agg [vi b.x,vi b.y,vi c.x,vi c.y],.agg [vi c.x,vi c.y,vi a.x,vi a.y]]⟩)]⟩)
    (fun i=>i<=3/\(0 <i->JO a b d e a c=false)/\(1 <i->JO b c d e a c=false)/\(2 <i->JO c a d e a c=false)) (fun i=>3 - i) 0 su ⟨by simp,by simp,by simp,by simp⟩ ?_
   rintro i ⟨hi,i1,i2,i3⟩;rcases(by omega:i=0\/i=1\/i=2\/i=3) with rfl| rfl| rfl| rfl
   .exact tl1 (x:=a) (y:=b) ha hc hd he ha hb rfl (by omega) (fun T' O' hh h=>SP (by rw[f,hh];rfl) T' O' h) fun T' O' hh hs=>aR.mk 1 om ⟨by simp,fun _=>hh,by simp,by simp⟩ hs
   .exact tl1 (x:=b) (y:=c) ha hc hd he hb hc rfl (by omega) (fun T' O' hh h=>SP (by rw[f,hh];simp) T' O' h) fun T' O' hh hs=>aR.mk 2 om ⟨by simp,fun _=>i1 (by omega),fun _=>hh,by simp⟩ hs
   .exact tl1 (x:=c) (y:=a) ha hc hd he hc ha rfl (by omega) (fun T' O' hh h=>SP (by rw[f,hh];simp) T' O' h) fun T' O' hh hs=>aR.mk 3 om ⟨by simp,fun _=>i1 (by omega),fun _=>i2 (by omega),fun _=>hh⟩ hs
   have m:Z=false:=by rw[f,i1 (by omega),i2 (by omega),i3 (by omega)];rfl
   rw[m];conv=>whnf
   repeat' (first| intro g| refine st ?_| refine br ?_ ?_<;>intro hc| rfl) <;>conv=>whnf
theorem K9 {l:List Pt} (hl:l.length< 1000000): ∃b:Bool,alH 183 [.lit 2 (l.map Pt.v)] (.bool b):=by
 by_cases h3:3 <l.length
 .obtain⟨x,hx⟩: ∃x,l[0]? =some x:=⟨_,aM (by omega)⟩;obtain⟨y,hy⟩: ∃y,l[l.length - 1]? =some y:=⟨_,aM (by omega)⟩;have hw:IntKind.i64.wrap (((l.map Pt.v).length:Int) - 1)=((l.length - 1:Nat):Int):=by rw[List.length_map];exact wt
  refine dJ (g:=V.bool) (amN ?_);conv=>whnf
  repeat' (first| intro g| refine wi (aw hx rfl) ?_| refine wi (aw hy hw) ?_| refine st ?_| refine br ?_ ?_<;>intro hc| rfl) <;>conv=>whnf
  exact⟨_,rfl⟩
 refine dJ (g:=V.bool) (amN ?_);conv=>whnf
 repeat' (first| intro g| refine st ?_| refine br ?_ ?_<;>intro hc| rfl) <;>conv=>whnf
 exact⟨_,rfl⟩
theorem lr: ∀ (ps:List Pt) (i k:Nat),(fN i (ps.map Pt.v))[k]? =match ps[k]?,ps[k+1]? with
   | some p,some q=>some [.int .i64 ((i+k:Nat):Int),.agg [vi p.x,vi p.y,vi q.x,vi q.y]]
   | _,_=>none
 | [],i,k=>by simp[fN]
 | [p],i,k=>by cases k<;>simp[fN]
 | p::q::r,i,0=>by simp[fN,Pt.v,V.cells]
 | p::q::r,i,k+1=>by
   have a:=lr (q::r) (i+1) k;simp only[List.map_cons,fN,List.getElem?_cons_succ] at a ⊢;rw[a];have:i+1+k=i+(k+1):=by omega
   rw[this]
theorem pD: ∀ (ps:List V) (i:Nat),∀x ∈ fN i ps,x.length=2
 | [],i,x,h=>by simp[fN] at h
 | [p],i,x,h=>by simp[fN] at h
 | p::q::r,i,x,h=>by
   rw[fN] at h;rcases List.mem_cons.1 h with rfl| h
   .rfl
   exact pD (q::r) (i+1) x h
theorem nZ (l:List Pt):alH 182 [iW l] (.fn 221 [.eptr (iW l) 0]):=by
 refine amM ?_;conv=>whnf
 repeat' (first| intro g| refine st ?_| refine br ?_ ?_<;>intro hc| rfl) <;>conv=>whnf
theorem Ix {l:List Pt} (hl:l.length< 1000000):E.iter 221 [(iW l).eptr 0]=some (fN 0 (l.map Pt.v)):=by show (if (l.map Pt.v).length< 4611686018427387904 then some (fN 0 (l.map Pt.v)) else none)=_;rw[if_pos (by simp;omega)]
theorem Tb {l:List Pt} {k:Nat} {x:List V} (hx: (fN 0 (l.map Pt.v))[k]? =some x): ∃p q:Pt,p ∈ l/\q ∈ l/\k+1 <l.length/\x=[.int .i64 ((0+k:Nat):Int),.agg [vi p.x,vi p.y,vi q.x,vi q.y]]:=by
 rw[lr] at hx;cases hp:l[k]? with
 | none=>rw[hp] at hx;cases hx
 | some p=>
   cases a:l[k+1]? with
   | none=>rw[hp,a] at hx;cases hx
   | some q=>
     rw[hp,a] at hx;injection hx with hx;exact⟨p,q,List.mem_of_getElem? hp,List.mem_of_getElem? a,(List.getElem?_eq_some_iff.1 a).1,hx.symm⟩
theorem Et (l:List Pt) (hl:l.length< 1000000): ∃r:Int,alH 144 [iW l] (vi r):=by
 have hr:alH 181 [iW l] (.bool (oi l)):=BX (by omega);have Oz:=nZ l;obtain⟨C,m⟩:=K9 hl;refine dJ (g:=vi) (amN ?_);by_cases hlen:l.length< 2\/40 <l.length
 . conv=>whnf
   repeat' (first| intro g| apply ca hr| apply ca Oz| refine st ?_| refine br ?_ ?_<;>intro hc| rfl) <;>conv=>whnf
   all_goals first| exact⟨_,rfl⟩ | (exfalso;simp only[List.length_map] at*;omega)
 have o:2<=l.length/\l.length<=40:=by omega
 clear hlen;cases hf:oi l with
 | false=>
   rw[hf] at hr;conv=>whnf
   repeat' (first| intro g| apply ca hr| apply ca Oz| refine st ?_| refine br ?_ ?_<;>intro hc| rfl) <;>conv=>whnf
   exact⟨_,rfl⟩
 | true=>
 rw[hf] at hr;have a: ∀p ∈ l,qL p:=by simpa [oi] using hf
 clear hf;conv=>whnf
 repeat' (first| intro g| apply ca hr| apply ca Oz| refine st ?_| refine br ?_ ?_<;>intro hc| rfl) <;>conv=>whnf
 rename_i Qa G4;have d:IntKind.i64.wrap (((l.map Pt.v).length:Int) - 2)=((l.length - 2:Nat):Int):=by rw[List.length_map];exact wt
 rw[d];clear d;refine rk.by (fN 0 (l.map Pt.v)) rfl (Ix hl) (fun x hx=>pD _ _ x hx) (fun (_:Unit)=> [(32,⟨Qa,1,false,false,some [iW l]⟩),(64,⟨G4,1,false,false,some [vi 0]⟩),(80,⟨g,1,false,false,some [au (l.length - 2)]⟩)]) (fun _ _=>True) () (by(repeat' (first| exact True.intro| refine ai ?_| refine And.intro ?_ ?_))) trivial ?_ ?_
 . rintro k x u hx -
   obtain⟨p,q,hp,f,QH,rfl⟩:=Tb hx;have b:=a p hp;have c:=a q f;have hw:IntKind.i64.wrap (((0+k:Nat):Int)+1)=((k+1:Nat):Int):=wt;have Yc:alH 182 [V.lit 2 (aN (l.map Pt.v) 0 ((IntKind.i64.wrap (((0+k:Nat):Int)+1)).toNat - 0))] (.fn 221 [.eptr (iW (l.take (k+1))) 0]):=by
    rw[hw];have e:aN (l.map Pt.v) 0 (((k+1:Nat):Int).toNat - 0)=(l.take (k+1)).map Pt.v:=by simp[aN,List.map_take]
    rw[e];exact nZ _
   have U4: (l.take (k+1)).length< 1000000:=by simp;omega
   clear Oz hr hx;conv=>whnf
   repeat' (first| intro g| apply ca Yc| refine st ?_| refine br ?_ ?_<;>intro hc| rfl) <;>conv=>whnf
   .exact⟨_,rfl⟩
   rename_i Tc Aw;refine rk.by (fN 0 ((l.take (k+1)).map Pt.v)) rfl (Ix U4) (fun x hx=>pD _ _ x hx) (fun (_:Unit)=> [(32,⟨Qa,1,false,false,some [iW l]⟩),(64,⟨G4,1,false,false,some [vi 0]⟩),(80,⟨Tc,1,false,false,some [au (l.length - 2)]⟩),
    (96,⟨Aw,1,false,false,some [vi ((0+k:Nat):Int)]⟩),(112,⟨g,4,false,false,some [.agg [vi p.x,vi p.y,vi q.x,vi q.y]]⟩)]) (fun _ _=>True) () (by(repeat' (first| exact True.intro| refine ai ?_| refine And.intro ?_ ?_))) trivial ?_ ?_
   .rintro h x2 s U9 -;obtain⟨i,j,FA,OS,JR,rfl⟩:=Tb U9;rw[List.length_take] at JR;have hm:=BZ b c (a i (List.mem_of_mem_take FA)) (a j (List.mem_of_mem_take OS));have HA:IntKind.i64.wrap (((0+h:Nat):Int)+1)=((h+1:Nat):Int):=wt;clear Yc U4 hw b c a U9 hp f FA OS;generalize fH p q i j=n at*;dsimp only[DL,SS.put];conv=>whnf
    repeat' (first| intro g| apply ca m| apply ca hm| refine st ?_| refine br ?_ ?_<;>intro hc| rfl) <;>conv=>whnf
    all_goals first| exact⟨_,rfl⟩ | exact NL.mk () trivial (by(repeat' (first| exact True.intro| refine ai ?_| refine And.intro ?_ ?_)))
   rintro _ -;conv=>whnf
   repeat' (first| intro g| refine st ?_| refine br ?_ ?_<;>intro hc| rfl) <;>conv=>whnf
   exact NL.mk () trivial (by(repeat' (first| exact True.intro| refine ai ?_| refine And.intro ?_ ?_)))
 rintro _ -;conv=>whnf
 repeat' (first| intro g| refine st ?_| refine br ?_ ?_<;>intro hc| rfl) <;>conv=>whnf
 exact⟨_,rfl⟩
open Classical in
noncomputable def Ge (l:List Pt):Int:=if h:l.length< 1000000 then(Et l h).choose else 0
theorem Td (l:List Pt) (hl:l.length< 1000000):alH 144 [iW l] (vi (Ge l)):=by unfold Ge;rw[dif_pos hl];exact(Et l hl).choose_spec
def IsSqrt (n s:Int):Prop:=0<=s/\s*s<=n/\n< (s+1)*(s+1)
theorem jS {a b:Int} (h0:0<=a) (h:a<=b):a*a<=b*b:=Int.mul_le_mul h h h0 (by omega)
theorem IsSqrt.uniq {n s t:Int} (h:IsSqrt n s) (k:IsSqrt n t):s=t:=by
 obtain⟨h1,h2,h3⟩:=h;obtain⟨c,d,e⟩:=k;rcases Int.lt_trichotomy s t with hl| hl| hl
 .have:=jS (a:=s+1) (b:=t) (by omega) (by omega);omega
 .exact hl
 have:=jS (a:=t+1) (b:=s) (by omega) (by omega);omega
open Classical in
noncomputable def mX (n:Int):Int:=if h: ∃s,IsSqrt n s then h.choose else 0
theorem mY {n s:Int} (h:IsSqrt n s):mX n=s:=by have a: ∃s,IsSqrt n s:=⟨s,h⟩;unfold mX;rw[dif_pos a];exact a.choose_spec.uniq h
theorem xX {n:Int} (h:n<=0):mX n=0:=by
 by_cases a:n=0
 .subst a;exact mY ⟨by omega,by omega,by omega⟩
 unfold mX;rw[dif_neg];rintro⟨s,h1,h2,h3⟩;have:=Int.mul_nonneg h1 h1;omega
theorem rC {b r:Nat} (h:FloatKind.f64.format.sqrt b=some r):alH 41 [.float b] (.float r):=by have QW:alH 52 [.float b] (.float r):=Ev.ext (by rw[adj];simp[DE,h]);refine amM ?_;exact dr
theorem Aj {n:Int} (h1:n<=9223372036854775807):alH 27 [vi n] (vi (mX n)):=by
 by_cases h0:0 <n
 case neg=>
  rw[xX (by omega)];refine amM ?_;conv=>whnf
  repeat' (first| intro g| refine st ?_| refine br ?_ ?_<;>intro hc| rfl) <;>conv=>whnf
  all_goals trivial
 obtain⟨r,m,hr,hm,Mx,i⟩:=Ht h0 h1;have j:IntKind.i64.min<=m:=by simp[IntKind.min,IntKind.signed,IntKind.bits];omega
 have k:m<=IntKind.i64.max:=by simp[IntKind.max,IntKind.signed,IntKind.bits];omega
 refine amM ?_;conv=>whnf
 repeat' (first| intro g| refine wi ((⟨hm,j,k⟩:_/\_/\_)) ?_| apply ca (rC hr) | refine st ?_| refine br ?_ ?_<;>intro hc| rfl) <;>conv=>whnf
 generalize f: (if 3037000499 <m then(3037000499:Int) else m)=s0;have Bj:0<=s0/\s0<=3037000499:=by split at f<;>omega
 refine aO.by (fun s:Int=> ⟨[(0,vi n),(3,vi s)],[]⟩) (fun s=>0<=s/\s<=3037000499) (fun s=>s.toNat) s0 ?_ Bj ?_
 .exact su
 rintro s ⟨c,e⟩;have QW:=jS c e;have QX:0<=s*s:=Int.mul_nonneg c c;have hw:IntKind.i64.wrap (s*s)=s*s:=bo (by omega) (by omega);conv=>whnf
 repeat' (first| intro g| refine st ?_| refine br ?_ ?_<;>intro hc| rfl) <;>conv=>whnf
 .rw[hw] at hc;have:0 <s:=by
   rcases Int.lt_or_le 0 s with h| h
   .exact h
   have:s=0:=by omega
   subst this;omega
  refine aR.mk (s - 1) om ?_ su;exact⟨by omega,by omega⟩
 rw[hw] at hc;refine aO.by (fun s:Int=> ⟨[(0,vi n),(3,vi s)],[]⟩) (fun s=>0<=s/\s<=3037000499/\s*s<=n) (fun s=> (3037000499 - s).toNat) s ?_ ⟨c,e,by omega⟩ ?_
 .exact su
 clear hw QW QX hc c e s;rintro s ⟨c,e,d⟩;by_cases l:s< 3037000499
 .have QW:=jS (a:=s+1) (b:=3037000499) (by omega) (by omega);have QX:0<=(s+1)*(s+1):=Int.mul_nonneg (by omega) (by omega);have Fu:IntKind.i64.wrap (s+1)=s+1:=bo (by omega) (by omega);have hw:IntKind.i64.wrap ((s+1)*(s+1))=(s+1)*(s+1):=bo (by omega) (by omega);conv=>whnf
  repeat' (first| intro g| refine st ?_| refine br ?_ ?_<;>intro hc| rfl) <;>conv=>whnf
  .rw[Fu,hw] at hc;refine aR.mk (s+1) om ?_ su;exact⟨by omega,by omega,hc⟩
  rw[Fu,hw] at hc;rw[mY ⟨c,d,by omega⟩]
 conv=>whnf
 repeat' (first| intro g| refine st ?_| refine br ?_ ?_<;>intro hc| rfl) <;>conv=>whnf
 have:=jS (a:=3037000500) (b:=s+1) (by omega) (by omega);rw[mY ⟨c,d,by omega⟩]
theorem sZ (l:List aH) (h:l.length< 1000000):alH 28 [.lit 4 (l.map aH.v)] (.own 4 (l.map aH.v)):=
 Ev.ext (by rw[ade];simp[dX];omega)
theorem pw (l:List aP) (h:l.length< 1000000):alH 29 [.lit 5 (l.map aP.v)] (.own 5 (l.map aP.v)):=
 Ev.ext (by rw[adf];simp[dX];omega)
theorem pz (l:List bH) (h:l.length< 1000000):alH 30 [.lit 8 (l.map bH.v)] (.own 8 (l.map bH.v)):=
 Ev.ext (by rw[adg];simp[dX];omega)
theorem mD (l:List aI) (h:l.length< 1000000):alH 31 [.lit 7 (l.map aI.v)] (.own 7 (l.map aI.v)):=
 Ev.ext (by rw[adh];simp[dX];omega)
theorem dZ (l:List Pt) (h:l.length< 1000000):alH 32 [iW l] (.own 2 (l.map Pt.v)):=
 Ev.ext (by rw[adb];simp[dX,iW];omega)
theorem OZ (e:aH) (id:Int):alH 557 [e.v,.eptr (vi id) 0] (.bool (decide (e.id=id))):=by refine amM ?_;exact dr
def zh (es:List aH) (id:Int):Int:=firstIdx (fun e=>decide (e.id=id)) es
theorem pB {m:aB} (h:m.Fit) (id:Int):alH 543 [m.v,vi id] (vi (zh m.aA id)):=by
 have he:=h.e;have hi:=SJ (l:=m.aA) (caps:=[.eptr (vi id) 0]) rfl (by omega) (fun x=>OZ x id) rfl;refine amM ?_;conv=>whnf
 repeat' (first| intro g| apply ca hi| refine st ?_| refine br ?_ ?_<;>intro hc| rfl) <;>conv=>whnf
 all_goals rfl
structure s9 (m:aB) where
 k:Nat
 n:Nat
 e:aH
 a:Pt
 b:Pt
 c:Pt
 he:m.aA[k]? =some e
 hf:zh m.aA e.id=(k:Int)
 hn:1<=n
 ha:e.line[n - 1]? =some a
 hb:e.line[n]? =some b
 hc:e.line[n+1]? =some c
 uU:m.aA.length< 1000000
 hl:e.line.length< 1000000
def s9.v {m:aB} (q:s9 m):V:= .agg [au q.k,au q.n,vi q.a.x,vi q.a.y,vi q.b.x,vi q.b.y,vi q.c.x,vi q.c.y]
theorem Ih {m:aB} (h:m.Fit) (q:s9 m):alH 534 [m.v,vi q.e.id,au q.n] (.tuple [q.v,vi 0]):=by
 have hf:=pB h q.e.id;obtain⟨k,n,e,a,b,c,he,Vv,hn,ha,hb,hc,uU,hl⟩:=q;dsimp only at hf ⊢;rw[Vv] at hf;have i:=(List.getElem?_eq_some_iff.1 he).1;have j:=(List.getElem?_eq_some_iff.1 hc).1;have d:IntKind.i64.wrap ((n:Int) - 1)=((n - 1:Nat):Int):=wt;have f:IntKind.i64.wrap ((n:Int)+1)=((n+1:Nat):Int):=wt;have w3:IntKind.i64.wrap (((e.line.map Pt.v).length:Int) - 2)=(e.line.length:Int) - 2:=by rw[List.length_map];exact bo (by omega) (by omega)
 refine amM ?_;conv=>whnf
 repeat' (first| ((exfalso;omega)) | intro g| refine wi (aw he rfl) ?_| refine wi (aw ha d) ?_| refine wi (aw hb rfl) ?_| refine wi (aw hc f) ?_| apply ca hf| refine st ?_| refine br ?_ ?_<;>intro hc| rfl) <;>conv=>whnf
theorem Te (x:Int): -9223372036854775808<=kb x/\kb x<=9223372036854775807:=by unfold kb IntKind.wrap;simp only[IntKind.bits,IntKind.signed];simp;omega
theorem O3 (f:aP) (id:Int):alH 551 [f.v,.eptr (vi id) 0] (.bool (decide (f.id=id))):=by refine amM ?_;exact dr
def fz0:aP:=⟨0,[],[],0,0⟩
def ni (m:aB) (id:Int):Int:=firstIdx (fun f:aP=>decide (f.id=id)) m.ak
def fU (m:aB) (id:Int):Int:=if ni m id< 0 then 0 else(m.ak.getD (ni m id).toNat fz0).aC
theorem BO {m:aB} {id:Int} (h:ni m id= -1):fU m id=0:=by unfold fU;rw[h];rfl
theorem BN {m:aB} {id:Int} {i:Nat} {x:aP} (h:ni m id=i) (hx:m.ak[i]? =some x):fU m id=x.aC:=by unfold fU;rw[h,if_neg (by omega),Int.toNat_natCast];simp[List.getD_eq_getElem?_getD,hx]
theorem Eu {m:aB} (h:m.Fit) (id:Int):alH 550 [vi id,.eptr m.v 0] (vi (fU m id)):=by
 have hf:=h.f;have hi:Ev E 179 _ ⟨vi (ni m id),[]⟩:=SK (l:=m.ak) (caps:=[.eptr (vi id) 0]) rfl (by omega) (fun x=>O3 x id) rfl;rcases cr (fun f:aP=>decide (f.id=id)) m.ak with⟨h1,_⟩ | ⟨i,x,h1,h2,h3⟩
 .have h1:ni m id= -1:=h1;rw[BO h1];rw[h1] at hi;refine amM ?_;conv=>whnf
  repeat' (first| intro g| apply ca hi| refine st ?_| refine br ?_ ?_<;>intro hc| rfl) <;>conv=>whnf
 have h1:ni m id=i:=h1;rw[BN h1 h2];rw[h1] at hi;have:=(List.getElem?_eq_some_iff.1 h2).1;refine amM ?_;conv=>whnf
 repeat' (first| ((exfalso;omega)) | intro g| refine wi (aw h2 rfl) ?_| apply ca hi| refine st ?_| refine br ?_ ?_<;>intro hc| rfl) <;>conv=>whnf
def bZ (m:aB) (e:aH):Int:=if fU m e.left=fU m e.right then fU m e.left else 0
theorem HS {m:aB} (h:m.Fit) (e:aH):alH 540 [m.v,e.v] (vi (bZ m e)):=by
 have h1:=Eu h e.left;have h2:=Eu h e.right;unfold bZ;by_cases hd:fU m e.left=fU m e.right
 .rw[if_pos hd];refine amM ?_;conv=>whnf
  repeat' (first| intro g| apply ca h1| apply ca h2| refine st ?_| refine br ?_ ?_<;>intro hc| rfl) <;>conv=>whnf
 rw[if_neg hd];refine amM ?_;conv=>whnf
 repeat' (first| intro g| apply ca h1| apply ca h2| refine st ?_| refine br ?_ ?_<;>intro hc| rfl) <;>conv=>whnf
def Tf (a b:Pt):Int:=kb (kb (a.x*b.y) - kb (a.y*b.x))
theorem Th (a b:Pt):alH 219 [a.v,b.v] (vi (Tf a b)):=by refine amM ?_;exact dr
def WL (a b:Pt):Pt:=⟨kb (a.x - b.x),kb (a.y - b.y)⟩
def s9.ZE {m:aB} (q:s9 m):Int:=Tf (WL q.b q.a) (WL q.c q.a)
def WM (x:Int):Int:=if x<kb (0 - x) then kb (0 - x) else x
theorem WN {x:Int} (h:x<=9223372036854775807):WM x<=9223372036854775807:=by
 unfold WM;split
 .exact(Te _).2
 exact h
noncomputable def s9.cost {m:aB} (q:s9 m):Int:=mX (WM q.ZE)
theorem mj {m:aB} (h:m.Fit) (q:s9 m):alH 527 [m.v,vi q.e.id,au q.n] (vi q.cost):=by
 have d:=Ih h q;have hs:=Aj (n:=WM q.ZE) (WN (Te _).2);refine amM ?_;conv=>whnf
 repeat' (first| intro g| apply ca d| apply ca (xY q.b q.a) | apply ca (xY q.c q.a) | apply ca (Th (WL q.b q.a) (WL q.c q.a)) | apply ca hs| refine st ?_| refine br ?_ ?_<;>intro hc| rfl) <;>conv=>whnf
theorem Iy {l:List Pt} {i:Nat} (hi:i<l.length) (h:l.length< 1000000):Ev E 547 [.msl 2 (l.map Pt.v) 0 l.length,au i,vi (IntKind.i64.wrap ((i:Int)+1))] ⟨.sl 0 0 0 (l.length - 1),[(0,(l.eraseIdx i).map Pt.v++[(Pt.mk 0 0).v])]⟩:=by
 have hw:IntKind.i64.wrap ((i:Int)+1)=((i+1:Nat):Int):=wt;rw[hw];refine amM ?_;have a:aN (l.map Pt.v) (0+((i+1:Nat):Int).toNat) (l.length - ((i+1:Nat):Int).toNat)=(l.drop (i+1)).map Pt.v:=by
  rw[iq];congr 1
  rw[List.take_of_length_le (by simp)];simp
 conv=>whnf
 repeat' (first| intro g| refine nd (by first| ((and_intros<;>first| rfl| exact bD (bD (Pt.aV _) (Pt.aV _)) (bY rfl) | exact iw (bD (bD (Pt.aV _) (Pt.aV _)) (bY rfl)) | (simp only[overwrite,aN,List.length_map,List.length_append,List.length_cons,List.length_nil,List.length_take,List.length_drop];omega) | omega)) | fail) ?_| refine wi a ?_| refine st ?_| refine br ?_ ?_<;>intro hc| rfl) <;>conv=>whnf
 obtain⟨A,x,B,rfl,hA⟩: ∃A x B,l=A++x::B/\A.length=i:=⟨l.take i,l[i],l.drop (i+1),by simp,by simp;omega⟩;have b: (A++x::B).drop (i+1)=B:=by rw[<-hA];simp[List.drop_append]
 have c: (A++x::B).eraseIdx i=A++B:=by rw[<-hA];simp[List.eraseIdx_append_of_length_le]
 have d: ((i:Int).toNat - 0+((B).map Pt.v).length)=A.length+B.length:=by simp;omega
 rw[b,c,d];have e: ((A.length+B.length:Nat):Int).toNat=A.length+B.length:=by omega
 have f: (((A++x::B).length:Nat):Int).toNat - (A.length+B.length)=1:=by simp;omega
 have j: (A++x::B).length - 1=A.length+B.length:=by simp
 rw[e,f,j];subst hA;show (⟨V.sl 0 0 0 _,[(0,_)]⟩:fu)=_;congr 3
 simp[overwrite,List.take_append,List.drop_append];rw[List.take_of_length_le (by simp),List.drop_eq_nil_of_le (by simp;omega),List.drop_eq_nil_of_le (by simp;omega),List.drop_eq_nil_of_le (by simp;omega),List.drop_eq_nil_of_le (by simp;omega)];rfl
def s9.rest {m:aB} (q:s9 m):List Pt:=q.e.line.eraseIdx q.n
theorem MW {m:aB} (q:s9 m):alH 535 [q.v,m.v] (.own 2 (q.rest.map Pt.v)):=by
 have c:=dZ q.e.line q.hl;have hb:=(List.getElem?_eq_some_iff.1 q.hb).1;have FB:=Iy (i:=q.n) hb q.hl;have a:q.e.line.length - 1=q.rest.length:=by simp[s9.rest,List.length_eraseIdx,hb]
 have b:Ev E 547 [.msl 2 (q.e.line.map Pt.v) 0 (q.e.line.map Pt.v).length,au q.n,vi (IntKind.i64.wrap ((q.n:Int)+1))] ⟨.sl 0 0 0 (q.e.line.length - 1),[(0,q.rest.map Pt.v++[(Pt.mk 0 0).v])]⟩:=by rw[List.length_map];exact FB
 refine amM ?_;have he:=q.he;conv=>whnf
 repeat' (first| intro g| refine wi (aw he rfl) ?_| refine wi (sW a) ?_| apply ca c| apply ca b| refine st ?_| refine br ?_ ?_<;>intro hc| rfl) <;>conv=>whnf
def pJ (skip:Bool) (n:Int):Nat->List Pt->List (Pt×Pt)
 | i,p::q::r=> (if skip && (decide ((i:Int)=n - 1) || decide ((i:Int)=n)) then [] else [(p,q)])++pJ skip n (i+1) (q::r)
 | _,_=> []
def prV (x:Pt×Pt):List V:=[x.1.v,x.2.v]
theorem MX (skip:Bool) (n:Int): ∀ (ps:List Pt) (i:Nat),AP skip n i (ps.map Pt.v)=(pJ skip n i ps).map prV
 | [],i=>by simp[AP,pJ]
 | [p],i=>by simp[AP,pJ]
 | p::q::r,i=>by
   have a:=MX skip n (q::r) (i+1);simp only[List.map_cons] at a;simp only[List.map_cons,AP,pJ,List.map_append];rw[a];congr 1
   split<;>rfl
def wS (e n:Int):Nat->List aH->List (Pt×Pt)
 | _,[]=> []
 | k,a::es=>pJ (decide ((k:Int)=e)) n 0 a.line++wS e n (k+1) es
theorem MY (e n:Int): ∀ (es:List aH) (k:Nat),(∀x ∈ es,x.line.length< 1000000)->Hg e n k (es.map aH.v)=some ((wS e n k es).map prV)
 | [],k,_=>rfl
 | a::es,k,h=>by
   have b:=MY e n es (k+1) fun x hx=>h x (by simp[hx]);have ha:=h a (by simp);have hc: (a.line.map Pt.v).length< 4611686018427387904/\(a.line.map Pt.v).all Vq=true:=by refine⟨by simp;omega,?_⟩;rw[List.all_eq_true];intro v hv;obtain⟨p,_,rfl⟩:=List.mem_map.1 hv;rfl
   show (if (a.line.map Pt.v).length< 4611686018427387904/\(a.line.map Pt.v).all Vq=true then(Hg e n (k+1) (es.map aH.v)).map (AP (decide ((k:Int)=e)) n 0 (a.line.map Pt.v)++ ·) else none)=_;rw[if_pos hc,b,MX,wS,List.map_append];rfl
def BT (m:aB) (k n:Nat) (a b c:Pt):Bool:= !((wS k n 0 m.aA).any fun x=>fj a b c x.1 x.2) && !(m.ar.any fun p=>inZ a b c ⟨p.x,p.y⟩)
theorem O4 {m:aB} (q:s9 m):alH 552 [q.v,m.v] (.fn 564 [.eptr m.v 0,.eptr q.v 0]):=by
 refine amM ?_;conv=>whnf
 repeat' (first| intro g| refine st ?_| refine br ?_ ?_<;>intro hc| rfl) <;>conv=>whnf
theorem Ti {m:aB} (h:m.Fit) (q:s9 m):E.iter 564 [.eptr m.v 0,.eptr q.v 0]=some ((wS q.k q.n 0 m.aA).map prV):=by have h1:=MY (q.k:Int) (q.n:Int) m.aA 0 h.el;have hb:=(List.getElem?_eq_some_iff.1 q.hb).1;have:=q.hl;have:=h.e;show (if (m.aA.map aH.v).length< 4611686018427387904/\(0:Int)<=(q.n:Int)/\(q.n:Int) < 4611686018427387904 then Hg (q.k:Int) (q.n:Int) 0 (m.aA.map aH.v) else none)=_;rw[if_pos ⟨by simp;omega,by omega,by omega⟩,h1]
theorem Tj {m:aB} (q:s9 m) (p:aI):alH 555 [p.v,.eptr q.v 0] (.bool (inZ q.a q.b q.c ⟨p.x,p.y⟩)):=by
 refine amM ?_;conv=>whnf
 repeat' (first| intro g| refine ca (Z2 q.a q.b q.c ⟨p.x,p.y⟩) ?_| refine st ?_| refine br ?_ ?_<;>intro hc| rfl) <;>conv=>whnf
theorem Tk {m:aB} (h:m.Fit) (q:s9 m):alH 541 [q.v,m.v] (.bool (BT m q.k q.n q.a q.b q.c)):=by
 have hp:=h.p;have hc:alH 554 [.lit 7 (m.ar.map aI.v),.fn 555 [.eptr q.v 0]] (.bool (m.ar.any fun p=>inZ q.a q.b q.c ⟨p.x,p.y⟩)):=by have:=OU (l:=m.ar) (caps:=[.eptr q.v 0]) rfl (by omega) (Tj q) rfl;rwa [ti] at this
 have hx:=Ti h q;unfold BT;generalize (m.ar.any fun p=>inZ q.a q.b q.c ⟨p.x,p.y⟩)=t at*;generalize wS q.k q.n 0 m.aA=f at*;have ht: ∀d e,alH 553 [q.a.v,q.b.v,q.c.v,d.v,e.v] (.bool (fj q.a q.b q.c d e)):=fun d e=>K4 _ _ _ d e;obtain⟨Z,r⟩: ∃Z,Z=(!(f.any fun x=>fj q.a q.b q.c x.1 x.2) && !t):=⟨_,rfl⟩;have w: ∀ (j:Nat) x,f[j]? =some x->fj q.a q.b q.c x.1 x.2=true->Z=false:=fun j x i ht=>by rw[r,List.any_eq_true.2 ⟨x,List.mem_of_getElem? i,ht⟩];rfl
 have z: (∀ (j:Nat) x,f[j]? =some x->fj q.a q.b q.c x.1 x.2=false)->Z= !t:=fun hn=>by rw[r,List.any_eq_false.2 fun x hx=>by obtain⟨j,i,rfl⟩:=List.getElem_of_mem hx;rw[hn j _ (aM i)];simp];rfl
 rw[<-r];clear r;refine amM ?_;conv=>whnf
 repeat' (first| intro g| apply ca (O4 q) | refine st ?_| refine br ?_ ?_<;>intro hc| rfl) <;>conv=>whnf
 rename_i D5 G4;refine rk.by (f.map prV) rfl hx (fun x hx=>by obtain⟨p,_,rfl⟩:=List.mem_map.1 hx;rfl) (fun (_:Unit)=> [(48,⟨D5,8,false,false,some [q.v]⟩),(64,⟨G4,4,false,false,some [m.v]⟩),(96,⟨g,1,false,false,some [.bool true]⟩)]) (fun k a=> ∀ (j:Nat) x,j<k->f[j]? =some x->fj q.a q.b q.c x.1 x.2=false) () (by(repeat' (first| exact True.intro| refine ai ?_| refine And.intro ?_ ?_))) (by intro j x i;omega) ?_ ?_
 .rintro k x u U9 o;rw[List.getElem?_map] at U9;obtain⟨⟨d,e⟩,Qe,rfl⟩:=Option.map_eq_some_iff.1 U9;have h1:=ht d e;have s:=w k _ Qe;have Ew:fj q.a q.b q.c d e=false-> ∀ (j:Nat) x,j<k+1->f[j]? =some x->fj q.a q.b q.c x.1 x.2=false:=fun h j x i hx=>by
    by_cases B:j=k
    .subst B;rw[Qe] at hx;injection hx with hx;subst hx;exact h
    exact o j x (by omega) hx
  clear o U9 w z hx ht;dsimp only at s;cases hb:fj q.a q.b q.c d e with
  | true=>
    have A:=s hb;rw[hb] at h1;clear Ew s;rw[A];unfold prV;conv=>whnf
    repeat' (first| intro g| apply ca h1| apply ca hc| refine st ?_| refine br ?_ ?_<;>intro hc| rfl) <;>conv=>whnf
  | false=>
    have hn:=Ew hb;rw[hb] at h1;clear Ew s;unfold prV;conv=>whnf
    repeat' (first| intro g| apply ca h1| apply ca hc| refine st ?_| refine br ?_ ?_<;>intro hc| rfl) <;>conv=>whnf
    exact NL.mk () hn (by(repeat' (first| exact True.intro| refine ai ?_| refine And.intro ?_ ?_)))
 rintro _ o;have A:=z fun j x i=>o j x (by have:=(List.getElem?_eq_some_iff.1 i).1;simpa using this) i;rw[A];clear o w z ht;cases t;all_goals
   conv=>whnf
   repeat' (first| intro g| apply ca hc| refine st ?_| refine br ?_ ?_<;>intro hc| rfl) <;>conv=>whnf
noncomputable def OK (m:aB) (q:s9 m):Int:=
 if bZ m q.e=0 then 25 else if Ge q.rest=0 then(if BT m q.k q.n q.a q.b q.c=true then 0 else 22) else 11
theorem Tl {m:aB} (q:s9 m):q.rest.length< 1000000:=by have hb:=(List.getElem?_eq_some_iff.1 q.hb).1;have:=q.hl;simp[s9.rest,List.length_eraseIdx,hb];omega
theorem qi {m:aB} (h:m.Fit) (q:s9 m):alH 526 [m.v,vi q.e.id,au q.n] (vi (OK m q)):=by
 have f:=Ih h q;have hd:=HS h q.e;have Tm:=MW q;have BS:=Td q.rest (Tl q);have d:=Tk h q;have he:=q.he;unfold OK;generalize BT m q.k q.n q.a q.b q.c=em at*;generalize bZ m q.e=i at*;generalize q.rest=rs at*;generalize Ge rs=j at*;unfold iW at BS;refine amM ?_;by_cases h1:i=0
 .rw[if_pos h1];conv=>whnf
  repeat' (first| intro g| refine wi (aw he rfl) ?_| apply ca f| apply ca hd| refine st ?_| refine br ?_ ?_<;>intro hc| rfl) <;>conv=>whnf
 rw[if_neg h1];by_cases h2:j=0
 .rw[if_pos h2];cases em
  .conv=>whnf
   repeat' (first| intro g| refine wi (aw he rfl) ?_| apply ca f| apply ca hd| apply ca Tm| apply ca BS| apply ca d| refine st ?_| refine br ?_ ?_<;>intro hc| rfl) <;>conv=>whnf
  conv=>whnf
  repeat' (first| intro g| refine wi (aw he rfl) ?_| apply ca f| apply ca hd| apply ca Tm| apply ca BS| apply ca d| refine st ?_| refine br ?_ ?_<;>intro hc| rfl) <;>conv=>whnf
 rw[if_neg h2];conv=>whnf
 repeat' (first| intro g| refine wi (aw he rfl) ?_| apply ca f| apply ca hd| apply ca Tm| apply ca BS| refine st ?_| refine br ?_ ?_<;>intro hc| rfl) <;>conv=>whnf
def mxI (x:Int):Int:=if 1 <x then x else 1
section
variable (fc gx:Int->Int->Int) (m:aB) (d:Int)
def evN (id:Int):Nat->List an
 | 0=> []
 | j+1=>evN id j++if fc id ((j+1:Nat):Int)=0 then [⟨1,mxI (gx id ((j+1:Nat):Int)),id,0,((j+1:Nat):Int)⟩] else []
def adO (k:Nat) (e:aH):Prop:=zh m.aA e.id=k/\bZ m e=d
noncomputable instance (k:Nat) (e:aH):Decidable (adO m d k e):=inferInstanceAs (Decidable (_/\_))
noncomputable def adP (k:Nat):List an:=match m.aA[k]? with
 | some e=>if adO m d k e then evN fc gx e.id (e.line.length - 2) else []
 | none=> []
noncomputable def WO:Nat->List an
 | 0=> []
 | k+1=>WO k++adP fc gx m d k
theorem MZ (id:Int): ∀j,(evN fc gx id j).length<=j
 | 0=>by simp[evN]
 | j+1=>by have:=MZ id j;simp only[evN,List.length_append];split<;>simp<;>omega
theorem HT (hl: ∀e ∈ m.aA,e.line.length< 10): ∀k,(WO fc gx m d k).length<=7*k
 | 0=>by simp[WO]
 | k+1=>by
   have a:=HT hl k;simp only[WO,adP,List.length_append];cases he:m.aA[k]? with
   | none=>simp;omega
   | some e=>
     dsimp only;have h1:=hl e (List.mem_of_getElem? he);have h2:=MZ fc gx e.id (e.line.length - 2);split
     .omega
     simp;omega
end
section
variable {m:aB} {fc gx:Int->Int->Int}
 (hc: ∀id n,alH 526 [m.v,vi id,vi n] (vi (fc id n))) (hx: ∀id n,alH 527 [m.v,vi id,vi n] (vi (gx id n)))
 (hf: ∀id,alH 543 [m.v,vi id] (vi (zh m.aA id))) (hd: ∀e:aH,alH 540 [m.v,e.v] (vi (bZ m e)))
include hc hx
theorem al9 {e:aH} {d:Int} {k j ne D5 a c:Nat} {A:List an} {Q:aW->SS->Prop} (i:e.line.length< 10) (hA:A.length< 1000)
  (b: ∀T' O' g,SS.Sub ⟨[(1,vi d),(2,.ptr 48 D5 0 0),(5,.sl 97 g 0 (A++evN fc gx e.id (j+1)).length),(7,.ptr 128 c 0 0),(8,au (j+2)),(13,.lit 4 (m.aA.map aH.v)),(14,au ne),(15,au k)],
    [(48,⟨D5,4,false,false,some [m.v]⟩),(97,⟨g,5,true,false,some ((A++evN fc gx e.id (j+1)).map an.v)⟩),(128,⟨c,4,false,false,some [e.v]⟩)]⟩ ⟨T',O'⟩->Q .normal ⟨T',O'⟩) (n:j+2 <e.line.length):
  mf E amn ⟨[(1,vi d),(2,.ptr 48 D5 0 0),(5,.sl 97 a 0 (A++evN fc gx e.id j).length),(7,.ptr 128 c 0 0),(8,au (j+1)),(13,.lit 4 (m.aA.map aH.v)),(14,au ne),(15,au k)],
    [(48,⟨D5,4,false,false,some [m.v]⟩),(97,⟨a,5,true,false,some ((A++evN fc gx e.id j).map an.v)⟩),(128,⟨c,4,false,false,some [e.v]⟩)]⟩ Q:=by
 have h1:=hc e.id ((j+1:Nat):Int);have h2:=hx e.id ((j+1:Nat):Int);have uU:=MZ fc gx e.id j;have f: (A++evN fc gx e.id j).length=A.length+(evN fc gx e.id j).length:=by simp
 have o:IntKind.i64.wrap (((j+1:Nat):Int)+1)=((j+2:Nat):Int):=wt;have h:A++evN fc gx e.id (j+1)=(A++evN fc gx e.id j)++if fc e.id ((j+1:Nat):Int)=0 then [⟨1,mxI (gx e.id ((j+1:Nat):Int)),e.id,0,((j+1:Nat):Int)⟩] else []:=by rw[List.append_assoc];rfl
 have l: (A++evN fc gx e.id j).length< 2000:=by omega
 rw[h] at b;clear h hc hx uU f;generalize A++evN fc gx e.id j=L at*;by_cases h0:fc e.id ((j+1:Nat):Int)=0
 .rw[if_pos h0] at b;rw[h0] at h1;conv=>whnf
  repeat' (first| ((exfalso;omega)) | intro g| apply ca h1| apply ca h2| refine st ?_| refine br ?_ ?_<;>intro hc| rfl) <;>conv=>whnf
  refine b _ _ g ?_;exact su
 rw[if_neg h0,List.append_nil] at b;conv=>whnf
 repeat' (first| ((exfalso;omega)) | contradiction| intro g| apply ca h1| refine st ?_| refine br ?_ ?_<;>intro hc| rfl) <;>conv=>whnf
 refine b _ _ a ?_;exact su
include hf hd
theorem amo (h1:m.aA.length<=25) (hl: ∀e ∈ m.aA,e.line.length< 10) (d:Int) {a:List an} (f:a.Perm (if d< 1 then [] else WO fc gx m d m.aA.length)) (Q7:Ev E 544 [.msl 5 (List.map an.v (if d< 1 then [] else WO fc gx m d m.aA.length)) 0 (List.length (if d< 1 then [] else WO fc gx m d m.aA.length)),.fn 545 []] ⟨.tuple [],[(0,a.map an.v)]⟩):alH 529 [m.v,vi d] (.own 5 (a.map an.v)):=by
 have q:=HT fc gx m d hl;have r: (List.length (if d< 1 then [] else WO fc gx m d m.aA.length))<=7*m.aA.length:=by
  have:=q m.aA.length;split
  .simp
  omega
 have hlen:a.length< 2000:=by rw[f.length_eq];omega
 have c:=f.length_eq;clear f r;refine amM ?_;conv=>whnf
 repeat' (first| intro g| refine st ?_| refine br ?_ ?_<;>intro hc| rfl) <;>conv=>whnf
 rename_i D5 _;refine aO.by (fun ((k,L,g97):Nat×List an×Nat)=> ⟨[(1,vi d),(2,.ptr 48 D5 0 0),(5,.sl 97 g97 0 L.length),(13,.lit 4 (m.aA.map aH.v)),(14,au (m.aA.map aH.v).length),(15,au k)],
   [(48,⟨D5,4,false,false,some [m.v]⟩),(97,⟨g97,5,true,false,some (L.map an.v)⟩)]⟩)
  (fun p=>p.1<=m.aA.length/\p.2.1=if d< 1 then [] else WO fc gx m d p.1) (fun p=>m.aA.length - p.1) (0,[],g) su ⟨by simp,by simp[WO]⟩ ?_
 rintro⟨k,L,g97⟩ ⟨hk,hL⟩;dsimp only at hk hL;by_cases s:k<m.aA.length
 .obtain⟨e,he⟩: ∃e,m.aA[k]? =some e:=⟨_,aM s⟩;have l:=hl e (List.mem_of_getElem? he);have f1:=hf e.id;have f2:=hd e;by_cases TD:d< 1
  .conv=>whnf
   repeat' (first| ((exfalso;omega)) | intro g| refine wi (aw he rfl) ?_| refine st ?_| refine br ?_ ?_<;>intro hc| rfl) <;>conv=>whnf
   exact aR.mk (k+1,L,g97) om ⟨om,by simpa [TD] using hL⟩ su
  rw[if_neg TD] at hL;have b:WO fc gx m d (k+1)=L++(if adO m d k e then evN fc gx e.id (e.line.length - 2) else []):=by simp only[WO,adP,he,hL]
  by_cases s1:zh m.aA e.id=k
  case neg=>
   rw[if_neg (fun h=>s1 h.1),List.append_nil] at b;conv=>whnf
   repeat' (first| ((exfalso;omega)) | contradiction| intro g| refine wi (aw he rfl) ?_| apply ca f1| refine st ?_| refine br ?_ ?_<;>intro hc| rfl) <;>conv=>whnf
   exact aR.mk (k+1,L,g97) om ⟨om,by dsimp only;rw[if_neg TD,b]⟩ su
  by_cases s2:bZ m e=d
  case neg=>
   rw[if_neg (fun h=>s2 h.2),List.append_nil] at b;conv=>whnf
   repeat' (first| ((exfalso;omega)) | contradiction| intro g| refine wi (aw he rfl) ?_| apply ca f1| apply ca f2| refine st ?_| refine br ?_ ?_<;>intro hc| rfl) <;>conv=>whnf
   exact aR.mk (k+1,L,g97) om ⟨om,by dsimp only;rw[if_neg TD,b]⟩ su
  rw[if_pos ⟨s1,s2⟩] at b;have n:L.length< 1000:=by have:=q k;rw[hL];omega
  rw[s1] at f1;rw[s2] at f2;conv=>whnf
  repeat' (first| ((exfalso;omega)) | contradiction| intro g| refine wi (aw he rfl) ?_| apply ca f1| apply ca f2| refine st ?_| refine br ?_ ?_<;>intro hc| rfl) <;>conv=>whnf
  refine aO.by (fun ((j,g97):Nat×Nat)=> ⟨[(1,vi d),(2,.ptr 48 D5 0 0),(5,.sl 97 g97 0 (L++evN fc gx e.id j).length),(7,.ptr 128 g 0 0),(8,au (j+1)),(13,.lit 4 (m.aA.map aH.v)),(14,au (m.aA.map aH.v).length),(15,au k)],
   [(48,⟨D5,4,false,false,some [m.v]⟩),(97,⟨g97,5,true,false,some ((L++evN fc gx e.id j).map an.v)⟩),(128,⟨g,4,false,false,some [e.v]⟩)]⟩)
   (fun p=>p.1<=e.line.length - 2) (fun p=>e.line.length - 2 - p.1) (0,g97) ?_ om ?_
  .simp only[evN,List.append_nil];exact su
  rintro⟨j,g97⟩ hj;dsimp only at hj;by_cases o:j+2 <e.line.length
  .exact al9 hc hx l n (fun T' O' t hs=>aR.mk (j+1,t) om om hs) o
  have z:IntKind.i64.wrap (((j+1:Nat):Int)+1)=((j+2:Nat):Int):=wt;obtain rfl:j=e.line.length - 2:=by omega
  conv=>whnf
  repeat' (first| ((exfalso;omega)) | intro g| refine st ?_| refine br ?_ ?_<;>intro hc| rfl) <;>conv=>whnf
  exact aR.mk (k+1,L++evN fc gx e.id (e.line.length - 2),g97) om ⟨om,by dsimp only;rw[if_neg TD,b]⟩ su
 obtain rfl:k=m.aA.length:=by omega
 subst hL;conv=>whnf
 repeat' (first| intro g| apply ca Q7| refine st ?_| refine br ?_ ?_<;>intro hc| rfl) <;>conv=>whnf
 refine aO.by (fun ((i,amD):Nat×Nat)=> ⟨[(9,.sl 161 amD 0 (a.take i).length),(67,.sl 97 g97 0 a.length),(68,au a.length),(69,au i)],
  [(97,⟨g97,5,true,false,some (a.map an.v)⟩),(161,⟨amD,5,true,false,some ((a.take i).map an.v)⟩)]⟩)
  (fun p=>p.1<=a.length) (fun p=>a.length - p.1) (0,g) ?_ om ?_
 .have u:V.sl 97 g97 0 (if d< 1 then [] else WO fc gx m d m.aA.length).length= .sl 97 g97 0 a.length:=by rw[c]
  have w:au (if d< 1 then [] else WO fc gx m d m.aA.length).length=au a.length:=by rw[c]
  dsimp only;rw[List.take_zero]
  (refine⟨?_,?_⟩ <;>repeat' (first| exact True.intro| refine And.intro (u) ?_| refine And.intro (w) ?_| refine ai ?_| refine And.intro ?_ ?_))
 rintro⟨i,amD⟩ hi;dsimp only at hi;by_cases o:i<a.length
 .obtain⟨x,U9⟩: ∃x,a[i]? =some x:=⟨_,aM o⟩;have JM:a.take (i+1)=a.take i++[x]:=by rw[List.take_add_one,U9];rfl
  have y: (a.take i).length=i:=by simp;omega
  conv=>whnf
  repeat' (first| intro g| refine wi (aw U9 rfl) ?_| refine st ?_| refine br ?_ ?_<;>intro hc| rfl) <;>conv=>whnf
  refine aR.mk (i+1,g) om om ?_;dsimp only;rw[JM];exact su
 obtain rfl:i=a.length:=by omega
 dsimp only;rw[List.take_length];conv=>whnf
 repeat' (first| intro g| refine wi (jd (by simp)) ?_| refine st ?_| refine br ?_ ?_<;>intro hc| rfl) <;>conv=>whnf
end
def s9.es {m:aB} (q:s9 m):List aH:=m.aA.set q.k ⟨q.e.id,q.rest,q.e.left,q.e.right⟩
theorem RF {m:aB} (h:m.Fit) (q:s9 m) (r:alH 526 [m.v,vi q.e.id,au q.n] (vi 0)):
  alH 524 [m.v,vi q.e.id,au q.n] (.tuple [.agg [.own 4 (q.es.map aH.v),.own 5 (m.ak.map aP.v),.own 8 (m.aF.map bH.v),.own 7 (m.ar.map aI.v)],vi 0]):=by
 have t:=h.e;have u:=h.w;have s:=Ih h q;have Tm:=MW q;have ZD:=q.he;have y:=(List.getElem?_eq_some_iff.1 ZD).1;have c1:=sZ m.aA h.e;have c2:=pw m.ak h.f;have c3:=pz m.aF h.w;have c4:=mD m.ar h.p;refine amM ?_;conv=>whnf
 repeat' (first| intro g| apply ca r| apply ca s| apply ca c1| apply ca c2| apply ca c3| apply ca c4| refine st ?_| refine br ?_ ?_<;>intro hc| rfl) <;>conv=>whnf
 rename_i G4 a b O5 WQ O7 WR;have z: ∀ {l:List aH} {i:Nat} {x:aH},l[i]? =some x->(l.map aH.v).set (i:Int).toNat (.agg [vi x.id,.lit 2 (x.line.map Pt.v),vi x.left,vi x.right])=l.map aH.v:=fun h=>pq h;have A: ∀ {l:List bH} {i:Nat} {x:bH},l[i]? =some x->(l.map bH.v).set (i:Int).toNat (.agg [vi x.id,.lit 2 (x.line.map Pt.v),vi x.level,.str x.cls,.str x.name,.bool x.uT,vi x.weight,vi x.aC])=l.map bH.v:=fun h=>pq h;refine aO.by (fun (i:Nat)=> ⟨[(3,.ptr 64 G4 0 0),(6,.ptr 112 a 0 0),(9,.ptr 160 b 0 0),(11,.ptr 192 g 0 0),(44,au (m.aA.map aH.v).length),(45,au i)],
   [(64,⟨G4,4,false,false,some [m.v]⟩),(112,⟨a,4,false,false,some [.agg [.lit 4 [],.lit 5 [],.lit 8 [],.lit 7 []]]⟩),(160,⟨b,8,false,false,some [q.v]⟩),(192,⟨g,4,false,false,some [.agg [.sl 512 O5 0 (m.aA.map aH.v).length,.sl 560 WQ 0 (m.ak.map aP.v).length,.sl 608 O7 0 (m.aF.map bH.v).length,.sl 656 WR 0 (m.ar.map aI.v).length]]⟩),
    (512,⟨O5,4,true,false,some (m.aA.map aH.v)⟩),(560,⟨WQ,5,true,false,some (m.ak.map aP.v)⟩),(608,⟨O7,8,true,false,some (m.aF.map bH.v)⟩),(656,⟨WR,7,true,false,some (m.ar.map aI.v)⟩)]⟩)
  (fun i=>i<=m.aA.length) (fun i=>m.aA.length - i) 0 su (by simp) ?_
 clear c1 c2 c3 c4 r s;rintro i hi;by_cases c:i<m.aA.length
 .obtain⟨e,he⟩: ∃e,m.aA[i]? =some e:=⟨_,aM c⟩;have d:=dZ e.line (h.el e (List.mem_of_getElem? he));conv=>whnf
  repeat' (first| intro g| refine wi (aw he rfl) ?_| apply ca d| refine st ?_| refine br ?_ ?_<;>intro hc| rfl) <;>conv=>whnf
  have j: (⟨O5,4,true,false,some ((m.aA.map aH.v).set (i:Int).toNat (.agg [vi e.id,.lit 2 (e.line.map Pt.v),vi e.left,vi e.right]))⟩:Obj)=⟨O5,4,true,false,some (m.aA.map aH.v)⟩:=by rw[z he]
  exact aR.mk (i+1) om (by omega) (by(refine⟨?_,?_⟩ <;>repeat' (first| exact True.intro| refine And.intro (j) ?_| refine ai ?_| refine And.intro ?_ ?_)))
 obtain rfl:i=m.aA.length:=by omega
 conv=>whnf
 repeat' (first| intro g| refine st ?_| refine br ?_ ?_<;>intro hc| rfl) <;>conv=>whnf
 refine aO.by (fun (i:Nat)=> ⟨[(3,.ptr 64 G4 0 0),(6,.ptr 112 a 0 0),(9,.ptr 160 b 0 0),(11,.ptr 192 g 0 0),(63,au (m.aF.map bH.v).length),(64,au i)],
   [(64,⟨G4,4,false,false,some [m.v]⟩),(112,⟨a,4,false,false,some [.agg [.lit 4 [],.lit 5 [],.lit 8 [],.lit 7 []]]⟩),(160,⟨b,8,false,false,some [q.v]⟩),(192,⟨g,4,false,false,some [.agg [.sl 512 O5 0 (m.aA.map aH.v).length,.sl 560 WQ 0 (m.ak.map aP.v).length,.sl 608 O7 0 (m.aF.map bH.v).length,.sl 656 WR 0 (m.ar.map aI.v).length]]⟩),
    (512,⟨O5,4,true,false,some (m.aA.map aH.v)⟩),(560,⟨WQ,5,true,false,some (m.ak.map aP.v)⟩),(608,⟨O7,8,true,false,some (m.aF.map bH.v)⟩),(656,⟨WR,7,true,false,some (m.ar.map aI.v)⟩)]⟩)
  (fun i=>i<=m.aF.length) (fun i=>m.aF.length - i) 0 su (by simp) ?_
 rintro i hi;by_cases c:i<m.aF.length
 .obtain⟨e,he⟩: ∃e,m.aF[i]? =some e:=⟨_,aM c⟩;have d:=dZ e.line (h.wl e (List.mem_of_getElem? he));conv=>whnf
  repeat' (first| intro g| refine wi (aw he rfl) ?_| apply ca d| refine st ?_| refine br ?_ ?_<;>intro hc| rfl) <;>conv=>whnf
  have j: (⟨O7,8,true,false,some ((m.aF.map bH.v).set (i:Int).toNat (.agg [vi e.id,.lit 2 (e.line.map Pt.v),vi e.level,.str e.cls,.str e.name,.bool e.uT,vi e.weight,vi e.aC]))⟩:Obj)=⟨O7,8,true,false,some (m.aF.map bH.v)⟩:=by rw[A he]
  exact aR.mk (i+1) om (by omega) (by(refine⟨?_,?_⟩ <;>repeat' (first| exact True.intro| refine And.intro (j) ?_| refine ai ?_| refine And.intro ?_ ?_)))
 obtain rfl:i=m.aF.length:=by omega
 have o:q.es.map aH.v=(m.aA.map aH.v).set (q.k:Int).toNat (.agg [vi q.e.id,.lit 2 (q.rest.map Pt.v),vi q.e.left,vi q.e.right]):=by simp[s9.es,List.map_set,aH.v,iW]
 rw[o];conv=>whnf
 repeat' (first| intro g| refine wi (aw ZD rfl) ?_| refine wi (jd rfl) ?_| refine wi (jd (by simp)) ?_| apply ca Tm| refine st ?_| refine br ?_ ?_<;>intro hc| rfl) <;>conv=>whnf
def rL:V:= .agg [vi 0,vi 0,vi 0,vi 0,vi 0,vi 0,vi 0,vi 0]
theorem FJ {m:aB} (h:m.Fit) {id n:Int} (hf:zh m.aA id= -1):alH 534 [m.v,vi id,vi n] (.tuple [rL,vi 5]):=by have hi:=pB h id;rw[hf] at hi;refine amM ?_;exact dr
theorem Kz {m:aB} (h:m.Fit) {id n:Int} {k:Nat} {e:aH} (hf:zh m.aA id=k) (he:m.aA[k]? =some e) (hn:n< 1\/(e.line.length:Int) - 2 <n):alH 534 [m.v,vi id,vi n] (.tuple [rL,vi 1]):=by
 have hi:=pB h id;rw[hf] at hi;have hl:=h.el e (List.mem_of_getElem? he);have w3:IntKind.i64.wrap (((e.line.map Pt.v).length:Int) - 2)=(e.line.length:Int) - 2:=by rw[List.length_map];exact bo (by omega) (by omega)
 refine amM ?_;exact dr1
theorem pC {m:aB} (h:m.Fit) (id n:Int): (∃x:Int,x≠0/\alH 534 [m.v,vi id,vi n] (.tuple [rL,vi x]))\/ ∃q:s9 m,q.e.id=id/\(q.n:Int)=n:=by
 rcases cr (fun e:aH=>decide (e.id=id)) m.aA with⟨h1,_⟩ | ⟨k,e,h1,h2,h3⟩
 .exact .inl ⟨5,by decide,FJ h h1⟩
 have hl:=h.el e (List.mem_of_getElem? h2);by_cases hn:n< 1\/(e.line.length:Int) - 2 <n
 .exact .inl ⟨1,by decide,Kz h h1 h2 hn⟩
 have d:e.id=id:=by simpa using h3
 obtain⟨a,ha⟩: ∃x,e.line[n.toNat - 1]? =some x:=⟨_,aM (by omega)⟩;obtain⟨b,hb⟩: ∃x,e.line[n.toNat]? =some x:=⟨_,aM (by omega)⟩;obtain⟨c,hc⟩: ∃x,e.line[n.toNat+1]? =some x:=⟨_,aM (by omega)⟩;exact .inr ⟨⟨k,n.toNat,e,a,b,c,h2,by rw[d];exact h1,by omega,ha,hb,hc,h.e,hl⟩,d,by show ((n.toNat:Nat):Int)=n;omega⟩
theorem FK {m:aB} {id n x:Int} (hx:x≠0) (a:alH 534 [m.v,vi id,vi n] (.tuple [rL,vi x])):alH 526 [m.v,vi id,vi n] (vi x):=by
 refine amM ?_;conv=>whnf
 repeat' (first| contradiction| intro g| apply ca a| refine st ?_| refine br ?_ ?_<;>intro hc| rfl) <;>conv=>whnf
theorem FL {m:aB} {id n x:Int} (hx:x≠0) (a:alH 534 [m.v,vi id,vi n] (.tuple [rL,vi x])):alH 527 [m.v,vi id,vi n] (vi 0):=by
 refine amM ?_;conv=>whnf
 repeat' (first| contradiction| intro g| apply ca a| refine st ?_| refine br ?_ ?_<;>intro hc| rfl) <;>conv=>whnf
theorem FM {m:aB} (h:m.Fit) (id n:Int): ∃r:Int,alH 526 [m.v,vi id,vi n] (vi r):=by
 rcases pC h id n with⟨x,hx,fL⟩ | ⟨q,rfl,rfl⟩
 .exact⟨x,FK hx fL⟩
 exact⟨_,qi h q⟩
theorem BE {m:aB} (h:m.Fit) (id n:Int): ∃r:Int,alH 527 [m.v,vi id,vi n] (vi r):=by
 rcases pC h id n with⟨x,hx,fL⟩ | ⟨q,rfl,rfl⟩
 .exact⟨0,FL hx fL⟩
 exact⟨_,mj h q⟩
theorem al0 (fc gx:Int->Int->Int) (id:Int) {e:an}: ∀j,e ∈ evN fc gx id j->e.kind=1/\e.other=0/\fc e.id e.n=0/\e.at_=mxI (gx e.id e.n)
 | 0,h=>by simp[evN] at h
 | j+1,h=>by
   rcases List.mem_append.1 h with h| h
   .exact al0 fc gx id j h
   split at h
   .rename_i h0;rw[List.mem_singleton.1 h];exact⟨rfl,rfl,h0,rfl⟩
   simp at h
theorem alU (fc gx:Int->Int->Int) (m:aB) (d:Int) {e:an}: ∀k,e ∈ WO fc gx m d k->e.kind=1/\e.other=0/\fc e.id e.n=0/\e.at_=mxI (gx e.id e.n)
 | 0,h=>by simp[WO] at h
 | k+1,h=>by
   rcases List.mem_append.1 h with h| h
   .exact alU fc gx m d k h
   unfold adP at h;split at h
   .split at h
    .exact al0 fc gx _ _ h
    simp at h
   simp at h
end Go.AM.Dr
namespace Go.AM
theorem wK (k:Bool) {m:aB} (h:m.ak.length< 1000000):alH 500 [m.kv k] (.mlit (bO k m.ak m.ak.length)):=by
 cases k
 .skip
  refine amM ?_;conv=>whnf
  repeat' (first| intro g| refine st ?_| refine br ?_ ?_<;>intro hc| rfl) <;>conv=>whnf
  rename_i b;refine aO.by (fun (n:Nat)=> ⟨[(1,.ptr 32 b 0 0),(3,.mp 112 g),(8,FD false (m.ak.map aP.v)),(9,au (m.ak.map aP.v).length),(10,au n)],
     [(32,⟨b,4,false,false,some [m.kv false]⟩),(112,⟨g,0,false,false,some (bO false m.ak n)⟩)]⟩) (fun n=>n<=m.ak.length) (fun n=>m.ak.length - n) 0 su ajl ?_
  intro n hn;by_cases c:n<m.ak.length
  .obtain⟨f,hf⟩: ∃f,m.ak[n]? =some f:=⟨_,aM c⟩;cases a:aY (m.ak.take n) f.id with
   | none=>
     have d:=Hz false hf a;conv=>whnf
     repeat' (first| intro g| refine wi (aw hf rfl) ?_| refine wi (yc _ a) ?_| refine wi d ?_| refine st ?_| refine br ?_ ?_<;>intro hc| rfl) <;>conv=>whnf
     exact aR.mk (n+1) om ajk su
   | some i=>
     obtain⟨e,VW,_⟩:=cI a;have Og:m.ak[i]? =some e:=by
      have GZ:i<n:=by have:=(ajp.1 VW).1;simp at this;omega
      rw[ajW] at VW;simpa [GZ] using VW
     have hs:=DS false hf (by rw[a];simp);conv=>whnf
     repeat' (first| intro g| refine wi (aw hf rfl) ?_| refine wi (yd _ a Og) ?_| refine st ?_| refine br ?_ ?_<;>intro hc| rfl) <;>conv=>whnf
     exact aR.mk (n+1) om ajk (by(refine⟨?_,?_⟩ <;>repeat' (first| exact True.intro| refine And.intro ((by(conv=>whnf);rw[hs])) ?_| refine ai ?_| refine And.intro ?_ ?_)))
  obtain rfl:n=m.ak.length:=ajk;have hp:=jA false m.ak m.ak.length;have ht:=rI false m.ak m.ak.length;have U5:=mq false m.ak m.ak.length;conv=>whnf
  repeat' (first| intro g| refine st ?_| refine br ?_ ?_<;>intro hc| rfl) <;>conv=>whnf
  rw[U5];exact dr
 skip
 refine amM ?_;conv=>whnf
 repeat' (first| intro g| refine st ?_| refine br ?_ ?_<;>intro hc| rfl) <;>conv=>whnf
 rename_i b;refine aO.by (fun (n:Nat)=> ⟨[(1,.ptr 32 b 0 0),(3,.mp 112 g),(8,FD true (m.ak.map aP.v)),(9,au (m.ak.map aP.v).length),(10,au n)],
    [(32,⟨b,4,false,false,some [m.kv true]⟩),(112,⟨g,0,false,false,some (bO true m.ak n)⟩)]⟩) (fun n=>n<=m.ak.length) (fun n=>m.ak.length - n) 0 su ajl ?_
 intro n hn;by_cases c:n<m.ak.length
 .obtain⟨f,hf⟩: ∃f,m.ak[n]? =some f:=⟨_,aM c⟩;cases a:aY (m.ak.take n) f.id with
  | none=>
    have d:=Hz true hf a;conv=>whnf
    repeat' (first| intro g| refine wi (aw hf rfl) ?_| refine wi (yc _ a) ?_| refine wi d ?_| refine st ?_| refine br ?_ ?_<;>intro hc| rfl) <;>conv=>whnf
    exact aR.mk (n+1) om ajk su
  | some i=>
    obtain⟨e,VW,_⟩:=cI a;have Og:m.ak[i]? =some e:=by
     have GZ:i<n:=by have:=(ajp.1 VW).1;simp at this;omega
     rw[ajW] at VW;simpa [GZ] using VW
    have hs:=DS true hf (by rw[a];simp);conv=>whnf
    repeat' (first| intro g| refine wi (aw hf rfl) ?_| refine wi (yd _ a Og) ?_| refine st ?_| refine br ?_ ?_<;>intro hc| rfl) <;>conv=>whnf
    exact aR.mk (n+1) om ajk (by(refine⟨?_,?_⟩ <;>repeat' (first| exact True.intro| refine And.intro ((by(conv=>whnf);rw[hs])) ?_| refine ai ?_| refine And.intro ?_ ?_)))
 obtain rfl:n=m.ak.length:=ajk;have hp:=jA true m.ak m.ak.length;have ht:=rI true m.ak m.ak.length;have U5:=mq true m.ak m.ak.length;conv=>whnf
 repeat' (first| intro g| refine st ?_| refine br ?_ ?_<;>intro hc| rfl) <;>conv=>whnf
 rw[U5];exact dr
def aP.zero:aP:=⟨0,[],[],0,0⟩
end Go.AM
