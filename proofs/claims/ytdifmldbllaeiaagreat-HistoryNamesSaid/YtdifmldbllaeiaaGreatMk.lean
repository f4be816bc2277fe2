/- Texts of the proof. -/
import Derived.Test.YtdifmldbllaeiaaGreatUf
import Derived.StillTailTactics
import Derived.RangeFuncNested
import Derived.RangeFuncLeaves
import Derived.Shelf.Abstract
import Derived.Shelf.RegionOpen
import Derived.OwnWalkIn
import Derived.TacticsInMore
import Derived.LoopNIn
import Derived.LoopIn
set_option maxHeartbeats 4000000
set_option linter.unusedSimpArgs false
set_option linter.unusedVariables false
namespace Go.AM
open Go Go.RowKit
mutual
def V.flat:V->Bool
 | .bool _| .int .. | .float _| .str _| .nilp| .nilfn| .nili| .nils| .any| .sl .. | .ptr .. =>true
 | .lit _ []=>true
 | .agg cs=>V.ou cs
 | .tuple cs=>V.ou cs
 | _=>false
def V.ou:List V->Bool
 | []=>true
 | c::cs=>V.flat c &&V.ou cs
end
mutual
theorem aj.flat {X:Ctx} {w w':World} {φ:Nat->Row} {O:Nat->Obj}: ∀ {x:V} {v:Value},x.flat=true->aj X ⟨w,φ,O⟩ x v->aj X ⟨w',φ,O⟩ x v
 | .bool _,_,_,h| .int ..,_,_,h| .float _,_,_,h| .str _,_,_,h| .nilp,_,_,h| .nilfn,_,_,h| .nili,_,_,h| .nils,_,_,h=>by simpa [aj] using h
 | .any,_,_,_=>by simp[aj]
 | .sl ..,_,_,h=>by simpa only[aj] using h
 | .ptr ..,_,_,h=>by simpa only[aj] using h
 | .lit sz [],_,_,h=>by
   simp only[aj] at h ⊢;obtain⟨h0,b,a,cap,vs,h1,h2,h3,_⟩:=h;exact⟨h0,b,a,cap,vs,h1,h2,by cases vs<;>simp_all[ag],.inl trivial⟩
 | .agg cs,_,hf,h=>by
   simp only[aj] at h ⊢;obtain⟨h1,vs,rfl,h2⟩:=h;exact⟨h1,vs,rfl,ag.flat (by simpa [V.flat] using hf) h2⟩
 | .tuple cs,_,hf,h=>by
   simp only[aj] at h ⊢;obtain⟨vs,rfl,h2⟩:=h;exact⟨vs,rfl,ag.flat (by simpa [V.flat] using hf) h2⟩
 | .lit sz (x::xs),_,hf,_=>by simp[V.flat] at hf
 | .bfn ..,_,hf,_| .fn ..,_,hf,_| .iface ..,_,hf,_| .own ..,_,hf,_| .msl ..,_,hf,_| .mptr ..,_,hf,_| .eptr ..,_,hf,_| .litk ..,_,hf,_| .epk ..,_,hf,_| .mp ..,_,hf,_| .it ..,_,hf,_| .mlit _,_,hf,_=>by simp[V.flat] at hf
theorem ag.flat {X:Ctx} {w w':World} {φ:Nat->Row} {O:Nat->Obj}: ∀ {xs:List V} {vs:List Value},V.ou xs=true->ag X ⟨w,φ,O⟩ xs vs->ag X ⟨w',φ,O⟩ xs vs
 | [],[],_,_=>by simp[ag]
 | [],_::_,_,h=>by simp[ag] at h
 | _::_,[],_,h=>by simp[ag] at h
 | x::xs,v::vs,hf,h=>by simp only[V.ou,ajt] at hf;simp only[ag] at h ⊢;exact⟨aj.flat hf.1 h.1,ag.flat hf.2 h.2⟩
end
def M6 (O:Nat->Obj):Prop:= ∀r es,(O r).es=some es->0 < (O r).sz/\V.ou es=true
theorem bq.flat {X:Ctx} {w w':World} {φ:Nat->Row} {O:Nat->Obj} (a:bq X ⟨w,φ,O⟩) (hf:M6 O) (bM:w.heap.size<=w'.heap.size)
  (e: ∀r,(O r).es.isSome=true->(φ r).cap≠0->w'.heap[(φ r).cj]? =w.heap[(φ r).cj]?):bq X ⟨w',φ,O⟩:=by
 refine⟨fun r es bC=> ?_,a.inj,a.vE,fun b hb=>ajB (a.blt b hb) bM⟩;obtain⟨h1,h2⟩:=hf r es bC;left
 obtain⟨f,g,h,d⟩:=a.row r es bC h1;refine⟨f,g,h,?_⟩;by_cases hc: (φ r).cap=0
 .exact .inl hc
 rcases d with d| ⟨c,T,vs,i,j,k,l⟩
 .exact absurd d hc
 have hb:=e r (by rw[bC];rfl) hc;exact .inr ⟨c,T,vs,by rw[hb];exact i,j,ag.flat h2 k,l.cn hb⟩
section
variable {E:TrEnv} {B B':Nat->Prop} {K:Nat×Nat} {w w':World} {φ φ':Nat->Row} {O O':Nat->Obj}
def W4 (E:TrEnv) (B B':Nat->Prop) (K:Nat×Nat) (μ μ':Mu):Prop:=
 ∀b,b<μ.w.heap.size-> ¬Own ⟨E,B,K⟩ μ b->μ'.w.heap[b]? =μ.w.heap[b]? /\ ¬Own ⟨E,B',K⟩ μ' b
theorem W4.lt {μ μ':Mu} (h:W4 E B B' K μ μ') {b:Nat} (hb:b<μ.w.heap.size) (hn: ¬Own ⟨E,B,K⟩ μ b):b<μ'.w.heap.size:=by have h1:=(h b hb hn).1;rw[ajP hb] at h1;exact(ajs.1 h1).1
mutual
theorem aj.move {μ μ':Mu} (c:W4 E B B' K μ μ'): ∀ {x:V} {v:Value},x.az=true->aj ⟨E,B,K⟩ μ x v->aj ⟨E,B',K⟩ μ' x v
 | .bool _,_,_,h| .int ..,_,_,h| .float _,_,_,h| .str _,_,_,h| .nilp,_,_,h| .nilfn,_,_,h| .nili,_,_,h| .nils,_,_,h=>by simpa [aj] using h
 | .any,_,_,_=>by simp[aj]
 | .own ..,_,hp,h| .msl ..,_,hp,h| .mptr ..,_,hp,h| .sl ..,_,hp,h| .ptr ..,_,hp,h| .mp ..,_,hp,h| .it ..,_,hp,h=>by simp[V.az] at hp
 | .agg cs,_,hp,h=>by
   simp only[aj] at h ⊢;obtain⟨h1,vs,rfl,h2⟩:=h;exact⟨h1,vs,rfl,ag.move c (by simpa [V.az] using hp) h2⟩
 | .tuple cs,_,hp,h=>by
   simp only[aj] at h ⊢;obtain⟨vs,rfl,h2⟩:=h;exact⟨vs,rfl,ag.move c (by simpa [V.az] using hp) h2⟩
 | .bfn f cs,_,hp,h=>by
   simp only[aj] at h ⊢;obtain⟨F,k,rfl,h1,h2⟩:=h;exact⟨F,k,rfl,h1,ag.move c (by simpa [V.az] using hp) h2⟩
 | .fn f cs,_,hp,h=>by
   simp only[aj] at h ⊢;obtain⟨F,k,rfl,h1,h2⟩:=h;exact⟨F,k,rfl,h1,ag.move c (by simpa [V.az] using hp) h2⟩
 | .iface t x,_,hp,h=>by
   simp only[aj] at h ⊢;obtain⟨T,y,rfl,h1,h2⟩:=h;exact⟨T,y,rfl,h1,aj.move c (by simpa [V.az] using hp) h2⟩
 | .lit sz xs,_,hp,h=>by
   simp only[aj] at h ⊢;obtain⟨h0,j,a,cap,vs,rfl,h1,h2,h3⟩:=h;refine⟨h0,j,a,cap,vs,rfl,h1,ag.move c h0 h2,h3.imp id ?_⟩;rintro⟨b,o,rfl,hb,hs,hr⟩;obtain⟨d,g⟩:=c b hs hb;exact⟨b,o,rfl,g,c.lt hs hb,hr.cn d⟩
 | .eptr e off,_,hp,h=>by
   simp only[aj] at h ⊢;obtain⟨h0,j,b,o,sz,x,rfl,hb,hs,h1,hr⟩:=h;obtain⟨d,g⟩:=c b hs hb;exact⟨h0,j,b,o,sz,x,rfl,g,c.lt hs hb,aj.move c h0 h1,hr.cn d⟩
 | .litk sz xs,_,hp,h=>by
   simp only[aj] at h ⊢;obtain⟨h0,j,a,cap,vs,rfl,h1,h2,h3⟩:=h;refine⟨h0,j,a,cap,vs,rfl,h1,ag.move c h0 h2,h3.imp id ?_⟩;rintro⟨rfl,hb,hs,hr⟩;obtain⟨d,g⟩:=c _ hs hb;exact⟨rfl,g,c.lt hs hb,hr.cn d⟩
 | .epk i sz e off,_,hp,h=>by
   simp only[aj] at h ⊢;obtain⟨h0,j,x,rfl,hb,hs,h1,hr⟩:=h;obtain⟨d,g⟩:=c _ hs hb;exact⟨h0,j,x,rfl,g,c.lt hs hb,aj.move c h0 h1,hr.cn d⟩
 | .mlit es,_,hp,h=>by simp only[aj] at h ⊢;obtain⟨h0,h⟩:=h;refine⟨h0,h.imp id ?_⟩;rintro⟨a,ents,clock,rfl,hb,hs,h1,h2⟩;obtain⟨d,g⟩:=c a hs hb;exact⟨a,ents,clock,rfl,g,c.lt hs hb,by rw[d];exact h1,ag.move c h0 h2⟩
theorem ag.move {μ μ':Mu} (a:W4 E B B' K μ μ'): ∀ {xs:List V} {vs:List Value},V.al xs=true->ag ⟨E,B,K⟩ μ xs vs->ag ⟨E,B',K⟩ μ' xs vs
 | [],[],_,_=>by simp[ag]
 | [],_::_,_,h=>by simp[ag] at h
 | _::_,[],_,h=>by simp[ag] at h
 | x::xs,v::vs,hp,h=>by simp only[V.al,ajt] at hp;simp only[ag] at h ⊢;exact⟨aj.move a hp.1 h.1,ag.move a hp.2 h.2⟩
end
end
structure B5 (b:Nat) (A A':World):Prop where
 size:A'.heap.size=A.heap.size
 os:A'.os=A.os
 output:A'.output=A.output
 tape:A'.tape=A.tape
 other: ∀i,i≠b->A'.heap[i]? =A.heap[i]?
theorem dA.pH {X:Ctx} {μb:Mu} {T:Nat->V} {a:Go.Act} {l:Nat} {Dq:Option Nat} {L:Loop} {O:Nat->Obj} {φ:Nat->Row} {W W':World} {b:Nat} (h:dA X μb T a l Dq L O φ W) (d: ∀t,(T t).flat=true) (e:M6 O)
  (ht:B5 b W W') (hb:μb.w.heap.size<=b) (hn: ∀r,(O r).es.isSome=true->(φ r).cap≠0->(φ r).cj≠b) (hl:b≠l) (f: ∀D,Dq=some D->b≠D):dA X μb T a l Dq L O φ W':=by
 refine⟨⟨fun t=>aj.flat (d t) (h.rel.tmps t),h.rel.bp.flat e (Nat.le_of_eq ht.size.symm) fun r h1 h2=>ht.other _ (hn r h1 h2)⟩,?_,(ht.other l hl.symm).trans h.tN,fun D hd=> (ht.other D (f D hd).symm).trans (h.Qg D hd)⟩;have le:=h.le;refine⟨by show _<=W'.heap.size;rw[ht.size];exact le.size,fun i hi c=> ⟨(ht.other i ajk).trans (le.cn i hi c).1,(le.cn i hi c).2⟩,le.gen,le.row,ht.os.trans le.os,ht.output.trans le.output,ht.tape.trans le.tape,fun ad Pd=> ?_⟩;have:=le.frozen ad Pd;rw[<-this];show W'.frozen? ad=W.frozen? ad;simp only[World.frozen?,ht.other ad.block ajk]
end Go.AM
namespace Go.AM
open Go Go.RowKit
def adW (X:Ctx) (x:List V) (v:Array Value):Prop:= ∀μ,ag X μ x v.toList
structure W5 (J:Nat->(Nat->Prop)->World->Prop):Prop extends AbidesF J where
 put: ∀k F b A A',J k F A->F b->B5 b A A'->J k F A'
def TA (X:Ctx) (μ0:Mu) (gf:Nat) (lb:Array Value) (xs:List (List V)) (F0:Nat->Prop) (w:World):Prop:=
 ∀ (l:Nat) (J:Nat->(Nat->Prop)->World->Prop) (W0:World),w.grownBy W0 none->W5 J->
  (∀ (k:Nat) F W1 v x,xs[k]? =some x->adW X x v->J k F W1->YieldAt (Fr none) 0 X.P l v W1 fun e W'=>e= .returned (.bool true)/\J (k+1) F W'/\(∀b,b<μ0.w.heap.size-> ¬μ0.own b->W'.heap[b]? =W1.heap[b]?)/\ ∀b,F b->W'.heap[b]? =W1.heap[b]?)->
  J 0 F0 W0->CallsIn (Fr none) 0 X.P gf (#[.func (.yield l) #[] #[]]++lb) W0 fun e W'=> (∃v,e= .returned v)/\ ∃F,J xs.length F W'
def iZ (O O':Nat->Obj):Prop:= ∀r,O' r=O r\/O' r={O r with es:=none}
theorem iZ.gen {O O':Nat->Obj} (h:iZ O O') (r:Nat): (O' r).gen=(O r).gen/\(O' r).sz=(O r).sz:=by rcases h r with h| h<;>rw[h] <;>exact⟨rfl,rfl⟩
theorem iZ.own {O O':Nat->Obj} (h:iZ O O') {w:World} {φ:Nat->Row} {b:Nat} (a:Mu.own ⟨w,φ,O'⟩ b):Mu.own ⟨w,φ,O⟩ b:=by
 obtain⟨r,h1,h2,h3,h4⟩:=a;rcases h r with k| k
 .rw[show (⟨w,φ,O'⟩:Mu).O r=O r from k] at h1 h2;exact⟨r,h1,h2,h3,h4⟩
 rw[show (⟨w,φ,O'⟩:Mu).O r={O r with es:=none} from k] at h1;simp at h1
theorem iZ.le {O O':Nat->Obj} (h:iZ O O') (w:World) (φ:Nat->Row):Le ⟨w,φ,O⟩ ⟨w,φ,O'⟩:=
 ⟨ajw _,fun b _ hn=> ⟨rfl,fun a=>hn (h.own a)⟩,fun r=>Nat.le_of_eq (h.gen r).1.symm,fun r _=> ⟨rfl,(h.gen r).2⟩,rfl,rfl,rfl,fun _ _=>rfl⟩
theorem iZ.keeps {O O':Nat->Obj} (h:iZ O O') {r:Nat} (hs: (O' r).es.isSome=true):O' r=O r:=by
 rcases h r with k| k
 .exact k
 rw[k] at hs;simp at hs
theorem iZ.bp {X:Ctx} {w:World} {φ:Nat->Row} {O O':Nat->Obj} (h:iZ O O') (a:bq X ⟨w,φ,O⟩):bq X ⟨w,φ,O'⟩:=by
 have b: ∀ {r:Nat},(O' r).es.isSome=true->(O r).es.isSome=true:=fun {r} hs=>by rw[<-h.keeps hs];exact hs
 refine⟨fun r es bC=> ?_,fun r r' bW h1 h2 h3 h4=>a.inj r r' bW (b h1) (b h2) h3 h4,fun r h1 h2=>a.vE r (b h1) h2,a.blt⟩;have c: (O' r).es=some es:=bC;have e:=h.keeps (r:=r) (by rw[c];rfl);rw[e] at c;exact ig.cn (h.le w φ) (a.ok r es c) (h.gen r).2 rfl fun _=>rfl
theorem iZ.loop {X:Ctx} {μb:Mu} {T:Nat->V} {a:Go.Act} {l:Nat} {Dq:Option Nat} {L:Loop} {O O':Nat->Obj} {φ:Nat->Row} {W:World} (hf:iZ O O') (h:dA X μb T a l Dq L O φ W):dA X μb T a l Dq L O' φ W:=
 ⟨⟨fun t=>aj.mono (hf.le W φ) (h.rel.tmps t),hf.bp h.rel.bp⟩,h.le.trans (hf.le W φ),h.tN,h.Qg⟩
theorem Gi {X:Ctx} {n:Fp} {g:Operand} {ps:Array Tmp} {assign body:Code} {rec:a8->St->Option (aW×St)} {ta tb:a8} (hA: ∀l,B6 X ⟨n.tm,0,some l⟩ assign rec ta) (hB: ∀l,B6 X ⟨n.tm,0,some l⟩ body rec tb)
  {μ0:Mu} {T:Nat->V} {Pk:Nat->(Nat->Obj)->Prop} {O0:Nat->Obj} (N:Pk 0 O0) {a:Go.Act} {w:World} {φ:Nat->Row} (lz:Marks n μ0.w a.defers) (Q:bq X μ0) (G:n.ro=none) (bM:a.tmps.size=n.tm) (hr:Rel X T a ⟨w,φ,O0⟩) (d:Le μ0 ⟨w,φ,O0⟩)
  (xJ: ∀p ∈ ps.toList,p<n.tm) {gf:Nat} {lb:Array Value} (hg:a.eval g= .func (.func gf) #[] lb) (enters: ∀args w,(callFunc gf args).run X.P w= .ok (.enter gf args) w) {xs:List (List V)} (hlen: ∀x ∈ xs,x.length=ps.size)
  (hT: ∀t,(T t).flat=true) (hO: ∀k O,Pk k O->M6 O)
  (step: ∀k x O,xs[k]? =some x->Pk k O-> ∃σ1 σ2 O',rec ta ⟨kr T ps.toList x,O⟩=some (.normal,σ1)/\rec tb σ1=some (.normal,σ2)/\iZ σ2.O O'/\Pk (k+1) O')
  {F0:Nat->Prop} (G8: ∀b,F0 b->b<w.heap.size/\ ¬Mu.own ⟨w,φ,O0⟩ b/\μ0.w.heap.size<=b)
  (hn: ∀k O,Pk k O-> ∀r,(O r).es.isSome=true->(O r).fz=false)
  (rX:TA X μ0 gf lb xs F0 w):
  (Code.rangeFunc g ps assign body).wpIn (Fr n.ro) 0 X.P (fun ex a' w'=>ex= .normal/\ ∃O,Pk xs.length O/\kB X μ0 n ⟨T,O⟩ a' w') a w:=by
 refine wpIn_rangeFunc fun fn nr=> ?_;obtain⟨l,Dq,dD,W1,R,u,hl,TB,TC⟩:=EC (P:=X.P) n.ro (by rw[G];simp) fn a.tmps ps assign body;replace hl:w.heap.size<=l:=hl;replace TC: ∀D,Dq=some D->w.heap.size<=D/\D≠l/\W1.heap[D]? =some (.deferred (some [])):=TC;obtain⟨c,q⟩: ∃c:LoopState->Option Code->Loop,c=fun st pe=> {state:=st,pending:=pe,fn,tmps:=a.tmps,params:=ps,assign,body,defers:=dD}:=⟨_,rfl⟩;have bW: ∀D,Dq=some D->D≠l:=fun D f=> (TC D f).2.1;have y:μ0.w.heap.size<=l:=ajQ d.size hl;have WY:dA X μ0 T a l Dq (c .ready none) O0 φ W1:=by have hb: ∀k,k<w.heap.size->W1.heap[k]? =w.heap[k]? :=fun k hk=>u.block k hk ajl;have st:ju X ⟨w,φ,O0⟩ W1:=ov (μ:=⟨w,φ,O0⟩) u;refine⟨⟨fun t=>aj.cE st (hr.tmps t),hr.bp.cE st fun r h1 h2=>hb _ (vg hr.bp h1 h2)⟩,?_,by rw[q];exact TB,fun D f=> (TC D f).2.2⟩;have W6:μ0.w.heap.size<=w.heap.size:=d.size;exact⟨ajQ W6 u.size,fun b Z z=> ⟨(hb b ajk).trans (d.cn b Z z).1,(d.cn b Z z).2⟩,d.gen,d.row,u.os.trans d.os,u.output.trans d.output,u.tape.trans d.tape,fun ad Pd=>by have:=d.frozen ad Pd;rw[<-this];show W1.frozen? ad=w.frozen? ad;simp only[World.frozen?,hb ad.block ajk]⟩
 refine⟨l,_,W1,{target:= .fn (.func gf) lb,args:= #[.func (.yield l) #[] #[]]},W1,gf,#[.func (.yield l) #[] #[]]++lb,W1,R,?_,fun _ _=>trivial,?_,fun h=>by simp[Fr,Fence.wide] at h,?_⟩
 .simp only[resolve,hg];simp[go_sem]
 .simp[invoke,go_sem,enters]
 have H: ∀ {k:Nat} {O:Nat->Obj} {W:World} {φ':Nat->Row} {b:Nat},Pk k O-> ¬Mu.own ⟨W,φ',O⟩ b-> ∀r,(O r).es.isSome=true->(φ' r).cap≠0->(φ' r).cj≠b:=fun hp z r h1 h2 h3=>z ⟨r,h1,hn _ _ hp r h1,h2,h3⟩;have key:=rX l (fun k F W=> ∃O φ',Pk k O/\dA X μ0 T a l Dq (c .ready none) O φ' W/\ ∀b,F b->b<W.heap.size/\ ¬Mu.own ⟨W,φ',O⟩ b/\b≠l/\(∀D,Dq=some D->b≠D)/\μ0.w.heap.size<=b) W1 u
  ⟨⟨fun k F A B ⟨O,φ',hp,h1,h3⟩ hg=> ⟨O,φ',hp,h1.grow hg,fun b hb=>by
    rcases hb with hb| ⟨Ap,td⟩
    .exact⟨ajB (h3 b hb).1 hg.size,(h3 b hb).2⟩
    .refine⟨td,?_,fun kQ=> ?_,fun D f S=> ?_,?_⟩
     .  rintro⟨r,q1,_,q3,q4⟩
        have:=vg (μ:=⟨A,φ',O⟩) h1.rel.bp q1 q3;have L: (φ' r).cj=b:=q4;have: (φ' r).cj<A.heap.size:=this;omega
     .  subst kQ
        have:=(ajs.1 h1.tN).1;omega
     .  subst S
        have:=(ajs.1 (h1.Qg b f)).1;omega
     .  have:μ0.w.heap.size<=A.heap.size:=h1.le.size
        omega⟩,fun k F F' A ⟨O,φ',hp,h1,h3⟩ s=> ⟨O,φ',hp,h1,fun b hb=>h3 b (s b hb)⟩⟩,
    fun k F b A A' ⟨O,φ',hp,h1,h3⟩ s ht=> ⟨O,φ',hp,h1.pH hT (hO k O hp) ht (h3 b s).2.2.2.2 (H hp (h3 b s).2.1) (h3 b s).2.2.1 (h3 b s).2.2.2.1,fun i hi=> ⟨by rw[ht.size];exact(h3 i hi).1,(h3 i hi).2⟩⟩⟩ ?round
  ⟨O0,φ,N,WY,fun b hb=> ⟨ajB (G8 b hb).1 u.size,(G8 b hb).2.1,by have:=(G8 b hb).1;omega,fun D f=>by have:=(G8 b hb).1;have:=(TC D f).1;omega,(G8 b hb).2.2⟩⟩
 case round=>
  rintro k F W v x hx tO ⟨O,φ',hp,m,s⟩;have U3:=hlen x (List.mem_of_getElem? hx);obtain⟨σ1,σ2,O',h1,h2,I,FA⟩:=step k x O hx hp;have adX:=m.le;have W7:ag X ⟨W,φ',O⟩ x v.toList:=tO _;have ns:v.size=ps.size:=by have:=W7.length;rw[<-U3,this];simp
  have Hn:=Gj (ps:=ps.toList) (T:=T) (tmps:=a.tmps) W7 m.rel.tmps (by rw[bM];exact xJ);have II: ((ps.zip v).foldl (fun tmps (p:Tmp×Value)=>tmps.setIfInBounds p.1 p.2) a.tmps)=(ps.toList.zip v.toList).foldl (fun t p=>t.setIfInBounds p.1 p.2) a.tmps:=by rw[<-Array.foldl_toList,Array.toList_zip]
  have hy:=run_yield (P:=X.P) (args:=v) m.tN (by rw[q];exact ns);rw[q] at hy;refine⟨fn,_,assign,body,hy,roundIn_of_wpIn nr ?_⟩;have lA:kB X ⟨W,φ',O⟩ ⟨n.tm,0,some l⟩ ⟨kr T ps.toList x,O⟩ {tmps:=(ps.zip v).foldl (fun tmps (p:Tmp×Value)=>tmps.setIfInBounds p.1 p.2) a.tmps,defers:=[]} W:=by refine⟨Marks.nil (akk _) (fun l' C=>by injection C with C;subst C;exact⟨_,m.tN⟩),by show Array.size _=n.tm;rw[II,Hn.2];exact bM,φ',⟨fun t=> ?_,m.rel.bp⟩,Le.refl _⟩;show aj X _ _ (Array.getD _ t undef);rw[II];exact Hn.1 t
  refine wpIn_mono (hA l _ _ _ _ _ _ h1 lA) fun ex a1 j L=> ?_;obtain⟨rfl,TD,vD,φ1,sX,B7⟩:=L;have IJ: ∀ {b:Nat} {o:Go.Obj},W.heap[b]? =some o->o.isCells=false->o.isWalk=false->j.heap[b]? =some o:=fun {b o} hb i1 i2=>
    (B7.cn b (ajs.1 hb).1 (dK m.rel.bp hb i1 i2)).1.trans hb
  have Gk:dA X μ0 T a l Dq (c .ready none) σ1.O φ1 j:=⟨⟨fun t=>aj.mono B7 (m.rel.tmps t),sX.bp⟩,m.le.trans B7,IJ m.tN rfl rfl,fun D f=>IJ (m.Qg D f) rfl rfl⟩;show ∃w₂,_/\_;refine⟨_,run_beginRound Gk.tN (by rw[q]),?_⟩;have E:dA X μ0 T a l Dq (c .busy none) σ1.O φ1 (j.putObj l (.loop (c .busy none))):=Gk.put y bW;have TE: ({c .ready none with state:= .busy}:Loop)=c .busy none:=by rw[q]
  rw[TE];have U:ju X ⟨j,φ1,σ1.O⟩ (j.putObj l (.loop (c .busy none))):=jv (μ:=⟨j,φ1,σ1.O⟩) Gk.tN rfl rfl;have M7:kB X ⟨j.putObj l (.loop (c .busy none)),φ1,σ1.O⟩ ⟨n.tm,0,some l⟩ σ1 a1 (j.putObj l (.loop (c .busy none))):=by refine⟨?_,vD,φ1,⟨fun t=>aj.cE U (sX.tmps t),E.rel.bp⟩,Le.refl _⟩;obtain⟨_,Ds,m1,m2,m3⟩:=TD;refine⟨⟨akk _,fun l' C=>by injection C with C;subst C;exact⟨_,E.tN⟩⟩,Ds,m1,m2,fun D f=> ⟨akk _,?_⟩⟩;rw[World.putObj_heap_other (fun e=>by have:=(m3 D f).2;rw[e,Gk.tN] at this;simp at this)];exact(m3 D f).2
  refine wpIn_mono (hB l _ _ _ _ _ _ h2 M7) fun ex a3 w3 L=> ?_;obtain⟨rfl,_,_,φ3,Wh,J⟩:=L;have pK: ∀ {b:Nat} {o:Go.Obj},(j.putObj l (.loop (c .busy none))).heap[b]? =some o->o.isCells=false->o.isWalk=false->w3.heap[b]? =some o:=fun {b o} hb i1 i2=>
    (J.cn b (ajs.1 hb).1 (dK E.rel.bp hb i1 i2)).1.trans hb
  have Gl:dA X μ0 T a l Dq (c .busy none) σ2.O φ3 w3:=⟨⟨fun t=>aj.mono J (E.rel.tmps t),Wh.bp⟩,E.le.trans J,pK E.tN rfl rfl,fun D f=>pK (E.Qg D f) rfl rfl⟩;have IK:dA X μ0 T a l Dq (c .ready none) σ2.O φ3 (w3.putObj l (.loop (c .ready none))):=Gl.put y bW;have Y:=I.loop IK;have M: ({c .busy none with state:=if (none:Option Code).isNone then .ready else .done,pending:=none}:Loop)=c .ready none:=by rw[q];rfl
  have Vc: ∀b,F b->(w3.putObj l (.loop (c .ready none))).heap[b]? =W.heap[b]? /\b<w3.heap.size/\ ¬Mu.own ⟨w3,φ3,σ2.O⟩ b:=fun b hb=>by obtain⟨f1,f2,f3,_⟩:=s b hb;have g1:=B7.cn b f1 f2;have s1:W.heap.size<=j.heap.size:=B7.size;have s2: (j.putObj l (.loop (c .busy none))).heap.size<=w3.heap.size:=J.size;have s3: (j.putObj l (.loop (c .busy none))).heap.size=j.heap.size:=World.putObj_size ..;have g2:=J.cn b (by show b< (j.putObj l (.loop (c .busy none))).heap.size;omega) g1.2;refine⟨?_,ajk,g2.2⟩;rw[World.putObj_heap_other f3,show w3.heap[b]? =(j.putObj l (.loop (c .busy none))).heap[b]? from g2.1,World.putObj_heap_other f3];exact g1.1
  have s4: (w3.putObj l (.loop (c .ready none))).heap.size=w3.heap.size:=World.putObj_size ..;refine⟨_,_,run_endRound none Gl.tN,rfl,⟨O',φ3,FA,by rw[M];exact Y,fun b hb=> ?_⟩,fun b hb z=> ?_,fun b hb=> ?_⟩
  . rw[M]
    exact⟨by rw[s4];exact(Vc b hb).2.1,fun ho=> (Vc b hb).2.2 (I.own ho),(s b hb).2.2⟩
  . rw[M]
    exact(IK.le.cn b hb z).1.trans (m.le.cn b hb z).1.symm
  rw[M];exact(Vc b hb).1
 refine CallsIn.mono (show CallsIn (Fr n.ro) (0 - 1) X.P gf _ W1 _ from by rw[G];exact key) ?_;rintro ending W' ⟨⟨v,rfl⟩,_,O,φ',hp,m,_⟩;refine⟨none,_,by have:=run_endLoop (P:=X.P) m.tN (by rw[q];simp);rw[this,q],rfl,?_⟩;have K:dA X μ0 T a l Dq (c .exhausted none) O φ' (W'.putObj l (.loop (c .exhausted none))):=m.put y bW;rw[q] at K;exact⟨O,hp,yB (w:=μ0.w) (φ:=μ0.φ) (O0:=μ0.O) lz bM Q (Le.refl _) K fun D f=>ajQ d.size (TC D f).1⟩
end Go.AM
namespace Go.Proofs
open Go.RowKit Go.AM Go.Proofs.YtdifmldbllaeiaaGreat
attribute [local go_sem] ltk nu kC du
set_option maxRecDepth 100000 in
theorem Lm (W:World) (s0 s1 s2 s3:Value) (d:Int):
  Calls Tryz.prog 57 #[.agg #[s0,s1,s2,s3],.int .i64 d] W fun e W'=>e= .returned (.func (.func 101) #[] #[.pointer (some ⟨W.heap.size,0,none⟩),.pointer (some ⟨W.heap.size+1,0,none⟩)])/\W'=(W.alloc (.cells #[s0,s1,s2,s3] 30)).alloc (.cells #[.int .i64 d] 3):=by
 go_enter Tryz.func57,Tryz.ntmps57
 go_wp2
 exact bodyPost_ret (by simp[results,show Tryz.f57.results= #[.tmp 4] from rfl]) rfl ⟨rfl,rfl⟩
end Go.Proofs
namespace Go.AM
open Go Go.RowKit
theorem IM: ∀ {cs:List V},V.al cs=true-> ∀c ∈ cs,c.az=true
 | [],_,c,h=>by simp at h
 | x::cs,hp,c,h=>by
   simp only[V.al,ajt] at hp;rcases ajy.1 h with rfl| h
   .exact hp.1
   exact IM hp.2 c h
def kj:Nat->Obj:=fun _=>bJ
def B8:Nat->Row:=fun _=> ⟨0,0,0⟩
theorem B9 {w:World} {φ:Nat->Row} {b:Nat}: ¬Mu.own ⟨w,φ,kj⟩ b:=by rintro⟨r,h,_⟩;simp[kj,bJ] at h
theorem Pe {E:TrEnv} {B:Nat->Prop} {K:Nat×Nat} {w:World} {φ:Nat->Row} (a: ∀b,B b->b<w.heap.size):bq ⟨E,B,K⟩ ⟨w,φ,kj⟩:=
 ⟨fun r es h=>by simp[kj,bJ] at h,fun r r' _ h=>by simp[kj,bJ] at h,fun r h=>by simp[kj,bJ] at h,a⟩
theorem IN.rel {Y:Ctx} {μ:Mu} {n:Nat} {v:V} {rs:List Nat} {val:Value} (h:IN Y μ n v rs val) (hp:v.az=true):aj Y μ v val:=by
 cases h with
 | cell h=>
   cases h with
   | pure _ h=>exact h
   | sl=>simp[V.az] at hp
   | own=>simp[V.az] at hp
 | agg hc h=>
   rename_i cs vals;have Gm:V.al cs=true:=by simpa [V.az] using hp
   have:=(h.aV Gm).1;simp only[aj];refine⟨?_,_,rfl,this⟩;rw[ajx] at hc ⊢;intro c a;have h1:=hc c a;have h2:=IM Gm c a;cases c<;>simp_all[V.j5,V.aZ,V.az]
theorem rY.W8 {Y:Ctx} {μ:Mu} {n:Nat} {vs:List V} {rs:List Nat} {vals:List Value} (h:rY Y μ n vs rs vals) (hp:V.al vs=true):ag Y μ vs vals:=by
 induction h with
 | nil=>simp[ag]
 | cons h hs a=>
   simp only[V.al,ajt] at hp;simp only[ag];exact⟨h.rel hp.1,a hp.2⟩
theorem zp {args:List V} (h:V.al args=true): (enter args).O=kj:=by rw[eF h];rfl
theorem qu {X:TrEnv} {F:FuncId} {fn:Func} {c:Code} (a:X.P.funcs[F]? =some fn) (b: (fn.name== "runtime.NumGoroutine")=false) (hb:fn.body=some c) (args:Array Value) (w:World): (callFunc F args).run X.P w= .ok (.enter F args) w:=by simp[callFunc,Sem.run_bind,program,Sem.run,a,hb];simpa using b
theorem bL.aV {X:TrEnv} {F:FuncId} {fn:Func} {c:Code} (l:X.P.funcs[F]? =some fn) (m: (fn.name== "runtime.NumGoroutine")=false) (hb:fn.body=some c) {args:List V} {res:fu} (h:bL X F args res)
   (Hn:V.al args=true) (d:res.val.az=true) {B:Nat->Prop} {K:Nat×Nat} {w:World} (n: ∀b,B b->b<w.heap.size) {vals:List Value} (hv:ag ⟨X,B,K⟩ ⟨w,B8,kj⟩ args vals):
   Calls X.P F vals.toArray w fun e w'=> ∃val,e= .returned val/\w.grownBy w' none/\aj ⟨X,B,K⟩ ⟨w',B8,kj⟩ res.val val:=by
 have g:=zp Hn;have o: ∀t x,args[t]? =some x->(enter args).T t=x:=fun t x hx=>by rw[eF Hn];simp[hx]
 have h1:=h B K w B8 vals hv.length.symm (fun t v f=>by
   rw[g];have hl:=hv.length;have ht:t<args.length:=by rw[hl];exact(ajp.1 f).1
   rw[o t _ (aju ht)];obtain⟨v',AD,hr⟩:=hv.get (aju ht);rw[f] at AD;injection AD with AD;subst AD;exact hr) (by rw[g];exact Pe n)
 rw[qu l m hb] at h1;refine Calls.mono h1 ?_;rintro e w' he;cases e with
 | panicked c=>exact he.elim
 | outgrown=>exact he.elim
 | returned val=>
   obtain⟨φ',T',O',v0,i,a,j,hrel,W9,_,_⟩:=he;rw[g] at a;refine⟨val,rfl,⟨a.os,a.tape,a.output,a.size,fun k p _=> (a.cn k p B9).1⟩,?_⟩;have h2:aj ⟨X,B,K⟩ ⟨w',φ',O'⟩ res.val val:=by
    generalize res.val=r at W9 d ⊢;cases W9 with
    | one h=>exact(oX j (T:=T') hrel h).rel d
    | many h=>
      simp only[aj] at hrel ⊢;obtain⟨vs,rfl,VQ⟩:=hrel;exact⟨vs,rfl,(nv j (T:=T') VQ h).W8 (by simpa [V.az] using d)⟩
   exact aj.move (μ:=⟨w',φ',O'⟩) (μ':=⟨w',B8,kj⟩) (fun b hb hn=> ⟨rfl,fun q=>hn (q.imp (fun h=> (B9 h).elim) id)⟩) d h2
end Go.AM
namespace Go.Proofs
open Go.RowKit Go.Shelf Go.AM Go.Proofs.YtdifmldbllaeiaaGreat
attribute [local go_sem] Oper.semAt_some ltk nu kC du
@[local go_sem] theorem Pc: (Fr none).round=none:=rfl
structure Sl where
 a:Option Addr
 n:Nat
 c:Nat
inductive Phase where
 | head (k:Nat) (b:Int) (s0 s1 s2 s3:Sl)
 | got (k:Nat) (s0 s1 s2 s3:Sl) (c0 a c2 c3 c4:Int)
 | app (k:Nat) (c0 a c2 c3 c4:Int) (s0 s1 s2 s3:Sl)
 | done
def JS (c0 a c2 c3 c4:Int):Value:= .agg #[.int .i64 c0,.int .i64 a,.int .i64 c2,.int .i64 c3,.int .i64 c4]
theorem ED {F:Fence} {n:Nat} {P:Program} {md:Region.Mode} {ops:Array Oper} {Q:Exit->Go.Act->World->Prop} (I:Array Bool->Go.Act->World->Prop) (bM: ∀av a w,I av a w->av.size=ops.size)
   (d: ∀av a w i,I av a w->i ∈ Region.ready md ops av->wpOpIn F n P ops Q i (I (av.setIfInBounds i true)) a w)
   (c: ∀av a w,I av a w->Region.ready md ops av=[]->Q .normal a w):
   ∀ (fuel:Nat) (av:Array Bool) (a:Go.Act) (w:World),I av a w->av.toList.countP (fun b=> !b)<=fuel->wpAnyIn F n P md ops Q fuel av a w
 | 0,av,a,w,h,hf=>by
   have hr:Region.ready md ops av=[]:=by apply List.eq_nil_iff_forall_not_mem.2;intro i hi;have hl:=aaf (mem_ready.1 hi).1;have:=Xa hl;omega
   exact⟨hr,c _ _ _ h hr⟩
 | fuel+1,av,a,w,h,hf=>by refine⟨fun hr=>c _ _ _ h hr,fun i hi=>wpOpIn_mono (fun a' w' e=>ED I bM d c fuel _ a' w' e ?_) (d _ _ _ i h hi)⟩;have hl:=aaf (mem_ready.1 hi).1;have:=Xa hl;simp only[Array.toList_setIfInBounds];omega
theorem pL {r:Option Nat} {P:Program} {ops:Array Oper} {Q:Exit->Go.Act->World->Prop} {i:Nat} {o:Oper} {K:Go.Act->World->Prop} {a:Go.Act} {w:World} (b:ops[i]? =some o) (hg:o.guard=none) (hd: ∀c,o.op≠ .defer c) (h:o.wp P a w K Q):wpOpIn (Fr r) 0 P ops Q i K a w:=by unfold wpOpIn;rw[b];simp only[Region.wanted,hg,if_true];exact tp hd h
theorem qv {md:Region.Mode} {ops:Array Oper} {av:Array Bool} {n:Nat} (bM:av.size=n) (hr:Region.ready md ops av=[]) {j:Nat} {o:Oper} (a:ops[j]? =some o) (Ln: ∀e ∈ o.after,Region.binds md e=true->av.getD e.on false=true) (b:j<n:=by decide):av.getD j false=true:=by
 cases h:av.getD j true with
 | false=>
   have:j ∈ Region.ready md ops av:=mem_ready.2 ⟨h,o,a,Ln⟩;rw[hr] at this;cases this
 | true=>
   have hl:j<av.size:=ajk;simp only[Array.getD,hl,dite_true] at h ⊢;exact h
def gV (Bm:Nat) (w:World) (r0 r1 r2 b:Sl):World:=
 (((w.setCell ⟨Bm,0,none⟩ (.slice r0.a r0.n r0.c)).setCell ⟨Bm,1,none⟩ (.slice r1.a r1.n r1.c)).setCell ⟨Bm,2,none⟩ (.slice r2.a r2.n r2.c)).setCell ⟨Bm,3,none⟩ (.slice b.a b.n b.c)
theorem Dk (Bm:Nat) (w:World) (r0 r1 r2 a:Sl):B5 Bm w (gV Bm w r0 r1 r2 a):=
 ⟨by simp[gV,World.setCell],rfl,rfl,rfl,fun i hi=>by simp only[gV];rw[Below.heap_setCell _ _ _ _ hi,Below.heap_setCell _ _ _ _ hi,Below.heap_setCell _ _ _ _ hi,Below.heap_setCell _ _ _ _ hi]⟩
theorem Pf {Bm:Nat} {w:World} {r0 r1 r2 b:Sl} {x0 x1 x2 x3:Value} {t:TypeId} (h:w.heap[Bm]? =some (.cells #[x0,x1,x2,x3] t)): (gV Bm w r0 r1 r2 b).heap[Bm]? =some (.cells #[.slice r0.a r0.n r0.c,.slice r1.a r1.n r1.c,.slice r2.a r2.n r2.c,.slice b.a b.n b.c] t):=by obtain⟨hl,h⟩:=ajs.1 h;simp only[gV,World.setCell];rw[ajP (by simpa using hl)];simp[Array.getElem_modify,h]
structure StI (mk:Value->Value->Value->Value->Go.Act) (Wd Ws:World) (vR vP va:Value) (av:Array Bool) (act:Go.Act) (w:World):Prop where
 sz:av.size=5
 w:Hid (w=if av.getD 3 false=true then Ws else Wd)
 ac: ∃x4 x35 x36 x37,act=mk x4 x35 x36 x37/\(av.getD 0 false=true->x35=vR)/\(av.getD 1 false=true->x36=vP)/\(av.getD 2 false=true->x37=va)/\(av.getD 4 false=true->x4=va)
set_option maxRecDepth 100000 in
theorem Pg (l Bm Bd:Nat) (d:Int) (G:Phase->(Nat->Prop)->World->Prop)
  (J: ∀ph S A B,G ph S A->A.grownBy B none->G ph (fun b=>S b\/(A.heap.size<=b/\b<B.heap.size)) B) (M8: ∀ph S S' A,G ph S A->(∀b,S' b->S b)->G ph S' A) (fy: ∀ph S A A',G ph S A->B5 Bm A A'->G ph S A')
  (h74: ∀k b s0 s1 s2 s3 S W,G (.head k b s0 s1 s2 s3) S W->k< 200->Calls Tryz.prog 14 #[.agg #[.slice s0.a s0.n s0.c,.slice s1.a s1.n s1.c,.slice s2.a s2.n s2.c,.slice s3.a s3.n s3.c],.int .i64 d,.int .i64 b] W fun e W'=> ∃c0 a c2 c3 c4 ok,e= .returned (.tuple #[JS c0 a c2 c3 c4,.bool ok])/\W.grownBy W' none/\((ok=true/\G (.got k s0 s1 s2 s3 c0 a c2 c3 c4) S W')\/(ok=false/\G .done S W')))
  (h75: ∀k s0 s1 s2 s3 c0 a c2 c3 c4 S W,G (.got k s0 s1 s2 s3 c0 a c2 c3 c4) S W->Calls Tryz.prog 15 #[.agg #[.slice s0.a s0.n s0.c,.slice s1.a s1.n s1.c,.slice s2.a s2.n s2.c,.slice s3.a s3.n s3.c],JS c0 a c2 c3 c4] W fun e W'=> ∃g t1 t2 m u,e= .returned (.tuple #[.agg #[.slice g.a g.n g.c,.slice t1.a t1.n t1.c,.slice t2.a t2.n t2.c,.slice m.a m.n m.c],.int .i64 u])/\W.grownBy W' none/\((u=0/\G (.app k c0 a c2 c3 c4 g t1 t2 m) S W')\/(u≠0/\G .done S W')))
  (hY: ∀k c0 a c2 c3 c4 g t1 t2 m S W,G (.app k c0 a c2 c3 c4 g t1 t2 m) S W->YieldAt (Fr none) 0 Tryz.prog l #[JS c0 a c2 c3 c4,.agg #[.slice g.a g.n g.c,.slice t1.a t1.n t1.c,.slice t2.a t2.n t2.c,.slice m.a m.n m.c]] W fun e W'=>e= .returned (.bool true)/\G (.head (k+1) a g t1 t2 m) S W'/\ ∀b,S b->W'.heap[b]? =W.heap[b]?)
  (pI: ∀b s0 s1 s2 s3 S W,G (.head 200 b s0 s1 s2 s3) S W->G .done S W)
  (W:World) (s0 s1 s2 s3:Sl) (S:Nat->Prop) (hSm:S Bm) (hSd:S Bd) (bW:Bd≠Bm) (IB:W.heap[Bm]? =some (.cells #[.slice s0.a s0.n s0.c,.slice s1.a s1.n s1.c,.slice s2.a s2.n s2.c,.slice s3.a s3.n s3.c] 30)) (Qh:W.heap[Bd]? =some (.cells #[.int .i64 d] 3))
  (h0:G (.head 0 0 s0 s1 s2 s3) S W):
  CallsIn (Fr none) 1 Tryz.prog 101 #[.func (.yield l) #[] #[],.pointer (some ⟨Bm,0,none⟩),.pointer (some ⟨Bd,0,none⟩)] W fun ex W'=> (∃v,ex= .returned v)/\ ∃S,G .done S W':=by
 refine callsIn_of_wp Tryz.func101 rfl trivial ?_ rfl;simp only[Tryz.ntmps101,alf,ajC,ajJ,Nat.reduceAdd,Nat.reduceSub,alb,alc,aly,alo,aj8,ajK];have F7:Tryz.prog.follows .mixedOrders=true:=ajn
 gi_wp2
 gi_loopw [4,9] (fun b i wr=> ∃k:Nat,k<=200/\i= .int .i64 k/\ ∃b' g t1 t2 m,b= .int .i64 b'/\G (.head k b' g t1 t2 m) (fun x=>x=Bm\/x=Bd) wr/\wr.heap[Bm]? =some (.cells #[.slice g.a g.n g.c,.slice t1.a t1.n t1.c,.slice t2.a t2.n t2.c,.slice m.a m.n m.c] 30)/\wr.heap[Bd]? =some (.cells #[.int .i64 d] 3)) (fun b i _=>200 - (intOf i).toNat)
 case atStart=>exact⟨0,akk _,rfl,0,s0,s1,s2,s3,rfl,M8 _ _ _ _ h0 (by rintro b (rfl| rfl) <;>assumption),IB,Qh⟩
 case round=>
  clear h0 IB Qh hSm hSd;obtain⟨k,hk,rfl,b',g,t1,t2,m,rfl,hG,IB,Qh⟩:=hrel;by_cases bl:k< 200
  .have sV: (k:Int) < 200:=ajk;have K:wr.cell? ⟨Bm,0,none⟩=some (.slice g.a g.n g.c):=by simp[World.cell?,IB]
   have y:wr.cell? ⟨Bm,1,none⟩=some (.slice t1.a t1.n t1.c):=by simp[World.cell?,IB]
   have L:wr.cell? ⟨Bm,2,none⟩=some (.slice t2.a t2.n t2.c):=by simp[World.cell?,IB]
   have M:wr.cell? ⟨Bm,3,none⟩=some (.slice m.a m.n m.c):=by simp[World.cell?,IB]
   have m4:wr.cell? ⟨Bd,0,none⟩=some (.int .i64 d):=by simp[World.cell?,Qh]
   have c1:=h74 _ _ _ _ _ _ _ _ hG bl
   gi_wp2
   refine⟨trivial,CallsIn.mono (callsIn_wide.2 c1:CallsIn (Fr none) 0 Tryz.prog 14 _ wr _) ?_⟩;rintro e q ⟨c0,a,c2,c3,c4,ok,rfl,hg,X7⟩;clear K y L M m4 c1;have CW:wr.heap.size<=q.heap.size:=hg.size;have Xb:Bm<wr.heap.size:=(ajs.1 IB).1;have Xc:Bd<wr.heap.size:=(ajs.1 Qh).1;have Ph:q.heap[Bm]? =some (.cells #[.slice g.a g.n g.c,.slice t1.a t1.n t1.c,.slice t2.a t2.n t2.c,.slice m.a m.n m.c] 30):=(hg.block _ Xb ajl).trans IB;have N:q.heap[Bd]? =some (.cells #[.int .i64 d] 3):=(hg.block _ Xc ajl).trans Qh;have K:q.cell? ⟨Bm,0,none⟩=some (.slice g.a g.n g.c):=by simp[World.cell?,Ph]
   have y:q.cell? ⟨Bm,1,none⟩=some (.slice t1.a t1.n t1.c):=by simp[World.cell?,Ph]
   have L:q.cell? ⟨Bm,2,none⟩=some (.slice t2.a t2.n t2.c):=by simp[World.cell?,Ph]
   have M:q.cell? ⟨Bm,3,none⟩=some (.slice m.a m.n m.c):=by simp[World.cell?,Ph]
   have ME:Bm<q.heap.size:=ajk;have ahW:Bm≠q.heap.size:=ajk;have ad0:q.heap.size≠Bm:=ajk;unfold JS;rcases X7 with⟨rfl,hG1⟩ | ⟨rfl,hG1⟩
   .   have Vd:=World.grownBy_alloc q (.cells #[.int .i64 c0,.int .i64 a,.int .i64 c2,.int .i64 c3,.int .i64 c4] 55) none
       have Ve: (q.alloc (.cells #[.int .i64 c0,.int .i64 a,.int .i64 c2,.int .i64 c3,.int .i64 c4] 55)).heap.size=q.heap.size+1:=World.size_alloc _ _;have O: (q.alloc (.cells #[.int .i64 c0,.int .i64 a,.int .i64 c2,.int .i64 c3,.int .i64 c4] 55)).heap[q.heap.size]? =some (.cells #[.int .i64 c0,.int .i64 a,.int .i64 c2,.int .i64 c3,.int .i64 c4] 55):=World.alloc_heap_new _ _;have P:=J _ _ _ _ hG1 Vd;have Q:=M8 _ _ (fun x=> (x=Bm\/x=Bd)\/x=q.heap.size) _ P (by rintro b (h| rfl);exact .inl h;exact .inr ⟨ajw _,ajk⟩);have R:=h75 _ _ _ _ _ _ _ _ _ _ _ _ Q
       gi_wp2
       refine⟨trivial,CallsIn.mono (callsIn_wide.2 R:CallsIn (Fr none) 0 Tryz.prog 15 _ _ _) ?_⟩;rintro e r ⟨r0,r1,r2,f,u,rfl,t,ahX⟩;clear K y L M R P Q hG1 ME ahW ad0;have hz4:q.heap.size+1<=r.heap.size:=by have:=t.size;omega
       have Lo:r.heap[q.heap.size]? =some (.cells #[.int .i64 c0,.int .i64 a,.int .i64 c2,.int .i64 c3,.int .i64 c4] 55):=(t.block _ ajk ajl).trans O;have T:r.heap[Bm]? =some (.cells #[.slice g.a g.n g.c,.slice t1.a t1.n t1.c,.slice t2.a t2.n t2.c,.slice m.a m.n m.c] 30):=(t.block _ ajk ajl).trans ((Vd.block _ ajk ajl).trans Ph);have U:r.heap[Bd]? =some (.cells #[.int .i64 d] 3):=(t.block _ ajk ajl).trans ((Vd.block _ ajk ajl).trans N);have V:q.heap.size<r.heap.size:=ajk;have Yf:Bm<r.heap.size:=ajk;have Yg:Bd<r.heap.size:=ajk;have ahY:Bm≠q.heap.size:=ajk;generalize q.heap.size=Be at*;clear Vd Ve O Ph N CW hg IB Qh Xb Xc t;have K:r.cell? ⟨Be,0,none⟩=some (.int .i64 c0):=by simp[World.cell?,Lo]
       have y:r.cell? ⟨Be,1,none⟩=some (.int .i64 a):=by simp[World.cell?,Lo]
       have L:r.cell? ⟨Be,2,none⟩=some (.int .i64 c2):=by simp[World.cell?,Lo]
       have M:r.cell? ⟨Be,3,none⟩=some (.int .i64 c3):=by simp[World.cell?,Lo]
       have m4:r.cell? ⟨Be,4,none⟩=some (.int .i64 c4):=by simp[World.cell?,Lo]
       rcases ahX with⟨rfl,hG4⟩ | ⟨ajb,hG4⟩
       .have Vd:=World.grownBy_alloc r (.cells #[.slice r0.a r0.n r0.c,.slice r1.a r1.n r1.c,.slice r2.a r2.n r2.c,.slice f.a f.n f.c] 30) none;have Ve: (r.alloc (.cells #[.slice r0.a r0.n r0.c,.slice r1.a r1.n r1.c,.slice r2.a r2.n r2.c,.slice f.a f.n f.c] 30)).heap.size=r.heap.size+1:=World.size_alloc _ _;have X: (r.alloc (.cells #[.slice r0.a r0.n r0.c,.slice r1.a r1.n r1.c,.slice r2.a r2.n r2.c,.slice f.a f.n f.c] 30)).heap[r.heap.size]? =some (.cells #[.slice r0.a r0.n r0.c,.slice r1.a r1.n r1.c,.slice r2.a r2.n r2.c,.slice f.a f.n f.c] 30):=World.alloc_heap_new _ _;have Y:=J _ _ _ _ hG4 Vd;have Z:=M8 _ _ (fun x=> ((x=Bm\/x=Bd)\/x=Be)\/x=r.heap.size) _ Y (by rintro b (h| rfl);exact .inl h;exact .inr ⟨ajw _,ajk⟩);obtain⟨fn,tmps,assign,body,hy,hR⟩:=hY _ _ _ _ _ _ _ _ _ _ _ _ Z;unfold JS at hy
        gi_wp2
        refine RoundIn.mono hR ?_;rintro e s ⟨rfl,hG7,IP⟩;clear Y Z hR hy hG4 K y L M m4;have Lp:s.heap[Bm]? =some (.cells #[.slice g.a g.n g.c,.slice t1.a t1.n t1.c,.slice t2.a t2.n t2.c,.slice m.a m.n m.c] 30):=(IP _ (.inl (.inl (.inl rfl)))).trans ((Vd.block _ Yf ajl).trans T);have ad4:s.heap[Bd]? =some (.cells #[.int .i64 d] 3):=(IP _ (.inl (.inl (.inr rfl)))).trans ((Vd.block _ Yg ajl).trans U);have ad5:s.heap[Be]? =some (.cells #[.int .i64 c0,.int .i64 a,.int .i64 c2,.int .i64 c3,.int .i64 c4] 55):=(IP _ (.inl (.inr rfl))).trans ((Vd.block _ V ajl).trans Lo);have TF:=(IP _ (.inr rfl)).trans X;have Xd:Bm≠r.heap.size:=ajk;generalize r.heap.size=Bn at*;clear Vd Ve X IP T U Lo V Yf Yg hz4;have n0:s.cell? ⟨Bn,0,none⟩=some (.slice r0.a r0.n r0.c):=by simp[World.cell?,TF]
        have n1:s.cell? ⟨Bn,1,none⟩=some (.slice r1.a r1.n r1.c):=by simp[World.cell?,TF]
        have n2:s.cell? ⟨Bn,2,none⟩=some (.slice r2.a r2.n r2.c):=by simp[World.cell?,TF]
        have n3:s.cell? ⟨Bn,3,none⟩=some (.slice f.a f.n f.c):=by simp[World.cell?,TF]
        have y:s.cell? ⟨Be,1,none⟩=some (.int .i64 a):=by simp[World.cell?,ad5]
        have q0:s.cell? ⟨Bm,0,none⟩=some (.slice g.a g.n g.c):=by simp[World.cell?,Lp]
        have q1:s.cell? ⟨Bm,1,none⟩=some (.slice t1.a t1.n t1.c):=by simp[World.cell?,Lp]
        have q2:s.cell? ⟨Bm,2,none⟩=some (.slice t2.a t2.n t2.c):=by simp[World.cell?,Lp]
        have q3:s.cell? ⟨Bm,3,none⟩=some (.slice m.a m.n m.c):=by simp[World.cell?,Lp]
        have z0: ∀o p,s.frozen? ⟨Bm,o,p⟩=false:=by intro o p;simp[World.frozen?,Lp]
        simp only[]
        gi_wp2
        refine B2 (n:=0) (wpIn_region_any F7 ?_);obtain⟨Wd,Xe⟩: ∃Wd,Wd=World.drew s:=⟨_,rfl⟩;have C: ∀x:Bool,(if x=true then gV Bm Wd r0 r1 r2 f else Wd).cell? ⟨Bn,0,none⟩=some (.slice r0.a r0.n r0.c)/\(if x=true then gV Bm Wd r0 r1 r2 f else Wd).cell? ⟨Bn,1,none⟩=some (.slice r1.a r1.n r1.c)/\(if x=true then gV Bm Wd r0 r1 r2 f else Wd).cell? ⟨Bn,2,none⟩=some (.slice r2.a r2.n r2.c)/\(if x=true then gV Bm Wd r0 r1 r2 f else Wd).cell? ⟨Bn,3,none⟩=some (.slice f.a f.n f.c)/\(if x=true then gV Bm Wd r0 r1 r2 f else Wd).cell? ⟨Be,1,none⟩=some (.int .i64 a):=by
         have e1: ∀b,b≠Bm-> ∀o,(gV Bm Wd r0 r1 r2 f).cell? ⟨b,o,none⟩=s.cell? ⟨b,o,none⟩:=fun b hb o=>by rw[Xe];simp only[gV,World.cell?];rw[Below.heap_setCell _ _ _ _ hb,Below.heap_setCell _ _ _ _ hb,Below.heap_setCell _ _ _ _ hb,Below.heap_setCell _ _ _ _ hb];rfl
         have e2: ∀a,Wd.cell? a=s.cell? a:=fun a=>by rw[Xe];rfl
         intro x;cases x
         .exact⟨(e2 _).trans n0,(e2 _).trans n1,(e2 _).trans n2,(e2 _).trans n3,(e2 _).trans y⟩
         exact⟨(e1 _ Xd.symm _).trans n0,(e1 _ Xd.symm _).trans n1,(e1 _ Xd.symm _).trans n2,(e1 _ Xd.symm _).trans n3,(e1 _ ahY.symm _).trans y⟩
        have z0': ∀o p,Wd.frozen? ⟨Bm,o,p⟩=false:=by rw[Xe];exact z0
        have qd0:Wd.cell? ⟨Bm,0,none⟩=some (.slice g.a g.n g.c):=by rw[Xe];exact q0
        have qd1:Wd.cell? ⟨Bm,1,none⟩=some (.slice t1.a t1.n t1.c):=by rw[Xe];exact q1
        have qd2:Wd.cell? ⟨Bm,2,none⟩=some (.slice t2.a t2.n t2.c):=by rw[Xe];exact q2
        have qd3:Wd.cell? ⟨Bm,3,none⟩=some (.slice m.a m.n m.c):=by rw[Xe];exact q3
        have Lq:Hid (Wd=World.drew s):=Xe;clear Xe;refine ED (StI (fun x4 x35 x36 x37=> {tmps:= #[.func (.yield l) #[] #[],.pointer (some ⟨Bm,0,none⟩),.pointer (some ⟨Bd,0,none⟩),undef,x4,.pointer (some ⟨Be,0,none⟩),.bool true,.pointer (some ⟨Bn,0,none⟩),.int .i64 0,.int .i64 k,.bool true,
          .tuple #[JS c0 a c2 c3 c4,.bool true],.agg #[.slice g.a g.n g.c,.slice t1.a t1.n t1.c,.slice t2.a t2.n t2.c,.slice m.a m.n m.c],.int .i64 d,.int .i64 b',.tuple #[JS c0 a c2 c3 c4,.bool true],JS c0 a c2 c3 c4,.bool true,.bool true,.bool false,.tuple #[.agg #[.slice r0.a r0.n r0.c,.slice r1.a r1.n r1.c,.slice r2.a r2.n r2.c,.slice f.a f.n f.c],.int .i64 0],.agg #[.slice g.a g.n g.c,.slice t1.a t1.n t1.c,.slice t2.a t2.n t2.c,.slice m.a m.n m.c],JS c0 a c2 c3 c4,.tuple #[.agg #[.slice r0.a r0.n r0.c,.slice r1.a r1.n r1.c,.slice r2.a r2.n r2.c,.slice f.a f.n f.c],.int .i64 0],.agg #[.slice r0.a r0.n r0.c,.slice r1.a r1.n r1.c,.slice r2.a r2.n r2.c,.slice f.a f.n f.c],
          .int .i64 0,.int .i64 0,.bool false,.bool false,.func (.yield l) #[] #[],JS c0 a c2 c3 c4,.agg #[.slice r0.a r0.n r0.c,.slice r1.a r1.n r1.c,.slice r2.a r2.n r2.c,.slice f.a f.n f.c],.bool true,.bool false,.bool false,x35,x36,x37,u38],defers:=[]}) Wd (gV Bm Wd r0 r1 r2 f) (.agg #[.slice r0.a r0.n r0.c,.slice r1.a r1.n r1.c,.slice r2.a r2.n r2.c,.slice f.a f.n f.c]) (.pointer (some ⟨Be,1,none⟩)) (.int .i64 a)) (fun av act w h=>h.1.trans rfl) ?_ ?_ _ _ _ _ ?_ ajm
        .rintro av act w i ⟨bM,hw,x4,x35,x36,x37,rfl,D,E,F,H⟩ hi;dsimp only;obtain⟨hni,o,z,Ln⟩:=mem_ready.1 hi;have ajc:i< 5:=by
          rcases ak1 i 5 with h| h
          .exact h
          rw[akx (by simpa using h)] at z;cases z
         rcases(by omega:i=0\/i=1\/i=2\/i=3\/i=4) with rfl| rfl| rfl| rfl| rfl
         .have up: ∀j,j≠0->(av.setIfInBounds 0 true).getD j false=av.getD j false:=fun j h=>getD_set_ne _ (akN h);have se: (av.setIfInBounds 0 true).getD 0 false=true:=by simp[Array.getD,bM]
          have rd:w.cell? ⟨Bn,0,none⟩=some (.slice r0.a r0.n r0.c)/\w.cell? ⟨Bn,1,none⟩=some (.slice r1.a r1.n r1.c)/\w.cell? ⟨Bn,2,none⟩=some (.slice r2.a r2.n r2.c)/\w.cell? ⟨Bn,3,none⟩=some (.slice f.a f.n f.c)/\w.cell? ⟨Be,1,none⟩=some (.int .i64 a):=by rw[show w=_ from hw];exact C _
          obtain⟨rd0,rd1,rd2,rd3,rd4⟩:=rd;refine pL rfl rfl ajl ?_
          go_simp
          exact⟨by simpa using bM,by rw[up 3 ajm];exact hw,_,_,_,_,rfl,fun _=>rfl,fun h=>E (by rwa [up 1 ajm] at h),fun h=>F (by rwa [up 2 ajm] at h),fun h=>H (by rwa [up 4 ajm] at h)⟩
         .have up: ∀j,j≠1->(av.setIfInBounds 1 true).getD j false=av.getD j false:=fun j h=>getD_set_ne _ (akN h);have se: (av.setIfInBounds 1 true).getD 1 false=true:=by simp[Array.getD,bM]
          refine pL rfl rfl ajl ?_
          go_simp
          exact⟨by simpa using bM,by rw[up 3 ajm];exact hw,_,_,_,_,rfl,fun h=>D (by rwa [up 0 ajm] at h),fun _=>rfl,fun h=>F (by rwa [up 2 ajm] at h),fun h=>H (by rwa [up 4 ajm] at h)⟩
         .have up: ∀j,j≠2->(av.setIfInBounds 2 true).getD j false=av.getD j false:=fun j h=>getD_set_ne _ (akN h);have se: (av.setIfInBounds 2 true).getD 2 false=true:=by simp[Array.getD,bM]
          have q1':av.getD 1 false=true:=(by simp at z;subst z;exact Ln ⟨1,.data⟩ ajl rfl);obtain rfl:=E q1';have rd:w.cell? ⟨Bn,0,none⟩=some (.slice r0.a r0.n r0.c)/\w.cell? ⟨Bn,1,none⟩=some (.slice r1.a r1.n r1.c)/\w.cell? ⟨Bn,2,none⟩=some (.slice r2.a r2.n r2.c)/\w.cell? ⟨Bn,3,none⟩=some (.slice f.a f.n f.c)/\w.cell? ⟨Be,1,none⟩=some (.int .i64 a):=by rw[show w=_ from hw];exact C _
          obtain⟨rd0,rd1,rd2,rd3,rd4⟩:=rd;refine pL rfl rfl ajl ?_
          go_simp
          exact⟨by simpa using bM,by rw[up 3 ajm];exact hw,_,_,_,_,rfl,fun h=>D (by rwa [up 0 ajm] at h),fun _=>rfl,fun _=>rfl,fun h=>H (by rwa [up 4 ajm] at h)⟩
         .have up: ∀j,j≠3->(av.setIfInBounds 3 true).getD j false=av.getD j false:=fun j h=>getD_set_ne _ (akN h);have se: (av.setIfInBounds 3 true).getD 3 false=true:=by simp[Array.getD,bM]
          have q0':av.getD 0 false=true:=(by simp at z;subst z;exact Ln ⟨0,.data⟩ ajl rfl);obtain rfl:=D q0';have n3':av.getD 3 false=false:=by have h1:av.getD 3 true=false:=hni;simp only[Array.getD,bM] at h1 ⊢;simpa using h1
          unfold Hid at hw;rw[n3'] at hw;obtain rfl:w=Wd:=hw;refine pL rfl rfl ajl ?_
          go_simp
          exact⟨by simpa using bM,by rw[se];rfl,_,_,_,_,rfl,fun _=>rfl,fun h=>E (by rwa [up 1 ajm] at h),fun h=>F (by rwa [up 2 ajm] at h),fun h=>H (by rwa [up 4 ajm] at h)⟩
         have up: ∀j,j≠4->(av.setIfInBounds 4 true).getD j false=av.getD j false:=fun j h=>getD_set_ne _ (akN h);have se: (av.setIfInBounds 4 true).getD 4 false=true:=by simp[Array.getD,bM]
         have q2':av.getD 2 false=true:=(by simp at z;subst z;exact Ln ⟨2,.data⟩ ajl rfl);obtain rfl:=F q2';refine pL rfl rfl ajl ?_
         go_simp
         exact⟨by simpa using bM,by rw[up 3 ajm];exact hw,_,_,_,_,rfl,fun h=>D (by rwa [up 0 ajm] at h),fun h=>E (by rwa [up 1 ajm] at h),fun _=>rfl,fun _=>rfl⟩
        .rintro av act w ⟨bM,hw,x4,x35,x36,x37,rfl,D,E,F,H⟩ hr;unfold Hid at hw;have l0:av.getD 0 false=true:=iQ bM hr rfl ajl;have l1:av.getD 1 false=true:=qv bM hr rfl (fun e he hb=>by(have I:e=⟨3,.gcOnly .lateStores⟩:=by simpa using he);subst I;exact absurd hb ajm);have l2:av.getD 2 false=true:=qv bM hr rfl (fun e he hb=>by(have I:e=⟨1,.data⟩\/e=⟨3,.gcOnly .lateStores⟩:=by simpa using he);rcases I with rfl| rfl;exact l1;exact absurd hb ajm);have l3:av.getD 3 false=true:=qv bM hr rfl (fun e he hb=>by(have I:e=⟨0,.data⟩\/e=⟨0,.phase⟩\/e=⟨1,.textOnly .lateStores⟩\/e=⟨2,.textOnly .lateStores⟩:=by simpa using he);rcases I with rfl| rfl| rfl| rfl;exact l0;exact l0;exact l1;exact l2);have l4:av.getD 4 false=true:=qv bM hr rfl (fun e he hb=>by(have I:e=⟨2,.data⟩\/e=⟨3,.chain⟩\/e=⟨0,.phase⟩\/e=⟨1,.phase⟩\/e=⟨2,.phase⟩\/e=⟨3,.phase⟩:=by simpa using he);rcases I with rfl| rfl| rfl| rfl| rfl| rfl;exact l2;exact l3;exact l0;exact l1;exact l2;exact l3);obtain rfl:=D l0;obtain rfl:=E l1;obtain rfl:=F l2;obtain rfl:=H l4;rw[l3] at hw;obtain rfl:w=gV Bm Wd r0 r1 r2 f:=hw;have hT:B5 Bm Wd (gV Bm Wd r0 r1 r2 f):=Dk Bm Wd r0 r1 r2 f;unfold Hid at Lq;have hG8:G (.head (k+1) a r0 r1 r2 f) (fun x=>x=Bm\/x=Bd) Wd:=M8 _ _ _ _ (J _ _ _ _ hG7 (show s.grownBy Wd none by rw[Lq];exact⟨rfl,rfl,rfl,ajw _,fun _ _ _=>rfl⟩)) (fun b hb=> .inl (.inl (.inl hb)));have hG9:=fy _ _ _ _ hG8 hT;have ahZ: (gV Bm Wd r0 r1 r2 f).heap[Bm]? =some (.cells #[.slice r0.a r0.n r0.c,.slice r1.a r1.n r1.c,.slice r2.a r2.n r2.c,.slice f.a f.n f.c] 30):=Pf (by rw[Lq];exact Lp);have ah0: (gV Bm Wd r0 r1 r2 f).heap[Bd]? =some (.cells #[.int .i64 d] 3):=(hT.other _ bW).trans (by rw[Lq];exact ad4);generalize gV Bm Wd r0 r1 r2 f=Ws at*;clear D E F H hr bM l0 l1 l2 l3 l4 hT C z0' qd0 qd1 qd2 qd3;have VM:IntKind.i64.wrap ((k:Int)+1)=(k:Int)+1:=bo ajk ajk;rename_i Qf;clear Lp ad4 ad5 TF n0 n1 n2 n3 y q0 q1 q2 q3 z0 hG7 hG8 Lq;refine Qf _ _ ?_;unfold JS;dsimp only
         gi_wp2
         exact⟨⟨k+1,ajk,rfl,a,r0,r1,r2,f,rfl,hG9,ahZ,ah0⟩,by simp only[intOf];omega⟩
        refine⟨ajl,?_,_,_,_,_,rfl,?_,?_,?_,?_⟩
        .unfold Hid at Lq ⊢;rw[Lq];simp[Array.getD]
        all_goals (intro h;simp[Array.getD] at h)
       gi_wp2
       refine⟨fun _ h=> (by cases h),?_⟩
       gi_wp2
       exact⟨rfl,_,results_none (fn:=Tryz.f101) rfl _ _ _,⟨_,rfl⟩,_,J _ _ _ _ hG4 (World.grownBy_alloc _ _ none)⟩
   gi_wp2
   exact⟨rfl,_,results_none (fn:=Tryz.f101) rfl _ _ _,⟨_,rfl⟩,_,J _ _ _ _ hG1 (World.grownBy_alloc _ _ none)⟩
  have sV: ¬ (k:Int) < 200:=ajk;obtain rfl:k=200:=ajk
  gi_wp2
  exact⟨rfl,_,results_none (fn:=Tryz.f101) rfl _ _ _,⟨_,rfl⟩,_,pI _ _ _ _ _ _ _ hG⟩
end Go.Proofs
namespace Go.AM
open Go Go.RowKit Go.Proofs Go.Proofs.YtdifmldbllaeiaaGreat
def IQ (c0 a c2 c3 c4:Int):V:= .agg [.int .i64 c0,.int .i64 a,.int .i64 c2,.int .i64 c3,.int .i64 c4]
theorem EE {e:V} {x:Int} (h:J3 e=some x): ∃c0 c2 c3 c4,e=IQ c0 x c2 c3 c4:=by
 unfold J3 at h;split at h
 .injection h with h;subst h;exact⟨_,_,_,_,rfl⟩
 simp at h
theorem w9 {C:Nat->List V->Option fu} {d:Int}: ∀ {n:Nat} {m:V} {b:Int} {evs r:List V},iu C d n m b evs=some r-> ∃rest,r=evs++rest
 | 0,_,_,evs,r,h=>by
   simp only[iu,ajq] at h;exact⟨[],by rw[h,akY]⟩
 | n+1,m,b,evs,r,h=>by
   unfold iu at h;split at h
   .split at h
    .split at h
     .split at h
      .obtain⟨rest,rfl⟩:=w9 h;exact⟨_,akB ..⟩
      injection h with h;exact⟨[],by rw[h,akY]⟩
     simp at h
    simp at h
   .split at h
    .injection h with h;exact⟨[],by rw[h,akY]⟩
    simp at h
   simp at h
theorem Ca {C:Nat->List V->Option fu} {d:Int} {n:Nat} {m:V} {b:Int} {evs r:List V} (h:iu C d (n+1) m b evs=some r):
  ∃c0 a c2 c3 c4 ok,C 644 [m,.int .i64 d,.int .i64 b]=some ⟨.tuple [IQ c0 a c2 c3 c4,.bool ok],[]⟩/\(ok=false/\r=evs\/ok=true/\ ∃m' c,C 645 [m,IQ c0 a c2 c3 c4]=some ⟨.tuple [m',.int .i64 c],[]⟩/\lM m'=true/\
   (c=0/\iu C d n m' a (evs++[IQ c0 a c2 c3 c4])=some r\/c≠0/\r=evs)):=by
 unfold iu at h;split at h
 .rename_i e h1;split at h
  .rename_i x m' c h2 h3;obtain⟨c0,c2,c3,c4,rfl⟩:=EE h2;split at h
   .rename_i hm;refine⟨c0,x,c2,c3,c4,true,h1,.inr ⟨rfl,m',c,h3,hm,?_⟩⟩;split at h
    .rename_i he;exact .inl ⟨he,h⟩
    rename_i he;injection h with h;exact .inr ⟨he,h.symm⟩
   simp at h
  simp at h
 .rename_i e h1;split at h
  .rename_i x h2;obtain⟨c0,c2,c3,c4,rfl⟩:=EE h2;injection h with h;exact⟨c0,x,c2,c3,c4,false,h1,.inl ⟨rfl,h.symm⟩⟩
  simp at h
 simp at h
theorem vj {m:V} (h:lM m=true): ∃a l0 b c d g i j,m= .agg [.lit a l0,.lit b c,.lit d g,.lit i j]:=by
 unfold lM at h;split at h
 .rename_i e f w p;simp only[ajt] at h;obtain⟨h0,h1,h2,h3⟩:=h;cases e<;>simp[q9] at h0
  cases f<;>simp[q9] at h1
  cases w<;>simp[q9] at h2
  cases p<;>simp[q9] at h3
  exact⟨_,_,_,_,_,_,_,_,rfl⟩
 simp at h
theorem jw {m:V} (h:lM m=true):m.az=true:=by obtain⟨_,_,_,_,_,_,_,_,rfl⟩:=vj h;rfl
def mapVal (s0 s1 s2 s3:Sl):Value:= .agg #[.slice s0.a s0.n s0.c,.slice s1.a s1.n s1.c,.slice s2.a s2.n s2.c,.slice s3.a s3.n s3.c]
theorem EF {X:Ctx} {μ:Mu} {m:V} (h:lM m=true) {v:Value} (hv:aj X μ m v): ∃s0 s1 s2 s3,v=mapVal s0 s1 s2 s3:=by
 obtain⟨_,_,_,_,_,_,_,_,rfl⟩:=vj h;simp only[aj] at hv;obtain⟨_,vs,rfl,hv⟩:=hv;rcases vs with⟨vs⟩;rcases vs with _| ⟨v0,_| ⟨g,_| ⟨i,_| ⟨v3,_| ⟨j,vs⟩⟩⟩⟩⟩ <;>simp only[ag,aj,and_true,and_false] at hv
 obtain⟨⟨_,_,a0,a,_,rfl,_⟩,⟨_,_,a1,b,_,rfl,_⟩,⟨_,_,c,d,_,rfl,_⟩,⟨_,_,e,f,_,rfl,_⟩⟩:=hv;exact⟨⟨a0,_,a⟩,⟨a1,_,b⟩,⟨c,_,d⟩,⟨e,_,f⟩,rfl⟩
def Ban (U:Nat->Prop) (z Bm:Nat) (F:Nat->Prop) (W:World):Nat->Prop:=fun b=>b<W.heap.size/\(b=Bm\/U b\/(z<=b/\ ¬F b))
theorem M9 {U:Nat->Prop} {z Bm:Nat} {F:Nat->Prop} {W:World} {b:Nat} (hb:b<W.heap.size) (h: ¬Ban U z Bm F W b):b≠Bm/\ ¬U b/\(b<z\/F b):=by
 refine⟨fun e=>h ⟨hb,.inl e⟩,fun e=>h ⟨hb,.inr (.inl e)⟩,?_⟩;rcases ak1 b z with h1| h1
 .exact .inl h1
 refine .inr (akJ fun h2=>h ⟨hb,.inr (.inr ⟨h1,h2⟩)⟩)
theorem Gn {U:Nat->Prop} {z Bm:Nat} {F:Nat->Prop} {W:World} {b:Nat} (h1:b≠Bm) (h0: ¬U b) (h2:b<z\/F b): ¬Ban U z Bm F W b:=by
 rintro⟨_,h| h| ⟨h3,h4⟩⟩
 .exact h1 h
 .exact h0 h
 rcases h2 with h| h
 .omega
 exact h4 h
def IS (X:TrEnv) (K:Nat×Nat) (U:Nat->Prop) (z Bm:Nat) (F:Nat->Prop) (W:World) (m:V) (s0 s1 s2 s3:Sl):Prop:=aj ⟨X,Ban U z Bm F W,K⟩ ⟨W,B8,kj⟩ m (mapVal s0 s1 s2 s3)
theorem IT {X:TrEnv} {B:Nat->Prop} {K:Nat×Nat} {W:World} {b:Nat}:Own ⟨X,B,K⟩ ⟨W,B8,kj⟩ b↔B b:=⟨fun h=>h.elim (fun h=> (B9 h).elim) id,.inr⟩
theorem EG {X:TrEnv} {B B':Nat->Prop} {K:Nat×Nat} {W W':World} {m:V} {v:Value} (hp:m.az=true) (h:aj ⟨X,B,K⟩ ⟨W,B8,kj⟩ m v) (a: ∀b,b<W.heap.size-> ¬B b->W'.heap[b]? =W.heap[b]? /\ ¬B' b):aj ⟨X,B',K⟩ ⟨W',B8,kj⟩ m v:=
 aj.move (μ:=⟨W,B8,kj⟩) (μ':=⟨W',B8,kj⟩) (fun b hb hn=>by obtain⟨h1,h2⟩:=a b hb (fun h=>hn (.inr h));exact⟨h1,fun h=>h2 (IT.1 h)⟩) hp h
end Go.AM
namespace Go.AM
open Go Go.RowKit Go.Proofs Go.Proofs.YtdifmldbllaeiaaGreat
theorem IU {F:Fence} {n:Nat} {P:Program} {l:Nat} {v:Array Value} {W:World} {R R':Ending->World->Prop} (h:YieldAt F n P l v W R) (hm: ∀e W',R e W'->R' e W'):YieldAt F n P l v W R':=by obtain⟨fn,tmps,assign,body,hy,a⟩:=h;exact⟨fn,tmps,assign,body,hy,a.mono hm⟩
section
variable (X:TrEnv) (K:Nat×Nat) (U:Nat->Prop) (z Bm:Nat) (C:Nat->List V->Option fu) (d:Int) (r:List V) (J:Nat->(Nat->Prop)->World->Prop)
def RPh:Phase->(Nat->Prop)->World->Prop
 | .head k b s0 s1 s2 s3,F,W=> ∃m evs,lM m=true/\evs.length=k/\k<=200/\iu C d (200 - k) m b evs=some r/\IS X K U z Bm F W m s0 s1 s2 s3
 | .got k s0 s1 s2 s3 c0 a c2 c3 c4,F,W=> ∃m evs m' c,lM m=true/\evs.length=k/\k< 200/\C 645 [m,IQ c0 a c2 c3 c4]=some ⟨.tuple [m',.int .i64 c],[]⟩/\lM m'=true/\
    (c=0/\iu C d (200 - (k+1)) m' a (evs++[IQ c0 a c2 c3 c4])=some r\/c≠0/\r=evs)/\IS X K U z Bm F W m s0 s1 s2 s3
 | .app k c0 a c2 c3 c4 s0 s1 s2 s3,F,W=> ∃m evs,lM m=true/\evs.length=k/\k< 200/\iu C d (200 - (k+1)) m a (evs++[IQ c0 a c2 c3 c4])=some r/\IS X K U z Bm F W m s0 s1 s2 s3
 | .done,_,_=>True
def EH:Phase->Nat
 | .head k .. | .got k .. | .app k .. =>k
 | .done=>r.length
def GPh (ph:Phase) (S:Nat->Prop) (W:World):Prop:= ∃F,J (EH r ph) F W/\(∀x,S x->F x)/\F Bm/\Bm<W.heap.size/\RPh X K U z Bm C d r ph F W
end
theorem RPh.move {X:TrEnv} {K:Nat×Nat} {U:Nat->Prop} {z Bm:Nat} {C:Nat->List V->Option fu} {d:Int} {r:List V} {ph:Phase} {F F':Nat->Prop} {W W':World} (h:RPh X K U z Bm C d r ph F W) (f: ∀b,b<W.heap.size->b≠Bm-> ¬U b->b<z\/F b->W'.heap[b]? =W.heap[b]? /\(b<z\/F' b)):RPh X K U z Bm C d r ph F' W':=by
 have c: ∀ {m s0 s1 s2 s3},lM m=true->IS X K U z Bm F W m s0 s1 s2 s3->IS X K U z Bm F' W' m s0 s1 s2 s3:=fun hm h=>EG (jw hm) h fun b hb hn=>by obtain⟨h1,h0,h2⟩:=M9 hb hn;obtain⟨h3,h4⟩:=f b hb h1 h0 h2;exact⟨h3,Gn h1 h0 h4⟩
 cases ph with
 | head k b s0 s1 s2 s3=>
   obtain⟨m,evs,h1,h2,h3,h4,h5⟩:=h;exact⟨m,evs,h1,h2,h3,h4,c h1 h5⟩
 | got k s0 s1 s2 s3 c0 a c2 c3 c4=>
   obtain⟨m,evs,m',e,h1,h2,h3,h4,h5,h6,h7⟩:=h;exact⟨m,evs,m',e,h1,h2,h3,h4,h5,h6,c h1 h7⟩
 | app k c0 a c2 c3 c4 s0 s1 s2 s3=>
   obtain⟨m,evs,h1,h2,h3,h4,h5⟩:=h;exact⟨m,evs,h1,h2,h3,h4,c h1 h5⟩
 | done=>trivial
theorem TG {X:Ctx} {μ:Mu} {c0 a c2 c3 c4:Int}:aj X μ (IQ c0 a c2 c3 c4) (JS c0 a c2 c3 c4):=by unfold IQ JS;simp[aj,ag,V.aZ]
theorem Xf {X:Ctx} {μ:Mu} {x:V} {a:Int} {vs:Array Value} (h:ag X μ [x,.int .i64 a] vs.toList): ∃v,aj X μ x v/\vs= #[v,.int .i64 a]:=by
 rcases vs with⟨vs⟩;rcases vs with _| ⟨v0,_| ⟨b,_| ⟨c,vs⟩⟩⟩ <;>simp only[ag,aj,and_true,and_false] at h
 obtain⟨h0,rfl⟩:=h;exact⟨v0,h0,rfl⟩
theorem aag {X:Ctx} {μ:Mu} {c0 a c2 c3 c4:Int} {ok:Bool} {v:Value} (h:aj X μ (.tuple [IQ c0 a c2 c3 c4,.bool ok]) v):v= .tuple #[JS c0 a c2 c3 c4,.bool ok]:=by
 simp only[aj] at h;obtain⟨vs,rfl,h⟩:=h;rcases vs with⟨vs⟩;rcases vs with _| ⟨v0,_| ⟨b,_| ⟨c,vs⟩⟩⟩ <;>simp only[ag,aj,and_true,and_false] at h
 obtain⟨h0,rfl⟩:=h;unfold IQ at h0;simp only[aj] at h0;obtain⟨_,ws,rfl,h0⟩:=h0;rcases ws with⟨ws⟩;rcases ws with _| ⟨x0,_| ⟨x1,_| ⟨x2,_| ⟨x3,_| ⟨x4,_| ⟨x5,ws⟩⟩⟩⟩⟩⟩ <;>simp only[ag,aj,and_true,and_false] at h0
 obtain⟨rfl,rfl,rfl,rfl,rfl⟩:=h0;rfl
theorem IV {X:TrEnv} (t:X.P=Tryz.prog) {C:bB} (T: ∀f F vs res,X.gA F=some f->C f vs=some res->bL X F vs res) (H:X.gA 14=some 644) (I:X.gA 15=some 645) {B:Nat->Prop} {K:Nat×Nat}
  {w0:World} {d:Int} {m:V} {s0 s1 s2 s3:Sl} {r:List V} (hm:lM m=true) (U:iu C d 200 m 0 []=some r) {φ:Nat->Row} {O0:Nat->Obj} (hv:aj ⟨X,B,K⟩ ⟨w0,φ,O0⟩ m (mapVal s0 s1 s2 s3)) (Y: ∀b,Mu.own ⟨w0,φ,O0⟩ b->b<w0.heap.size) {w:World} {Bm Bd:Nat} (Z:w0.heap.size<=Bm) (bW:Bd≠Bm)
  (IB:w.heap[Bm]? =some (.cells #[.slice s0.a s0.n s0.c,.slice s1.a s1.n s1.c,.slice s2.a s2.n s2.c,.slice s3.a s3.n s3.c] 30)) (Qh:w.heap[Bd]? =some (.cells #[.int .i64 d] 3)) (v: ∀b,b<w0.heap.size->w.heap[b]? =w0.heap[b]?):
  TA ⟨X,B,K⟩ ⟨w0,φ,O0⟩ 101 #[.pointer (some ⟨Bm,0,none⟩),.pointer (some ⟨Bd,0,none⟩)] (r.map fun e=> [e,.any]) (fun b=>b=Bm\/b=Bd) w:=by
 intro l J W0 hg u L h0;have Xb:Bm<w.heap.size:=(ajs.1 IB).1;have Xc:Bd<w.heap.size:=(ajs.1 Qh).1;have aje:=hg.size;rw[List.length_map];have key:=Pg l Bm Bd d (GPh X K (Mu.own ⟨w0,φ,O0⟩) w0.heap.size Bm C d r J) ?grow ?less ?put ?c74 ?c75 ?yield ?fin W0 s0 s1 s2 s3 (fun b=>b=Bm\/b=Bd) (.inl rfl) (.inr rfl) bW ((hg.block _ Xb ajl).trans IB) ((hg.block _ Xc ajl).trans Qh) ?start
 case grow=>
  rintro ph S A B ⟨F,h1,h2,h3,h4,h5⟩ hg;refine⟨_,u.grow _ _ _ _ h1 hg,fun x hx=>hx.imp (h2 x) id,.inl h3,ajB h4 hg.size,h5.move fun b hb Gp E o=> ⟨hg.block b hb ajl,o.imp id .inl⟩⟩
 case less=>
  rintro ph S S' A ⟨F,h1,h2,h3,h4,h5⟩ hS;exact⟨F,h1,fun x hx=>h2 x (hS x hx),h3,h4,h5⟩
 case put=>
  rintro ph S A A' ⟨F,h1,h2,h3,h4,h5⟩ ht;exact⟨F,u.put _ _ _ _ _ h1 h3 ht,h2,h3,by rw[ht.size];exact h4,h5.move fun b hb Gp E o=> ⟨ht.other b Gp,o⟩⟩
 case c74=>
  rintro k b p t1 t2 q S W ⟨F,h1,h2,h3,h4,m,evs,hm,i,JR,j,hM⟩ G;rw[show 200 - k=(200 - (k+1))+1 by omega] at j;obtain⟨c0,a,c2,c3,c4,ok,hc,X7⟩:=Ca j;have hs:=T 644 14 _ _ H hc;have y:=bL.aV (X:=X) (fn:=Tryz.f14) (by rw[t];exact Tryz.func14) ajn rfl hs (by simp[V.al,V.az,jw hm]) rfl (B:=Ban (Mu.own ⟨w0,φ,O0⟩) w0.heap.size Bm F W) (K:=K) (w:=W) (fun b hb=>hb.1) (vals:=[mapVal p t1 t2 q,.int .i64 d,.int .i64 b]) (by simp only[ag,aj];exact⟨hM,trivial,trivial,trivial⟩);rw[t] at y;refine Calls.mono y ?_;rintro e W' ⟨val,rfl,g,Cb⟩;obtain rfl:=aag Cb;refine⟨c0,a,c2,c3,c4,ok,rfl,g,?_⟩;have mv:=fun {ph:Phase} (h5:RPh X K (Mu.own ⟨w0,φ,O0⟩) w0.heap.size Bm C d r ph F W)=>h5.move (F':=fun b=>F b\/(W.heap.size<=b/\b<W'.heap.size)) (W':=W') fun b hb Gp E o=> ⟨g.block b hb ajl,o.imp id .inl⟩;rcases X7 with⟨rfl,rfl⟩ | ⟨rfl,m',s,M,N,z⟩
  .exact .inr ⟨rfl,_,u.grow _ _ _ _ (show J (EH r .done) F W by rw[show EH r .done=k from i];exact h1) g,fun x hx=> .inl (h2 x hx),.inl h3,ajB h4 g.size,trivial⟩
  exact .inl ⟨rfl,_,u.grow _ _ _ _ h1 g,fun x hx=> .inl (h2 x hx),.inl h3,ajB h4 g.size,mv (ph:= .got k p t1 t2 q c0 a c2 c3 c4) ⟨m,evs,m',s,hm,i,G,M,N,z,hM⟩⟩
 case c75=>
  rintro k p t1 t2 q c0 a c2 c3 c4 S W ⟨F,h1,h2,h3,h4,m,evs,m',s,hm,i,G,hc,G9,O,hM⟩;have hs:=T 645 15 _ _ I hc;have y:=bL.aV (X:=X) (fn:=Tryz.f15) (by rw[t];exact Tryz.func15) ajn rfl hs (by simp[V.al,V.az,jw hm,IQ]) (by simp[V.al,V.az,jw G9]) (B:=Ban (Mu.own ⟨w0,φ,O0⟩) w0.heap.size Bm F W) (K:=K) (w:=W) (fun b hb=>hb.1) (vals:=[mapVal p t1 t2 q,JS c0 a c2 c3 c4]) (by simp only[ag];exact⟨hM,TG,trivial⟩);rw[t] at y;refine Calls.mono y ?_;rintro e W' ⟨val,rfl,g,Cb⟩;simp only[aj] at Cb;obtain⟨vs,rfl,ns⟩:=Cb;obtain⟨v1,D,rfl⟩:=Xf ns;obtain⟨u0,u1,u2,u3,rfl⟩:=EF G9 D;refine⟨u0,u1,u2,u3,s,rfl,g,?_⟩;rcases O with⟨rfl,j⟩ | ⟨he,rfl⟩
  .refine .inl ⟨rfl,_,u.grow _ _ _ _ h1 g,fun x hx=> .inl (h2 x hx),.inl h3,ajB h4 g.size,m',evs,G9,i,G,j,?_⟩;refine EG (jw G9) D fun b hb hn=> ⟨rfl,?_⟩;by_cases Q:b<W.heap.size
   .   obtain⟨k1,k0,k2⟩:=M9 Q hn
       exact Gn k1 k0 (k2.imp id .inl)
   exact Gn ajk (fun h=>by have:=Y b h;omega) (.inr (.inr ⟨ajk,hb⟩))
  exact .inr ⟨he,_,u.grow _ _ _ _ (show J (EH r .done) F W by rw[show EH r .done=k from i];exact h1) g,fun x hx=> .inl (h2 x hx),.inl h3,ajB h4 g.size,trivial⟩
 case yield=>
  rintro k c0 a c2 c3 c4 p t1 t2 q S W ⟨F,h1,h2,h3,h4,m,evs,hm,i,G,j,hM⟩;obtain⟨rest,hr⟩:=w9 j;have hx: (r.map fun e=> [e,V.any])[k]? =some [IQ c0 a c2 c3 c4,.any]:=by rw[hr,<-i];simp
  have hy:=L k F W #[JS c0 a c2 c3 c4,mapVal p t1 t2 q] _ hx (fun μ=>by simp only[ag];exact⟨TG,by simp[aj],trivial⟩) h1;rw[show (⟨X,B,K⟩:Ctx).P=Tryz.prog from t] at hy;refine IU hy ?_;rintro e W' ⟨rfl,M,N,z⟩;refine⟨rfl,⟨F,M,h2,h3,?_,?_⟩,fun b hb=>z b (h2 b hb)⟩
  .have:=z Bm h3;rw[ajP h4] at this;exact(ajs.1 this).1
  have h5:RPh X K (Mu.own ⟨w0,φ,O0⟩) w0.heap.size Bm C d r (.head (k+1) a p t1 t2 q) F W:=⟨m,evs++[IQ c0 a c2 c3 c4],hm,by simp[i],ajk,j,hM⟩;exact h5.move fun b hb Gp E o=> ⟨o.elim (fun h=>N b h E) (z b),o⟩
 case fin=>
  rintro b p t1 t2 q S W ⟨F,h1,h2,h3,h4,m,evs,hm,i,JR,j,hM⟩;have:evs=r:=by simpa [iu] using j
  subst this;exact⟨F,by show J _ F W;rw[show EH evs .done=200 from i];exact h1,h2,h3,h4,trivial⟩
 case start=>
  refine⟨_,h0,fun x hx=>hx,.inl rfl,ajk,m,[],hm,rfl,ajk,U,?_⟩;refine aj.move (μ:=⟨w0,φ,O0⟩) (μ':=⟨W0,B8,kj⟩) (fun b hb hn=> ⟨(hg.block b (by have:=(ajs.1 IB).1;have:b<w0.heap.size:=hb;omega) ajl).trans (v b hb),fun h=> ?_⟩) (jw hm) hv;have ke:b<w0.heap.size:=hb;exact Gn ajk (fun h=>hn (.inl h)) (.inl ke) (IT.1 h)
 rw[show (⟨X,B,K⟩:Ctx).P=Tryz.prog from t];refine CallsIn.mono (callsIn_wide.2 (callsIn_wide.1 key):CallsIn (Fr none) 0 Tryz.prog 101 _ W0 _) ?_;rintro e W' ⟨hv,S,F,R,_⟩;exact⟨hv,F,R⟩
end Go.AM
