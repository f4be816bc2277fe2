/- Texts of the proof. -/
import Derived.Test.YtdifmldbllaeiaaGreatGak
import Derived.KernelRfl
set_option maxRecDepth 20000
set_option maxHeartbeats 4000000
set_option linter.unusedSimpArgs false
set_option linter.unusedVariables false
namespace Go.AM
open Dr (bZ fU ni fD qK)
theorem Wq {d:Int} {m:aB} (o9:qK m) (hn:m.Nd) {M M':aB} {evs:List an} (h:Se d M evs M'):lP d m M-> ∀ {Y:aB},wR m Y->ez d M Y->
   ∃Y',zV d Y evs Y'/\lP d m M'/\wR m Y'/\ez d M' Y'/\ ∀d',d'≠d-> ∀Z,ez d' Z Y->ez d' Z Y':=by
 induction h with
 | nil=>exact fun hM Y hY hA=> ⟨Y,.nil,hM,hY,hA,fun _ _ _ h=>h⟩
 | @cons M M1 M' e es ha hi ht hs h k=>
   intro hM Y hY hA;obtain⟨g,b⟩:=lP.o9 o9 hn hM hY hA ha hi;obtain⟨Y1,l,i⟩:=X9 hY.bd g ht.2;obtain⟨f,a,f1,f2⟩:=hs.facts hM.c.nd;obtain⟨s,a',j,n⟩:=i.facts hY.nd;have b1:=hs.bd hM.c.bd;have o:=i.bd hY.bd;subst f2 n;obtain⟨Y',p,q,g3,g4,g5⟩:=k (hM.step hn f1 hi.at b1) (hY.step j b.at o) (hA.same hM.c.nd hY.nd f1 j hi.at);exact⟨Y',.cons b i l p,q,g3,g4,fun d' hd Z r=>g5 d' hd Z (r.other hY.nd j b.at hd)⟩
theorem KV.run {m:aB} (hb:m.Bd) {d:Int} {evs:List an} (h:KV m d evs) (k:Nat): ∃M,Se d m (evs.take k) M:=by obtain⟨m',b',_,hc,_⟩:=h;exact hc.run.take k
theorem Ii {m:aB} (o9:qK m) (hn:m.Nd) (hb:m.Bd) (dn:dP->Nat): ∀ (l:List dP) {Y:aB},wR m Y->(l.map dP.aC).Nodup->(∀h ∈ l,ez h.aC m Y/\KV m h.aC h.evs)->
   ∃Y',zW dn Y l Y'/\wR m Y'/\(∀h ∈ l,∃M,Se h.aC m (h.evs.take (dn h)) M/\lP h.aC m M/\ez h.aC M Y')/\ ∀d',d' ∉ l.map dP.aC-> ∀Z,ez d' Z Y->ez d' Z Y'
 | [],Y,hY,_,_=> ⟨Y,.nil,hY,ajl,fun _ _ _ h=>h⟩
 | h::l,Y,hY,hd,hh=>by
   rw[List.map_cons,ako] at hd;obtain⟨hA,c⟩:=hh h akv;obtain⟨M,hM⟩:=c.run hb (dn h);obtain⟨Y1,d,f,g,i,b⟩:=Wq o9 hn hM (.refl _ hn hb) hY hA;obtain⟨Y',j,k,g3,g4⟩:=Ii o9 hn hb dn l g hd.2 fun x hx=>by have n:x.aC≠h.aC:=fun e=>hd.1 (e ▸ alk hx);obtain⟨x1,x2⟩:=hh x (aka _ hx);exact⟨b _ n _ x1,x2⟩
   refine⟨Y',.cons d j,k,fun x hx=> ?_,fun d' a Z o=> ?_⟩
   .rcases ajy.1 hx with rfl| hx
    .exact⟨M,hM,f,g4 _ hd.1 _ i⟩
    exact g3 x hx
   rw[List.map_cons,ajy,not_or] at a;exact g4 d' a.2 Z (b d' a.1 Z o)
structure nn (m M:aB):Prop where
 f: ∀x ∈ m.ak,x.name≠[]-> ∃y ∈ M.ak,y.name=x.name/\y.aC=x.aC
 w: ∀x ∈ m.aF,x.name≠[]-> ∃y ∈ M.aF,y.name=x.name/\y.aC=x.aC
 p: ∀x ∈ m.ar,x.name≠[]-> ∃y ∈ M.ar,y.name=x.name/\y.aC=x.aC
theorem nn.refl (m:aB):nn m m:=⟨fun x h _=> ⟨x,h,rfl,rfl⟩,fun x h _=> ⟨x,h,rfl,rfl⟩,fun x h _=> ⟨x,h,rfl,rfl⟩⟩
theorem nn.trans {a b c:aB} (h:nn a b) (k:nn b c):nn a c:=by
 refine⟨fun x hx hn=> ?_,fun x hx hn=> ?_,fun x hx hn=> ?_⟩
 .obtain⟨y,e,d,g⟩:=h.f x hx hn;obtain⟨z,i,j,l⟩:=k.f y e (by rw[d];exact hn);exact⟨z,i,j.trans d,l.trans g⟩
 .obtain⟨y,e,d,g⟩:=h.w x hx hn;obtain⟨z,i,j,l⟩:=k.w y e (by rw[d];exact hn);exact⟨z,i,j.trans d,l.trans g⟩
 obtain⟨y,e,d,g⟩:=h.p x hx hn;obtain⟨z,i,j,l⟩:=k.p y e (by rw[d];exact hn);exact⟨z,i,j.trans d,l.trans g⟩
theorem wT {a b n:uS} (h:a=[]\/b=[]\/a=b) (hn:a=n\/b=n) (h0:n≠[]):U1 b a=n:=by
 unfold U1;split
 .rename_i hb;rcases hn with hn| hn
  .exact hn
  exact absurd (hn ▸ hb) h0
 rename_i hb;rcases hn with hn| hn
 .rcases h with h| h| h
  .exact absurd (hn ▸ h) h0
  .exact absurd h hb
  rw[<-h];exact hn
 exact hn
theorem Step.kept {m M:aB} {e:an} (hb:m.Bd) (hn:m.Nd) (h:Step m e M):nn m M:=by
 obtain⟨f,a,o,rfl⟩:=h.facts hn;refine⟨fun x hx h0=> ?_,fun x hx h0=> ?_,fun x hx h0=> ?_⟩
 .suffices hh: ∃y ∈ m.ak,∃z,uF e f y=some z/\z.name=x.name/\z.aC=x.aC by obtain⟨y,b,z,j,l,n⟩:=hh;exact⟨z,akw.2 ⟨y,b,j⟩,l,n⟩
  by_cases k:e.kind=2
  .obtain⟨q,r,s,g,c,d,g3,_,g4⟩:=o.two k;have hg:uF e f g=some (uf g f):=by unfold uF;rw[if_pos k,if_neg (by rw[d];exact fun h=>s h.symm),if_pos d]
   by_cases h1:x.id=e.id
   .obtain rfl:x=f:=cH hn.f hx q (h1.trans r.symm);exact⟨g,c,_,hg,wT g4 (.inl rfl) h0,g3.symm⟩
   by_cases h2:x.id=e.other
   .obtain rfl:x=g:=cH hn.f hx c (h2.trans d.symm);exact⟨x,c,_,hg,wT g4 (.inr rfl) h0,rfl⟩
   exact⟨x,hx,x,by unfold uF;rw[if_pos k,if_neg h1,if_neg h2],rfl,rfl⟩
  exact⟨x,hx,x,by unfold uF;rw[if_neg k],rfl,rfl⟩
 .suffices hh: ∃y ∈ m.aF,uW e y=some y/\y.name=x.name/\y.aC=x.aC by obtain⟨y,b,j,l,n⟩:=hh;exact⟨y,akw.2 ⟨y,b,j⟩,l,n⟩
  by_cases k:e.kind=3
  .by_cases h1:x.id=e.id
   .obtain⟨w,A,u,w3⟩:=o.three k;obtain rfl:x=w:=cH hn.w hx A (h1.trans u.symm);obtain⟨H,B⟩:=skJ;obtain⟨i,hi⟩:=ajH hx;rw[<-u] at w3;obtain⟨_,_,t⟩:=Eh hb (ky hn.w hi) hi B w3;have t:=t.resolve_left h0
    suffices hh: ∃y ∈ m.aF,y.id≠x.id/\(x.aC=y.aC/\x.name=y.name) by obtain⟨y,b,C,D,E⟩:=hh;exact⟨y,b,by unfold uW;rw[if_pos k,if_neg (by rw[<-u];exact C)],E.symm,D.symm⟩
    apply akJ;intro F;have G:fG x.aC x.name m.aF<=m.aF.countP fun y=>decide (y.id=x.id):=by
     unfold fG;refine List.countP_mono_left fun y hy hp=> ?_;have hp:=of_decide_eq_true hp;by_cases v:y.id=x.id
     .exact decide_eq_true v
     exact absurd ⟨y,hy,v,hp⟩ F
    have Df: (m.aF.countP fun y=>decide (y.id=x.id))<=1:=by have:=List.nodup_iff_count.1 hn.w x.id;rw[List.count_eq_countP,List.countP_map] at this;refine ajQ (Nat.le_of_eq (List.countP_congr fun y _=> ?_)) this;simp
    omega
   exact⟨x,hx,by unfold uW;rw[if_pos k,if_neg h1],rfl,rfl⟩
  exact⟨x,hx,by unfold uW;rw[if_neg k],rfl,rfl⟩
 suffices hh: ∃y ∈ m.ar,∃z,uP e a y=some z/\z.name=x.name/\z.aC=x.aC by obtain⟨y,b,z,j,l,n⟩:=hh;exact⟨z,akw.2 ⟨y,b,j⟩,l,n⟩
 by_cases k:e.kind=4
 .obtain⟨q,r,s,g,c,d,g3,g4⟩:=o.four k;have hg:uP e a g=some (lH a g):=by unfold uP;rw[if_pos k,if_neg (by rw[d];exact fun h=>s h.symm),if_pos d]
  by_cases h1:x.id=e.id
  .obtain rfl:x=a:=cH hn.p hx q (h1.trans r.symm);exact⟨g,c,_,hg,wT g4 (.inl rfl) h0,g3.symm⟩
  by_cases h2:x.id=e.other
  .obtain rfl:x=g:=cH hn.p hx c (h2.trans d.symm);exact⟨x,c,_,hg,wT g4 (.inr rfl) h0,rfl⟩
  exact⟨x,hx,x,by unfold uP;rw[if_pos k,if_neg h1,if_neg h2],rfl,rfl⟩
 exact⟨x,hx,x,by unfold uP;rw[if_neg k],rfl,rfl⟩
theorem zV.kept {d:Int} {m M:aB} {evs:List an} (h:zV d m evs M):m.Bd->m.Nd->nn m M/\M.Bd/\M.Nd:=by
 induction h with
 | nil=>exact fun h k=> ⟨.refl _,h,k⟩
 | @cons m M m' e es hi hs he h b=>
   intro hb hn;have c:M.Nd:=by obtain⟨f,a,_,rfl⟩:=hs.facts hn;exact FW hn
   obtain⟨g,i,j⟩:=b (hs.bd hb) c;exact⟨(hs.kept hb hn).trans g,i,j⟩
theorem zW.kept {dn:dP->Nat} {m M:aB} {l:List dP} (h:zW dn m l M):m.Bd->m.Nd->nn m M/\M.Bd/\M.Nd:=by
 induction h with
 | nil=>exact fun h k=> ⟨.refl _,h,k⟩
 | @cons m M m' h l hr hl a=>
   intro hb hn;obtain⟨b,c,d⟩:=hr.kept hb hn;obtain⟨e,f,g3⟩:=a c d;exact⟨b.trans e,f,g3⟩
end Go.AM
namespace Go.AM
theorem BW {E:Env}: ∀ {a b:List bN} {σ:St} {Q:List dU->St->Prop},p8 E a σ (fun fs σ'=>p8 E b σ' fun c σ''=>Q (fs++c) σ'')->p8 E (a++b) σ Q
 | [],_,_,_,h=>by simpa [p8] using h
 | o::a,_,_,_,h=>by simp only[ajK,p8] at h ⊢;exact pd h fun v σ' r w d=>BW d
inductive FX (F:List dU) (S1:SS) (fs:List dU) (S:SS):Prop
 | mk (h:fs=F) (k:S1.Sub S)
def WX (E:Env) (os:List bN) (S:SS) (F:List dU) (S1:SS):Prop:= ∀σ,S.On σ->p8 E os σ fun fs σ'=>fs=F/\S1.On σ'
theorem WX.of {E:Env} {os:List bN} {S S1:SS} {F:List dU} (h:Hk E os S (FX F S1)):WX E os S F S1:=fun σ a=>by refine jL (mR h a) ?_;rintro fs σ' ⟨S',h1,⟨h2,h3⟩⟩;exact⟨h2,h3.on h1⟩
theorem WX.ofe {E:Env} {os:List bN} {S S1:SS} {F:List dU} (h:Hk E os S fun fs S'=>fs=F/\S'=S1):WX E os S F S1:=fun σ a=>by refine jL (mR h a) ?_;rintro fs σ' ⟨S',h1,h2,rfl⟩;exact⟨h2,h1⟩
theorem WX.cut {E:Env} {a b:List bN} {S S1 S2:SS} {F F2:List dU} (h1:WX E a S F S1) (h2:WX E b S1 F2 S2):WX E (a++b) S (F++F2) S2:=fun σ c=>by refine BW (jL (h1 σ c) ?_);rintro fs σ' ⟨rfl,h4⟩;refine jL (h2 σ' h4) ?_;rintro d σ'' ⟨rfl,h5⟩;exact⟨rfl,h5⟩
theorem WX.ZF {E:Env} (n:Nat) {os:List bN} {S S1 S2:SS} {F F2:List dU} (h1:WX E (os.take n) S F S1) (h2:WX E (os.drop n) S1 F2 S2):WX E os S (F++F2) S2:=by rw[<-List.take_append_drop n os];exact WX.cut h1 h2
theorem WS.ZG {E:Env} {id:Nat} {ops:List bN} {c:a8} {S S1:SS} {Q:aW->SS->Prop} {F:List dU} (h:WX E ops S F S1) (hc:UX (ops.map (·.pre)) [] [] F=true) (h2:WS E c S1 Q):WS E (.seq (.block id (.drawn ops)) c) S Q:=fun σ a=>by rw[E9,DD];refine vG (jL (h σ a) ?_);rintro fs σ' ⟨rfl,h4⟩;exact⟨hc,h2 σ' h4⟩
abbrev RN (os:List bN) (S S1:SS):Prop:= ∃F,WX E os S F S1/\UX (os.map (·.pre)) [] [] F=true
theorem rx {p:Prop} (h:p:=by
 apply Exists.intro;apply And.intro
 .apply WX.ZF 8
  .apply WX.ofe
   (conv=>whnf);repeat' ((first| intro g| refine wi (by first| assumption| exact aw (by assumption) rfl) ?_| refine st ?_| rfl) <;>conv=>whnf)
   exact⟨rfl,rfl⟩
  apply WX.ZF 8
  .apply WX.ofe
   (conv=>whnf);repeat' ((first| intro g| refine wi (by first| assumption| exact aw (by assumption) rfl) ?_| refine st ?_| rfl) <;>conv=>whnf)
   exact⟨rfl,rfl⟩
  apply WX.ZF 6
  .       apply WX.ofe
          (conv=>whnf);repeat' ((first| intro g| refine wi (by first| assumption| exact aw (by assumption) rfl) ?_| refine st ?_| rfl) <;>conv=>whnf)
          exact⟨rfl,rfl⟩
  apply WX.of
  (conv=>whnf);repeat' ((first| intro g| refine wi (by first| assumption| exact aw (by assumption) rfl) ?_| refine st ?_| rfl) <;>conv=>whnf)
  exact FX.mk rfl su
 .kernel_rfl):p:=h
def yp (x:aP) (l:List aP):Bool:=decide (x.name=[]) || l.any fun y=>decide (y.name=x.name/\y.aC=x.aC)
theorem OM (x:aP) (l:List aP) (y:aP):yp x (l++[y])=(yp x l || decide (y.name=x.name/\y.aC=x.aC)):=by unfold yp;rw[List.any_append,List.any_cons,List.any_nil,Bool.or_false,Bool.or_assoc]
theorem ON {m Y:aB} (h:nn m Y) {x:aP} (hx:x ∈ m.ak):yp x Y.ak=true:=by
 unfold yp;by_cases hn:x.name=[]
 .rw[decide_eq_true hn,Bool.true_or]
 obtain⟨y,a,b,c⟩:=h.f x hx hn;rw[akD];exact .inr (akG.2 ⟨y,a,decide_eq_true ⟨b,c⟩⟩)
def Sw:List bN:=match y5 1 Vx with
 | .seq (.block _ (.drawn ops)) _=>ops
 | _=> []
abbrev Qb (m Y:aB) (g6 g7 i k:Nat) (l:List (Nat×V)):SS:=⟨l++[(5,.bool true),(6,.ptr 112 g6 0 0),(7,.ptr 128 g7 0 0),(9,au i),(11,au k)],[(112,⟨g6,4,false,false,some [m.v]⟩),(128,⟨g7,4,false,false,some [Y.v]⟩)]⟩
theorem ZH {m Y:aB} {g6 g7 i k:Nat} {x y:aP} (hm:m.ak.length< 1000000) (hY:Y.ak.length< 1000000) (hx:m.ak[i]? =some x) (hy:Y.ak[k]? =some y):RN Sw (Qb m Y g6 g7 i k [(10,.bool true)]) (Qb m Y g6 g7 i k [(10,.bool true)]):=rx
theorem ZI {m Y:aB} {g6 g7 i k:Nat} {x y:aP} (hm:m.ak.length< 1000000) (hY:Y.ak.length< 1000000) (hx:m.ak[i]? =some x) (hy:Y.ak[k]? =some y) (h1: ¬y.name=x.name):RN Sw (Qb m Y g6 g7 i k [(10,.bool false)]) (Qb m Y g6 g7 i k [(10,.bool false)]):=rx
theorem ZJ {m Y:aB} {g6 g7 i k:Nat} {x y:aP} (hm:m.ak.length< 1000000) (hY:Y.ak.length< 1000000) (hx:m.ak[i]? =some x) (hy:Y.ak[k]? =some y) (h1:y.name=x.name) (h2: ¬y.aC=x.aC):RN Sw (Qb m Y g6 g7 i k [(10,.bool false)]) (Qb m Y g6 g7 i k [(10,.bool false)]):=rx
theorem ZK {m Y:aB} {g6 g7 i k:Nat} {x y:aP} (hm:m.ak.length< 1000000) (hY:Y.ak.length< 1000000) (hx:m.ak[i]? =some x) (hy:Y.ak[k]? =some y) (h1:y.name=x.name) (h2:y.aC=x.aC):RN Sw (Qb m Y g6 g7 i k [(10,.bool false)]) (Qb m Y g6 g7 i k [(10,.bool true)]):=rx
theorem ahI {m Y:aB} {g6 g7 i k:Nat} {x y:aP} (hm:m.ak.length< 1000000) (hY:Y.ak.length< 1000000) (hx:m.ak[i]? =some x) (hy:Y.ak[k]? =some y) (b:Bool):RN Sw (Qb m Y g6 g7 i k [(10,.bool b)]) (Qb m Y g6 g7 i k [(10,.bool (b || decide (y.name=x.name/\y.aC=x.aC)))]):=by
 cases b
 .rw[Bool.false_or];by_cases h1:y.name=x.name
  .by_cases h2:y.aC=x.aC
   .rw[decide_eq_true ⟨h1,h2⟩];exact ZK hm hY hx hy h1 h2
   rw[decide_eq_false (fun e=>h2 e.2)];exact ZJ hm hY hx hy h1 h2
  rw[decide_eq_false (fun e=>h1 e.1)];exact ZI hm hY hx hy h1
 exact ZH hm hY hx hy
theorem ZL {m Y:aB} (c:nn m Y) (hm:m.ak.length< 1000000) (hY:Y.ak.length< 1000000) {g6 g7:Nat} (S:SS)
  (f:SS.Sub ⟨[(5,.bool true),(6,.ptr 112 g6 0 0),(7,.ptr 128 g7 0 0),(9,au 0)],[(112,⟨g6,4,false,false,some [m.v]⟩),(128,⟨g7,4,false,false,some [Y.v]⟩)]⟩ S) (Q:aW->SS->Prop)
  (h:Q (.exit 0) ⟨[(5,.bool true),(6,.ptr 112 g6 0 0),(7,.ptr 128 g7 0 0)],[(112,⟨g6,4,false,false,some [m.v]⟩),(128,⟨g7,4,false,false,some [Y.v]⟩)]⟩):aO E Vy S Q:=by
 refine aO.NK ?_;refine aO.by (fun (i:Nat)=> ⟨[(5,.bool true),(6,.ptr 112 g6 0 0),(7,.ptr 128 g7 0 0),(9,au i)],[(112,⟨g6,4,false,false,some [m.v]⟩),(128,⟨g7,4,false,false,some [Y.v]⟩)]⟩)
  (fun i=>i<=m.ak.length) (fun i=>m.ak.length - i) 0 f ajk ?_
 intro i hi;by_cases j:i<m.ak.length
 case neg=>
  conv=>whnf
  repeat' (first| intro g| refine st ?_| refine br ?_ ?_<;>intro hc| rfl) <;>conv=>whnf
  refine⟨_,?_,h⟩;exact su
 obtain⟨x,hx⟩: ∃x,m.ak[i]? =some x:=⟨_,aM j⟩;have e:=ON c (List.mem_of_getElem? hx);have Ij:yp x (Y.ak.take 0)=decide (x.name=[]):=by unfold yp;simp
 clear c;conv=>whnf
 repeat' (first| intro g| refine wi (aw hx rfl) ?_| refine st ?_| refine br ?_ ?_<;>intro hc| rfl) <;>conv=>whnf
 refine aO.ws (fun (k:Nat)=>Qb m Y g6 g7 i k [(10,.bool (yp x (Y.ak.take k)))])
  (fun k=>k<=Y.ak.length) (fun k=>Y.ak.length - k) 0 (by rw[Ij];exact su) ajk ?_
 intro k c;by_cases FZ:k<Y.ak.length
 case neg=>
  obtain rfl:k=Y.ak.length:=ajk;rw[akd,e];refine WS.of ?_;conv=>whnf
  repeat' (first| intro g| refine st ?_| refine br ?_ ?_<;>intro hc| rfl) <;>conv=>whnf
  exact aR.mk (i+1) om ajk su
 obtain⟨y,hy⟩: ∃x,Y.ak[k]? =some x:=⟨_,aM FZ⟩;have hs:yp x (Y.ak.take (k+1))=(yp x (Y.ak.take k) || decide (y.name=x.name/\y.aC=x.aC)):=by rw[mF hy,OM]
 obtain⟨F,a,d⟩:=ahI (g6:=g6) (g7:=g7) hm hY hx hy (yp x (Y.ak.take k));rw[<-hs] at a;clear hs e Ij;refine WS.cut 1 (fun _:Unit=>Qb m Y g6 g7 i k [(10,.bool (yp x (Y.ak.take k)))]) (fun _=>True) (by
  generalize yp x (Y.ak.take k)=b;clear a d;conv=>whnf
  repeat' (first| intro g| refine st ?_| refine br ?_ ?_<;>intro hc| rfl) <;>conv=>whnf
  exact uQ.mk () trivial su) fun _ _=> ?_
 refine WS.ZG a d (WS.of ?_);clear a d;conv=>whnf
 repeat' (first| intro g| refine st ?_| refine br ?_ ?_<;>intro hc| rfl) <;>conv=>whnf
 exact aR.mk (k+1) om ajk su
def yq (x:bH) (l:List bH):Bool:=decide (x.name=[]) || l.any fun y=>decide (y.name=x.name/\y.aC=x.aC)
theorem OO (x:bH) (l:List bH) (y:bH):yq x (l++[y])=(yq x l || decide (y.name=x.name/\y.aC=x.aC)):=by unfold yq;rw[List.any_append,List.any_cons,List.any_nil,Bool.or_false,Bool.or_assoc]
theorem OP {m Y:aB} (h:nn m Y) {x:bH} (hx:x ∈ m.aF):yq x Y.aF=true:=by
 unfold yq;by_cases hn:x.name=[]
 .rw[decide_eq_true hn,Bool.true_or]
 obtain⟨y,a,b,c⟩:=h.w x hx hn;rw[akD];exact .inr (akG.2 ⟨y,a,decide_eq_true ⟨b,c⟩⟩)
def Sx:List bN:=match y5 1 Vz with
 | .seq (.block _ (.drawn ops)) _=>ops
 | _=> []
abbrev Qc (m Y:aB) (g6 g7 i k:Nat) (l:List (Nat×V)):SS:=⟨l++[(5,.bool true),(6,.ptr 112 g6 0 0),(7,.ptr 128 g7 0 0),(12,au i),(14,au k)],[(112,⟨g6,4,false,false,some [m.v]⟩),(128,⟨g7,4,false,false,some [Y.v]⟩)]⟩
theorem ZM {m Y:aB} {g6 g7 i k:Nat} {x y:bH} (hm:m.aF.length< 1000000) (hY:Y.aF.length< 1000000) (hx:m.aF[i]? =some x) (hy:Y.aF[k]? =some y):RN Sx (Qc m Y g6 g7 i k [(13,.bool true)]) (Qc m Y g6 g7 i k [(13,.bool true)]):=rx
theorem ZN {m Y:aB} {g6 g7 i k:Nat} {x y:bH} (hm:m.aF.length< 1000000) (hY:Y.aF.length< 1000000) (hx:m.aF[i]? =some x) (hy:Y.aF[k]? =some y) (h1: ¬y.name=x.name):RN Sx (Qc m Y g6 g7 i k [(13,.bool false)]) (Qc m Y g6 g7 i k [(13,.bool false)]):=rx
theorem ZO {m Y:aB} {g6 g7 i k:Nat} {x y:bH} (hm:m.aF.length< 1000000) (hY:Y.aF.length< 1000000) (hx:m.aF[i]? =some x) (hy:Y.aF[k]? =some y) (h1:y.name=x.name) (h2: ¬y.aC=x.aC):RN Sx (Qc m Y g6 g7 i k [(13,.bool false)]) (Qc m Y g6 g7 i k [(13,.bool false)]):=rx
theorem ZP {m Y:aB} {g6 g7 i k:Nat} {x y:bH} (hm:m.aF.length< 1000000) (hY:Y.aF.length< 1000000) (hx:m.aF[i]? =some x) (hy:Y.aF[k]? =some y) (h1:y.name=x.name) (h2:y.aC=x.aC):RN Sx (Qc m Y g6 g7 i k [(13,.bool false)]) (Qc m Y g6 g7 i k [(13,.bool true)]):=rx
theorem ahJ {m Y:aB} {g6 g7 i k:Nat} {x y:bH} (hm:m.aF.length< 1000000) (hY:Y.aF.length< 1000000) (hx:m.aF[i]? =some x) (hy:Y.aF[k]? =some y) (b:Bool):RN Sx (Qc m Y g6 g7 i k [(13,.bool b)]) (Qc m Y g6 g7 i k [(13,.bool (b || decide (y.name=x.name/\y.aC=x.aC)))]):=by
 cases b
 .rw[Bool.false_or];by_cases h1:y.name=x.name
  .by_cases h2:y.aC=x.aC
   .rw[decide_eq_true ⟨h1,h2⟩];exact ZP hm hY hx hy h1 h2
   rw[decide_eq_false (fun e=>h2 e.2)];exact ZO hm hY hx hy h1 h2
  rw[decide_eq_false (fun e=>h1 e.1)];exact ZN hm hY hx hy h1
 exact ZM hm hY hx hy
theorem ZQ {m Y:aB} (c:nn m Y) (hm:m.aF.length< 1000000) (hY:Y.aF.length< 1000000) {g6 g7:Nat} (S:SS)
  (f:SS.Sub ⟨[(5,.bool true),(6,.ptr 112 g6 0 0),(7,.ptr 128 g7 0 0),(12,au 0)],[(112,⟨g6,4,false,false,some [m.v]⟩),(128,⟨g7,4,false,false,some [Y.v]⟩)]⟩ S) (Q:aW->SS->Prop)
  (h:Q (.exit 4) ⟨[(5,.bool true),(6,.ptr 112 g6 0 0),(7,.ptr 128 g7 0 0)],[(112,⟨g6,4,false,false,some [m.v]⟩),(128,⟨g7,4,false,false,some [Y.v]⟩)]⟩):aO E VA S Q:=by
 refine aO.NK ?_;refine aO.by (fun (i:Nat)=> ⟨[(5,.bool true),(6,.ptr 112 g6 0 0),(7,.ptr 128 g7 0 0),(12,au i)],[(112,⟨g6,4,false,false,some [m.v]⟩),(128,⟨g7,4,false,false,some [Y.v]⟩)]⟩)
  (fun i=>i<=m.aF.length) (fun i=>m.aF.length - i) 0 f ajk ?_
 intro i hi;by_cases j:i<m.aF.length
 case neg=>
  conv=>whnf
  repeat' (first| intro g| refine st ?_| refine br ?_ ?_<;>intro hc| rfl) <;>conv=>whnf
  refine⟨_,?_,h⟩;exact su
 obtain⟨x,hx⟩: ∃x,m.aF[i]? =some x:=⟨_,aM j⟩;have e:=OP c (List.mem_of_getElem? hx);have Ij:yq x (Y.aF.take 0)=decide (x.name=[]):=by unfold yq;simp
 clear c;conv=>whnf
 repeat' (first| intro g| refine wi (aw hx rfl) ?_| refine st ?_| refine br ?_ ?_<;>intro hc| rfl) <;>conv=>whnf
 refine aO.ws (fun (k:Nat)=>Qc m Y g6 g7 i k [(13,.bool (yq x (Y.aF.take k)))])
  (fun k=>k<=Y.aF.length) (fun k=>Y.aF.length - k) 0 (by rw[Ij];exact su) ajk ?_
 intro k c;by_cases FZ:k<Y.aF.length
 case neg=>
  obtain rfl:k=Y.aF.length:=ajk;rw[akd,e];refine WS.of ?_;conv=>whnf
  repeat' (first| intro g| refine st ?_| refine br ?_ ?_<;>intro hc| rfl) <;>conv=>whnf
  exact aR.mk (i+1) om ajk su
 obtain⟨y,hy⟩: ∃x,Y.aF[k]? =some x:=⟨_,aM FZ⟩;have hs:yq x (Y.aF.take (k+1))=(yq x (Y.aF.take k) || decide (y.name=x.name/\y.aC=x.aC)):=by rw[mF hy,OO]
 obtain⟨F,a,d⟩:=ahJ (g6:=g6) (g7:=g7) hm hY hx hy (yq x (Y.aF.take k));rw[<-hs] at a;clear hs e Ij;refine WS.cut 1 (fun _:Unit=>Qc m Y g6 g7 i k [(13,.bool (yq x (Y.aF.take k)))]) (fun _=>True) (by
  generalize yq x (Y.aF.take k)=b;clear a d;conv=>whnf
  repeat' (first| intro g| refine st ?_| refine br ?_ ?_<;>intro hc| rfl) <;>conv=>whnf
  exact uQ.mk () trivial su) fun _ _=> ?_
 refine WS.ZG a d (WS.of ?_);clear a d;conv=>whnf
 repeat' (first| intro g| refine st ?_| refine br ?_ ?_<;>intro hc| rfl) <;>conv=>whnf
 exact aR.mk (k+1) om ajk su
def yr (x:aI) (l:List aI):Bool:=decide (x.name=[]) || l.any fun y=>decide (y.name=x.name/\y.aC=x.aC)
theorem OQ (x:aI) (l:List aI) (y:aI):yr x (l++[y])=(yr x l || decide (y.name=x.name/\y.aC=x.aC)):=by unfold yr;rw[List.any_append,List.any_cons,List.any_nil,Bool.or_false,Bool.or_assoc]
theorem OR {m Y:aB} (h:nn m Y) {x:aI} (hx:x ∈ m.ar):yr x Y.ar=true:=by
 unfold yr;by_cases hn:x.name=[]
 .rw[decide_eq_true hn,Bool.true_or]
 obtain⟨y,a,b,c⟩:=h.p x hx hn;rw[akD];exact .inr (akG.2 ⟨y,a,decide_eq_true ⟨b,c⟩⟩)
def Sy:List bN:=match y5 1 VB with
 | .seq (.block _ (.drawn ops)) _=>ops
 | _=> []
abbrev Qd (m Y:aB) (g6 g7 i k:Nat) (l:List (Nat×V)):SS:=⟨l++[(5,.bool true),(6,.ptr 112 g6 0 0),(7,.ptr 128 g7 0 0),(15,au i),(17,au k)],[(112,⟨g6,4,false,false,some [m.v]⟩),(128,⟨g7,4,false,false,some [Y.v]⟩)]⟩
theorem ZR {m Y:aB} {g6 g7 i k:Nat} {x y:aI} (hm:m.ar.length< 1000000) (hY:Y.ar.length< 1000000) (hx:m.ar[i]? =some x) (hy:Y.ar[k]? =some y):RN Sy (Qd m Y g6 g7 i k [(16,.bool true)]) (Qd m Y g6 g7 i k [(16,.bool true)]):=rx
theorem ZS {m Y:aB} {g6 g7 i k:Nat} {x y:aI} (hm:m.ar.length< 1000000) (hY:Y.ar.length< 1000000) (hx:m.ar[i]? =some x) (hy:Y.ar[k]? =some y) (h1: ¬y.name=x.name):RN Sy (Qd m Y g6 g7 i k [(16,.bool false)]) (Qd m Y g6 g7 i k [(16,.bool false)]):=rx
theorem ZT {m Y:aB} {g6 g7 i k:Nat} {x y:aI} (hm:m.ar.length< 1000000) (hY:Y.ar.length< 1000000) (hx:m.ar[i]? =some x) (hy:Y.ar[k]? =some y) (h1:y.name=x.name) (h2: ¬y.aC=x.aC):RN Sy (Qd m Y g6 g7 i k [(16,.bool false)]) (Qd m Y g6 g7 i k [(16,.bool false)]):=rx
theorem ZU {m Y:aB} {g6 g7 i k:Nat} {x y:aI} (hm:m.ar.length< 1000000) (hY:Y.ar.length< 1000000) (hx:m.ar[i]? =some x) (hy:Y.ar[k]? =some y) (h1:y.name=x.name) (h2:y.aC=x.aC):RN Sy (Qd m Y g6 g7 i k [(16,.bool false)]) (Qd m Y g6 g7 i k [(16,.bool true)]):=rx
theorem ahK {m Y:aB} {g6 g7 i k:Nat} {x y:aI} (hm:m.ar.length< 1000000) (hY:Y.ar.length< 1000000) (hx:m.ar[i]? =some x) (hy:Y.ar[k]? =some y) (b:Bool):RN Sy (Qd m Y g6 g7 i k [(16,.bool b)]) (Qd m Y g6 g7 i k [(16,.bool (b || decide (y.name=x.name/\y.aC=x.aC)))]):=by
 cases b
 .rw[Bool.false_or];by_cases h1:y.name=x.name
  .by_cases h2:y.aC=x.aC
   .rw[decide_eq_true ⟨h1,h2⟩];exact ZU hm hY hx hy h1 h2
   rw[decide_eq_false (fun e=>h2 e.2)];exact ZT hm hY hx hy h1 h2
  rw[decide_eq_false (fun e=>h1 e.1)];exact ZS hm hY hx hy h1
 exact ZR hm hY hx hy
theorem ZV {m Y:aB} (c:nn m Y) (hm:m.ar.length< 1000000) (hY:Y.ar.length< 1000000) {g6 g7:Nat} (S:SS)
  (f:SS.Sub ⟨[(5,.bool true),(6,.ptr 112 g6 0 0),(7,.ptr 128 g7 0 0),(15,au 0)],[(112,⟨g6,4,false,false,some [m.v]⟩),(128,⟨g7,4,false,false,some [Y.v]⟩)]⟩ S) (Q:aW->SS->Prop)
  (h:Q (.exit 8) ⟨[(5,.bool true),(6,.ptr 112 g6 0 0),(7,.ptr 128 g7 0 0)],[(112,⟨g6,4,false,false,some [m.v]⟩),(128,⟨g7,4,false,false,some [Y.v]⟩)]⟩):aO E VC S Q:=by
 refine aO.NK ?_;refine aO.by (fun (i:Nat)=> ⟨[(5,.bool true),(6,.ptr 112 g6 0 0),(7,.ptr 128 g7 0 0),(15,au i)],[(112,⟨g6,4,false,false,some [m.v]⟩),(128,⟨g7,4,false,false,some [Y.v]⟩)]⟩)
  (fun i=>i<=m.ar.length) (fun i=>m.ar.length - i) 0 f ajk ?_
 intro i hi;by_cases j:i<m.ar.length
 case neg=>
  conv=>whnf
  repeat' (first| intro g| refine st ?_| refine br ?_ ?_<;>intro hc| rfl) <;>conv=>whnf
  refine⟨_,?_,h⟩;exact su
 obtain⟨x,hx⟩: ∃x,m.ar[i]? =some x:=⟨_,aM j⟩;have e:=OR c (List.mem_of_getElem? hx);have Ij:yr x (Y.ar.take 0)=decide (x.name=[]):=by unfold yr;simp
 clear c;conv=>whnf
 repeat' (first| intro g| refine wi (aw hx rfl) ?_| refine st ?_| refine br ?_ ?_<;>intro hc| rfl) <;>conv=>whnf
 refine aO.ws (fun (k:Nat)=>Qd m Y g6 g7 i k [(16,.bool (yr x (Y.ar.take k)))])
  (fun k=>k<=Y.ar.length) (fun k=>Y.ar.length - k) 0 (by rw[Ij];exact su) ajk ?_
 intro k c;by_cases FZ:k<Y.ar.length
 case neg=>
  obtain rfl:k=Y.ar.length:=ajk;rw[akd,e];refine WS.of ?_;conv=>whnf
  repeat' (first| intro g| refine st ?_| refine br ?_ ?_<;>intro hc| rfl) <;>conv=>whnf
  exact aR.mk (i+1) om ajk su
 obtain⟨y,hy⟩: ∃x,Y.ar[k]? =some x:=⟨_,aM FZ⟩;have hs:yr x (Y.ar.take (k+1))=(yr x (Y.ar.take k) || decide (y.name=x.name/\y.aC=x.aC)):=by rw[mF hy,OQ]
 obtain⟨F,a,d⟩:=ahK (g6:=g6) (g7:=g7) hm hY hx hy (yr x (Y.ar.take k));rw[<-hs] at a;clear hs e Ij;refine WS.cut 1 (fun _:Unit=>Qd m Y g6 g7 i k [(16,.bool (yr x (Y.ar.take k)))]) (fun _=>True) (by
  generalize yr x (Y.ar.take k)=b;clear a d;conv=>whnf
  repeat' (first| intro g| refine st ?_| refine br ?_ ?_<;>intro hc| rfl) <;>conv=>whnf
  exact uQ.mk () trivial su) fun _ _=> ?_
 refine WS.ZG a d (WS.of ?_);clear a d;conv=>whnf
 repeat' (first| intro g| refine st ?_| refine br ?_ ?_<;>intro hc| rfl) <;>conv=>whnf
 exact aR.mk (k+1) om ajk su
theorem Lb {α:Type} {key:α->Int} {l:List α} {c:Int} (h: ∀ (i:Nat) x,l[i]? =some x->key x=c+(i:Int)): (l.map key).Nodup:=by refine ak6.2 fun i j hi d JL e=> ?_;rw[List.length_map] at hi d;rw[List.getElem_map,List.getElem_map] at e;have a:=h i _ (aju hi);have b:=h j _ (aju d);omega
theorem adQ {m:aB} (hf:m.adM):m.Bd:=
 ⟨hf.aA.1,fun e he=>by have:=(hf.aA.2 e he).2;omega,hf.ak,hf.aF.1,fun w hw=>by have:=hf.aF.2.1 w hw;exact⟨by have:=this.1;omega,by have:=this.2;omega⟩,by have:=hf.ar.1;omega⟩
theorem aab (n:Nat): (if (10:Int) < (n:Int) then(10:Int) else(n:Int)).toNat=min 10 n:=by split<;>omega
theorem WT {a:List (List Int)} (hs:y8 a): ∃m:aB,m.Bd/\m.Nd/\Dr.qK m/\alH 729 [iX a] m.v:=by
 have b:y8 (a.take 10):=⟨by have:=hs.1;simp;omega,fun l h=>hs.2 l (ajN h)⟩;obtain⟨_,hm,m,⟨hf,⟨nd,cz,S,kc,d⟩,e⟩,rfl⟩:=K8 b;have hl:=hs.1;refine⟨m,adQ hf,⟨Lb (c:=1) fun i x hx=>by rw[d.ids i x hx];omega,e,Lb hf.aF.2.2,Lb hf.ar.2.1⟩,Dr.Tn kc d,?_⟩;refine amM ?_;obtain⟨es,fs,ws,ps⟩:=m;unfold aB.vo at hm;dsimp only at hm;conv=>whnf
 repeat' (first| intro g| refine wi (BV (k:=10) (by rw[List.length_map];exact aab _)) ?_| apply ca hm| refine st ?_| refine br ?_ ?_<;>intro hc| rfl) <;>conv=>whnf
theorem To (l:List dP) (a:Int) (h: ∀x ∈ l,x.evs.length< 1000000/\ ∀e ∈ x.evs,yi e): ∃dn:dP->Nat,∀x ∈ l,dn x<=x.evs.length/\x.evs.length< 1000000/\alH 740 [x.v,vi a] (au (dn x)):=by
 refine Classical.skolem (p:=fun x (n:Nat)=>x ∈ l->n<=x.evs.length/\x.evs.length< 1000000/\alH 740 [x.v,vi a] (au n)) |>.1 fun x=> ?_;by_cases hx:x ∈ l
 .obtain⟨h1,h2⟩:=h x hx;obtain⟨n,h3,h4⟩:=Wp x h1 h2 a;exact⟨n,fun _=> ⟨h3,h1,h4⟩⟩
 exact⟨0,fun k=>absurd k hx⟩
theorem Si.ats {d:Int} {m m':aB} {b b':Int} {evs:List an} (h:Si d m b evs m' b'): ∀e ∈ evs,yi e:=by
 induction h with
 | nil=>simp
 | cons hn ha hp hi hs ht hb h a=>
   intro x hx;rcases ajy.1 hx with rfl| hx
   .exact ht
   exact a x hx
theorem aac {m:aB} (hb:m.Bd) (hn:m.Nd) (o9:Dr.qK m): ∃ (c:List Int) (l:List dP),alH 96 [m.v] (.own 1 (c.map vi))/\l.map dP.aC=c/\c.Pairwise (· < ·)/\l.length<=1000/\(∀x ∈ l,KV m x.aC x.evs)/\alH 607 [m.v] (.own 2 (l.map dP.v))/\
  ∀f:Int,∃ (dn:dP->Nat) (Y:aB),zW dn m l Y/\wR m Y/\(∀x ∈ l,dn x<=x.evs.length/\ ∃M,Se x.aC m (x.evs.take (dn x)) M/\lP x.aC m M/\ez x.aC M Y)/\(∀d',d' ∉ l.map dP.aC->ez d' m Y)/\alH 730 [m.v,.lit 2 (l.map dP.v),vi f] (.tuple [Y.v,vi 0]):=by
 obtain⟨c,l,g,Za,hp,a,b,i⟩:=Wi hb;have hlen:l.length=c.length:=by rw[<-a,List.length_map]
 have kc: (l.map dP.aC).Nodup:=by rw[a];exact hp.imp fun h e=>ajk
 refine⟨c,l,g,a,hp,ajk,b,i,fun f=> ?_⟩;obtain⟨dn,d⟩:=To l f fun x hx=>by obtain⟨m',b',n,j,_⟩:=b x hx;exact⟨ajk,j.ats⟩
 obtain⟨Y,h1,h2,h3,h4⟩:=Ii o9 hn hb dn l (.refl hn hb) kc fun x hx=> ⟨.refl _ _,b x hx⟩;exact⟨dn,Y,h1,h2,fun x hx=> ⟨(d x hx).1,h3 x hx⟩,fun d' k=>h4 d' k m (.refl _ _),Ih hb ajk kc d h1⟩
theorem Tp (c:alH 728 [] (.bool true)) {i:List (List Int)} (hs:y8 i) {b:Int} (h0:0<=b) (h1:b< 4294967296):alH 724 [iX i,.int .u32 b] (.bool true):=by
 obtain⟨m,hb,hn,o9,d⟩:=WT hs;obtain⟨k,l,_,_,_,_,_,j,e⟩:=aac hb hn o9;obtain⟨dn,Y,hr,hc,_,_,e⟩:=e ((IntKind.i64.wrap b).tmod 1100000);obtain⟨h,a,_⟩:=hr.kept hb hn;have f1:=hb.f;have f2:=hb.w;have n:=hb.p;have o:=a.f;have q:=a.w;have r:=a.p;clear hr hc o9 hs;refine amM ?_;conv=>whnf
 repeat' (first| intro g| apply ca c| apply ca d| apply ca j| apply ca e| refine st ?_| refine br ?_ ?_<;>intro hc| rfl) <;>conv=>whnf
 refine ZL h ajk ajk _ su _ ?_;conv=>whnf
 repeat' (first| intro g| refine st ?_| refine br ?_ ?_<;>intro hc| rfl) <;>conv=>whnf
 refine ZQ h ajk ajk _ su _ ?_;conv=>whnf
 repeat' (first| intro g| refine st ?_| refine br ?_ ?_<;>intro hc| rfl) <;>conv=>whnf
 refine ZV h ajk ajk _ su _ ?_;conv=>whnf
 repeat' (first| intro g| refine st ?_| refine br ?_ ?_<;>intro hc| rfl) <;>conv=>whnf
end Go.AM
