/- Texts of the proof. -/
import Derived.Test.YtdifmldbllaeiaaGreatGag
set_option maxRecDepth 20000
set_option maxHeartbeats 4000000
set_option linter.unusedSimpArgs false
set_option linter.unusedVariables false
namespace Go.AM
theorem amh {f:Nat} (hm:bu E f=[]) {ws:List bH} (hn:ws.length< 1000000) (a: ∀ (i:Int) w,w ∈ ws-> ∃v,Ev E f [vi i,w.v] ⟨v,[]⟩/\P7 v (bH.v w)):
  alH 689 [.lit 8 (ws.map bH.v),.fn f []] (.own 8 (ws.map bH.v)):=by
 have hp: ∀ (i:Int) (w:bH),V.al [vi i,w.v]=true:=fun _ _=>rfl;refine amM ?_;conv=>whnf
 repeat' (first| intro g| refine st ?_| refine br ?_ ?_<;>intro hc| rfl) <;>conv=>whnf
 refine aO.by (fun ((i,L,g):Nat×List bH×Nat)=> ⟨[(1,.fn f []),(5,.sl 97 g 0 L.length),(8,.lit 8 (ws.map bH.v)),(9,au ws.length),(10,au i)],[(97,⟨g,8,true,false,some (L.map bH.v)⟩)]⟩)
  (fun (i,L,_)=>i<=ws.length/\L.length=i/\L=ws.take i) (fun (i,_)=>ws.length - i) (0,[],g) su ⟨ajl,rfl,ajl⟩ ?_
 clear g;rintro⟨i,L,gl⟩ ⟨hi,hL,hP⟩
 try dsimp only at hi hL hP
 by_cases b:i<ws.length
 .obtain⟨w,hx⟩: ∃x,ws[i]? =some x:=⟨_,aM b⟩;obtain⟨v,h1,h2⟩:=a i w (List.mem_of_getElem? hx);have Fz:=hp i w;conv=>whnf
  repeat' (first| refine jU hm Fz h1 h2 ?_| intro g| refine wi (aw hx rfl) ?_| refine st ?_| refine br ?_ ?_<;>intro hc| rfl) <;>conv=>whnf
  refine aR.mk (i+1,L++[w],g) om ⟨ajk,by simp[hL],?_⟩ su;rw[aj6,hx,hP];rfl
 obtain rfl:L=ws:=by rw[hP,List.take_of_length_le ajk]
 conv=>whnf
 repeat' (first| intro g| refine st ?_| refine br ?_ ?_<;>intro hc| rfl) <;>conv=>whnf
theorem ami {f:Nat} (hm:bu E f=[]) {ws:List aH} (hn:ws.length< 1000000) (a: ∀ (i:Int) w,w ∈ ws-> ∃v,Ev E f [vi i,w.v] ⟨v,[]⟩/\P7 v (aH.v w)):
  alH 687 [.lit 4 (ws.map aH.v),.fn f []] (.own 4 (ws.map aH.v)):=by
 have hp: ∀ (i:Int) (w:aH),V.al [vi i,w.v]=true:=fun _ _=>rfl;refine amM ?_;conv=>whnf
 repeat' (first| intro g| refine st ?_| refine br ?_ ?_<;>intro hc| rfl) <;>conv=>whnf
 refine aO.by (fun ((i,L,g):Nat×List aH×Nat)=> ⟨[(1,.fn f []),(5,.sl 97 g 0 L.length),(8,.lit 4 (ws.map aH.v)),(9,au ws.length),(10,au i)],[(97,⟨g,4,true,false,some (L.map aH.v)⟩)]⟩)
  (fun (i,L,_)=>i<=ws.length/\L.length=i/\L=ws.take i) (fun (i,_)=>ws.length - i) (0,[],g) su ⟨ajl,rfl,ajl⟩ ?_
 clear g;rintro⟨i,L,gl⟩ ⟨hi,hL,hP⟩
 try dsimp only at hi hL hP
 by_cases b:i<ws.length
 .obtain⟨w,hx⟩: ∃x,ws[i]? =some x:=⟨_,aM b⟩;obtain⟨v,h1,h2⟩:=a i w (List.mem_of_getElem? hx);have Fz:=hp i w;conv=>whnf
  repeat' (first| refine jU hm Fz h1 h2 ?_| intro g| refine wi (aw hx rfl) ?_| refine st ?_| refine br ?_ ?_<;>intro hc| rfl) <;>conv=>whnf
  refine aR.mk (i+1,L++[w],g) om ⟨ajk,by simp[hL],?_⟩ su;rw[aj6,hx,hP];rfl
 obtain rfl:L=ws:=by rw[hP,List.take_of_length_le ajk]
 conv=>whnf
 repeat' (first| intro g| refine st ?_| refine br ?_ ?_<;>intro hc| rfl) <;>conv=>whnf
theorem al3 {m:aB} (h:m.Bd) {id:Int} (hc:alH 676 [m.v,vi id] (vi 0)): ∃ (k:Nat) (w:bH),gq m.aF id=k/\m.aF[k]? =some w/\w.id=id/\ ∃v,alH 680 [m.v,vi id] v/\P7 v (.tuple [(aB.mk m.aA m.ak (m.aF.eraseIdx k) m.ar).v,vi 0]):=by
 have hw:=h.w;have h1:=mZ (m:=m) ajk id;rcases cr (fun w:bH=>decide (w.id=id)) m.aF with⟨hf,_⟩ | ⟨k,w,hf,h2,h3⟩
 .exact absurd (rS (hc.fM (D3 ajk hf))) ajm
 have hf:gq m.aF id=k:=hf;refine⟨k,w,hf,h2,of_decide_eq_true h3,?_⟩;rw[hf] at h1;have j:=(ajp.1 h2).1;have d:=zf j ajk;obtain⟨os,a⟩: ∃x,m.aF.eraseIdx k=x:=⟨_,rfl⟩;have l:os.length<=12:=by rw[<-a,aku];split<;>omega
 have b: ∀w ∈ os,oT w:=fun w hw=>h.wl w (by rw[<-a] at hw;exact ale hw);rw[a] at d;rw[a];have c:=amh (f:=691) rfl (ws:=os) ajk (fun i w hw=>Zd i w (by have:=(b w hw).2;omega));have X2:=ami (f:=688) rfl (ws:=m.aA) (by have:=h.e;omega) (fun i e he=>Ze i e (by have:=h.el e he;omega));have c2:=pw m.ak (by have:=h.f;omega);have c4:=mD m.ar (by have:=h.p;omega)
 suffices hh: ∃res,Ev E 680 [m.v,vi id] res/\ ∃v,P7 v (.tuple [(aB.mk m.aA m.ak os m.ar).v,vi 0])/\res=⟨v,[]⟩ by obtain⟨_,n,v,o,rfl⟩:=hh;exact⟨v,n,o⟩
 refine amN ?_;conv=>whnf
 repeat' (first| ((exfalso;omega)) | intro g| apply ca hc| apply ca h1| apply ca d| apply ca c| apply ca X2| apply ca c2| apply ca c4| refine st ?_| refine br ?_ ?_<;>intro hc| rfl) <;>conv=>whnf
 exact⟨_,fun _ _=>rfl,rfl⟩
inductive Step (m:aB):an->aB->Prop
 | drop {t:Int} (q:Dr.s9 m) (h:Dr.OK m q=0):Step m ⟨1,t,q.e.id,0,q.n⟩ ⟨q.es,m.ak,m.aF,m.ar⟩
 | De {t a b:Int} {i j:Nat} {f g:aP} (h:qR m a b=0) (h1:aY m.ak a=some i) (h2:m.ak[i]? =some f) (h3:aY m.ak b=some j) (h4:m.ak[j]? =some g) (h5:a≠b):Step m ⟨2,t,a,b,0⟩ ⟨ek m.aA a b m.aA.length,dz m.ak i j f m.ak.length,m.aF,m.ar⟩
 | thin {t a:Int} {k:Nat} {w:bH} (h:alH 676 [m.v,vi a] (vi 0)) (h1:gq m.aF a=k) (h2:m.aF[k]? =some w) (h3:w.id=a):Step m ⟨3,t,a,0,0⟩ ⟨m.aA,m.ak,m.aF.eraseIdx k,m.ar⟩
 | oV {t a b:Int} (h:mW m.ar a b=0):Step m ⟨4,t,a,b,0⟩ ⟨m.aA,m.ak,m.aF,mm m.ar a b⟩
theorem al4 {m:aB} (h:m.Bd) {t a b:Int} (hc:qR m a b=0): ∃ (v:V) (M:aB),alH 485 [m.v,vi a,vi b] v/\P7 v (.tuple [M.v,vi 0])/\Step m ⟨2,t,a,b,0⟩ M:=by
 have c: ∀ {i j:Nat} {f g:aP},aY m.ak a=some i->m.ak[i]? =some f->aY m.ak b=some j->m.ak[j]? =some g->a≠b-> ∃ (v:V) (M:aB),alH 485 [m.v,vi a,vi b] v/\P7 v (.tuple [M.v,vi 0])/\Step m ⟨2,t,a,b,0⟩ M:=by intro i j f g h1 h2 h3 h4 h5;exact⟨_,_,Ox h.ady a b hc h1 h2 h3 h4 (R1 h5 h1 h3) h5,R2 m _ _,.De hc h1 h2 h3 h4 h5⟩
 cases BF hc with
 | ok1 h1 h2 h3 h4 h5=>exact c h1 h2 h3 h4 h5
 | ok2 h1 h2 h3 h4 h5=>exact c h1 h2 h3 h4 h5
 | ok3 h1 h2 h3 h4 h5=>exact c h1 h2 h3 h4 h5
theorem al5 {m:aB} (h:m.Bd) {t a b:Int} (hc:mW m.ar a b=0): ∃ (v:V) (M:aB),alH 7 [m.v,vi a,vi b] v/\P7 v (.tuple [M.v,vi 0])/\Step m ⟨4,t,a,b,0⟩ M:=by have:=Rb h.fit a b;rw[if_pos hc] at this;exact⟨_,⟨m.aA,m.ak,m.aF,mm m.ar a b⟩,this,Zb (m:=⟨m.aA,m.ak,m.aF,mm m.ar a b⟩) (.inl rfl) (.inl rfl) (.inl rfl) (.inl rfl),.oV hc⟩
theorem al6 {m:aB} (h:m.Bd) {t a n:Int} (hc:alH 526 [m.v,vi a,vi n] (vi 0)): ∃ (v:V) (M:aB),alH 524 [m.v,vi a,vi n] v/\P7 v (.tuple [M.v,vi 0])/\Step m ⟨1,t,a,0,n⟩ M:=by
 rcases Dr.pC h.fit a n with⟨x,hx,fL⟩ | ⟨q,rfl,rfl⟩
 .exact absurd (rS (hc.fM (Dr.FK hx fL))) (fun e=>hx e.symm)
 have h0:Dr.OK m q=0:=rS ((Dr.qi h.fit q).fM hc);exact⟨_,_,Dr.RF h.fit q hc,Zb (m:=⟨q.es,m.ak,m.aF,m.ar⟩) (.inl rfl) (.inl rfl) (.inl rfl) (.inl rfl),.drop q h0⟩
theorem Step.bd {m M:aB} {e:an} (h:Step m e M) (hb:m.Bd):M.Bd:=by
 cases h with
 | drop q h=>exact dbd hb q
 | @De t a b i j f g h h1 h2 h3 h4 h5=>
   refine⟨ajQ (qm m.aA a b _) hb.e,fun e he=> ?_,ajQ (nc m.ak i j f _) hb.f,hb.w,hb.wl,hb.p⟩;obtain⟨e',h6,h7⟩:=qo he;rw[h7];exact hb.el e' h6
 | @thin t a k w h h1 h2 h3=>
   refine⟨hb.e,hb.el,hb.f,?_,fun w hw=>hb.wl w (ale hw),hb.p⟩;have:=hb.w;show (m.aF.eraseIdx k).length<=12;rw[aku];split<;>omega
 | @oV t a b h=>
   refine⟨hb.e,hb.el,hb.f,hb.w,hb.wl,?_⟩;show (mm m.ar a b).length<=6;have hp:=hb.p;unfold mm;split
   .rw[aku,List.length_set];split<;>omega
   simp
theorem alZ {m:aB} (h:m.Bd) {t a:Int} (b:Int) (hc:alH 676 [m.v,vi a] (vi 0)): ∃ (v:V) (M:aB),alH 679 [m.v,vi a,vi b] v/\P7 v (.tuple [M.v,vi 0])/\Step m ⟨3,t,a,0,0⟩ M:=by
 obtain⟨k,w,h1,h2,h3,v,h4,h5⟩:=al3 h hc;have hm:bu E 680=[]:=rfl;have hp:V.al [m.v,vi a]=true:=rfl
 suffices hh: ∃res,Ev E 679 [m.v,vi a,vi b] res/\ ∃v,P7 v (.tuple [(aB.mk m.aA m.ak (m.aF.eraseIdx k) m.ar).v,vi 0])/\res=⟨v,[]⟩ by obtain⟨_,c,v,d,rfl⟩:=hh;exact⟨v,_,c,d,.thin hc h1 h2 h3⟩
 refine amN ?_;conv=>whnf
 repeat' (first| refine jU hm hp h4 h5 ?_| intro g| refine st ?_| refine br ?_ ?_<;>intro hc| rfl) <;>conv=>whnf
 exact⟨_,fun _ _=>rfl,rfl⟩
theorem X9 {m:aB} (hm:m.Bd) {e:an} (h:U8 m e) (ht:e.at_<=1024): ∃M:aB,alH 645 [m.v,e.v] (.tuple [M.v,vi 0])/\Step m e M:=by
 have hc:=amg h ht;cases h with
 | @drop t a n c h1 h2 h3 h4=>
   obtain⟨v,M,f,i,j⟩:=al6 (t:=t) hm h1;have k:=amb t a n;have l:=FU (an.mk 1 t a 0 n);have d:bu E 524=[]:=rfl;have hp:V.al [m.v,vi a,vi n]=true:=rfl;refine⟨M,amM ?_,j⟩;conv=>whnf
   repeat' (first| refine jU d hp f i ?_| intro g| apply ca hc| apply ca k| apply ca l| refine st ?_| refine br ?_ ?_<;>intro hc| rfl) <;>conv=>whnf
 | @De t a b c h1 h2 h3 h4=>
   obtain⟨v,M,f,i,j⟩:=al4 (t:=t) hm (rS ((FO hm.small a b).fM h1));have k:=amc t a b;have l:=tg (an.mk 2 t a b 0);have d:bu E 485=[]:=rfl;have hp:V.al [m.v,vi a,vi b]=true:=rfl;refine⟨M,amM ?_,j⟩;conv=>whnf
   repeat' (first| refine jU d hp f i ?_| intro g| apply ca hc| apply ca k| apply ca l| refine st ?_| refine br ?_ ?_<;>intro hc| rfl) <;>conv=>whnf
 | @thin t a c h1 h2 h3 h4=>
   obtain⟨v,M,f,i,j⟩:=alZ (t:=t) hm 0 h1;have k:=amd t a;have l:=FV (an.mk 3 t a 0 0);have d:bu E 679=[]:=rfl;have hp:V.al [m.v,vi a,vi 0]=true:=rfl;refine⟨M,amM ?_,j⟩;conv=>whnf
   repeat' (first| refine jU d hp f i ?_| intro g| apply ca hc| apply ca k| apply ca l| refine st ?_| refine br ?_ ?_<;>intro hc| rfl) <;>conv=>whnf
 | @oV t a b c h1 h2 h3 h4=>
   obtain⟨v,M,f,i,j⟩:=al5 (t:=t) hm (rS ((qi (by have:=hm.p;omega) a b).fM h1));have k:=ame t a b;have l:=tg (an.mk 4 t a b 0);have d:bu E 7=[]:=rfl;have hp:V.al [m.v,vi a,vi b]=true:=rfl;refine⟨M,amM ?_,j⟩;conv=>whnf
   repeat' (first| refine jU d hp f i ?_| intro g| apply ca hc| apply ca k| apply ca l| refine st ?_| refine br ?_ ?_<;>intro hc| rfl) <;>conv=>whnf
def ki (i j:Nat) (p:Pt):Prop:=(30+100*(i:Int)<=p.x/\p.x<=50+100*(i:Int))/\30+100*(j:Int)<=p.y/\p.y<=50+100*(j:Int)
theorem Ik {l:List Int} (hl:l.length< 9223372036854775808) {i j:Nat} (hi:i< 10) (s:j< 10): ∃p:Pt,ki i j p/\alH 115 [.lit 1 (l.map vi),au i,au j] p.v:=by
 suffices hh: ∃res,Ev E 115 [.lit 1 (l.map vi),au i,au j] res/\ ∃p:Pt,ki i j p/\res=⟨p.v,[]⟩ by obtain⟨_,h1,p,h2,rfl⟩:=hh;exact⟨p,h2,h1⟩
 refine amN ?_;have w0:IntKind.i64.wrap (4*(j:Int))=((4*j:Nat):Int):=wt;have f:IntKind.i64.wrap (IntKind.i64.wrap (4*(j:Int))+(i:Int))=((4*j+i:Nat):Int):=by rw[w0];exact wt
 have d:IntKind.i64.wrap (2*IntKind.i64.wrap (IntKind.i64.wrap (4*(j:Int))+(i:Int)))=((2*(4*j+i):Nat):Int):=by rw[f];exact wt
 have w3:IntKind.i64.wrap (IntKind.i64.wrap (2*IntKind.i64.wrap (IntKind.i64.wrap (4*(j:Int))+(i:Int)))+1)=((2*(4*j+i)+1:Nat):Int):=by rw[d];exact wt
 have k: ∀ {x:Int},0<=x->x< 21->IntKind.i64.wrap (IntKind.i64.wrap (40+IntKind.i64.wrap (100*(i:Int)))+IntKind.i64.wrap (x - 10))=30+100*(i:Int)+x:=fun h m=>by rw[bo (n:=100*(i:Int)) ajk ajk,bo (n:=40+100*(i:Int)) ajk ajk,bo (n:=_ - 10) ajk ajk,bo ajk ajk];omega
 have o: ∀ {x:Int},0<=x->x< 21->IntKind.i64.wrap (IntKind.i64.wrap (40+IntKind.i64.wrap (100*(j:Int)))+IntKind.i64.wrap (x - 10))=30+100*(j:Int)+x:=fun h m=>by rw[bo (n:=100*(j:Int)) ajk ajk,bo (n:=40+100*(j:Int)) ajk ajk,bo (n:=_ - 10) ajk ajk,bo ajk ajk];omega
 by_cases t:2*(4*j+i)+1 <l.length
 .have hx:=aM (l:=l) (i:=2*(4*j+i)) ajk;have hy:=aM (l:=l) (i:=2*(4*j+i)+1) ajk;generalize l[2*(4*j+i)]=x at hx;generalize l[2*(4*j+i)+1]=y at hy;have e:0<=wh x 21/\wh x 21 < 21:=Ai (a:=x) (n:=21) ajm ajm;have by_:0<=wh y 21/\wh y 21 < 21:=Ai (a:=y) (n:=21) ajm ajm;have q:=Kf (a:=x) (n:=21) ajm;have r:=Kf (a:=y) (n:=21) ajm;have b:=k e.1 e.2;have c:=o by_.1 by_.2;conv=>whnf
  repeat' (first| intro g| refine wi (aw hx d) ?_| refine wi (aw hy w3) ?_| apply ca q| apply ca r| refine st ?_| refine br ?_ ?_<;>intro hc| rfl) <;>conv=>whnf
  rw[b,c];exact⟨⟨30+100*(i:Int)+wh x 21,30+100*(j:Int)+wh y 21⟩,⟨om,om⟩,rfl⟩
 have b:IntKind.i64.wrap (IntKind.i64.wrap (40+IntKind.i64.wrap (100*(i:Int)))+0)=40+100*(i:Int):=by rw[bo (n:=100*(i:Int)) ajk ajk,bo (n:=40+100*(i:Int)) ajk ajk,bo ajk ajk];omega
 have c:IntKind.i64.wrap (IntKind.i64.wrap (40+IntKind.i64.wrap (100*(j:Int)))+0)=40+100*(j:Int):=by rw[bo (n:=100*(j:Int)) ajk ajk,bo (n:=40+100*(j:Int)) ajk ajk,bo ajk ajk];omega
 conv=>whnf
 repeat' (first| intro g| refine st ?_| refine br ?_ ?_<;>intro hc| rfl) <;>conv=>whnf
 rw[b,c];exact⟨⟨40+100*(i:Int),40+100*(j:Int)⟩,⟨om,om⟩,rfl⟩
theorem F1 (a n:Int):a.tdiv n=if 0<=a then a / n else -((-a) / n):=by
 split
 .exact Int.tdiv_eq_ediv_of_nonneg (by assumption)
 have:=Int.tdiv_eq_ediv_of_nonneg (a:= -a) (b:=n) ajk;rw[Int.neg_tdiv] at this;omega
theorem adE {u:Int} {k many:Nat} (a:k<many) (hm:many< 4) (h:80<=u) (h2:u<=120):0 < (u*((k+1:Nat):Int)).tdiv ((many+1:Nat):Int)/\(u*((k+1:Nat):Int)).tdiv ((many+1:Nat):Int) <u:=by rw[F1];rcases(by omega:many=1\/many=2\/many=3) with rfl| rfl| rfl<;>rcases(by omega:k=0\/k=1\/k=2) with rfl| rfl| rfl<;>simp only[Int.natCast_add] <;>split<;>omega
theorem adF {u:Int} {k many:Nat} (a:k<many) (hm:many< 4) (h: -20<=u) (h2:u<=20): ((0<=(u*((k+1:Nat):Int)).tdiv ((many+1:Nat):Int)\/u<=(u*((k+1:Nat):Int)).tdiv ((many+1:Nat):Int))/\((u*((k+1:Nat):Int)).tdiv ((many+1:Nat):Int)<=0\/(u*((k+1:Nat):Int)).tdiv ((many+1:Nat):Int)<=u))/\ -20<=(u*((k+1:Nat):Int)).tdiv ((many+1:Nat):Int)/\(u*((k+1:Nat):Int)).tdiv ((many+1:Nat):Int)<=20:=by rw[F1];rcases(by omega:many=1\/many=2\/many=3) with rfl| rfl| rfl<;>rcases(by omega:k=0\/k=1\/k=2) with rfl| rfl| rfl<;>simp only[Int.natCast_add] <;>split<;>omega
theorem ZW {r many:Nat} (hm:many< 4) (h:r< 21): -10<=((r:Int) - 10).tdiv ((1+many / 2:Nat):Int)/\((r:Int) - 10).tdiv ((1+many / 2:Nat):Int)<=10:=by rw[F1];rcases(by omega:many=0\/many=1\/many=2\/many=3) with rfl| rfl| rfl| rfl<;>simp only[Int.natCast_add] <;>split<;>omega
theorem ZX {u:Int} {k:Nat} (h: -200<=u) (h2:u<=200) (a:k< 3): -1000<=u*((k+1:Nat):Int)/\u*((k+1:Nat):Int)<=1000:=by rcases(by omega:k=0\/k=1\/k=2) with rfl| rfl| rfl<;>simp only[Int.natCast_add] <;>omega
def G5 (a b p:Pt):Prop:=(a.x<p.x/\p.x<b.x)/\(a.y - 10<=p.y\/b.y - 10<=p.y)/\(p.y<=a.y+10\/p.y<=b.y+10)
def G6 (a b p:Pt):Prop:=(a.y<p.y/\p.y<b.y)/\(a.x - 10<=p.x\/b.x - 10<=p.x)/\(p.x<=a.x+10\/p.x<=b.x+10)
theorem F3 {p u:Int} {k many:Nat} (hp: -1000<=p/\p<=1000) (a: -200<=u/\u<=200) (b:k<many) (hm:many< 4) (ht: -200<=(u*((k+1:Nat):Int)).tdiv ((many+1:Nat):Int)/\(u*((k+1:Nat):Int)).tdiv ((many+1:Nat):Int)<=200):
  IntKind.i64.wrap (p+IntKind.i64.wrap ((IntKind.i64.wrap (u*((k+1:Nat):Int))).tdiv (IntKind.i64.wrap ((many:Int)+1))))=p+(u*((k+1:Nat):Int)).tdiv ((many+1:Nat):Int):=by
 have h1:=ZX a.1 a.2 (k:=k) ajk;rw[bo (n:=(many:Int)+1) ajk ajk,bo (n:=u*((k+1:Nat):Int)) ajk ajk,show (many:Int)+1=((many+1:Nat):Int) by omega,bo (n:=(u*((k+1:Nat):Int)).tdiv ((many+1:Nat):Int)) ajk ajk,bo ajk ajk]
theorem Sz {q:Int} {r many:Nat} (b: -2000<=q/\q<=2000) (hm:many< 4) (hr:r< 21):
  IntKind.i64.wrap (q+IntKind.i64.wrap ((IntKind.i64.wrap ((r:Int) - 10)).tdiv (IntKind.i64.wrap (1+IntKind.i64.wrap ((many:Int).tdiv 2)))))=q+((r:Int) - 10).tdiv ((1+many / 2:Nat):Int):=by
 have h1:=ZW hm hr;have a: (many:Int).tdiv 2=((many / 2:Nat):Int):=rfl;rw[a,bo (n:=((many / 2:Nat):Int)) ajk ajk,show (1:Int)+((many / 2:Nat):Int)=((1+many / 2:Nat):Int) by omega,bo (n:=((1+many / 2:Nat):Int)) ajk ajk,bo (n:=(r:Int) - 10) ajk ajk,bo (n:=((r:Int) - 10).tdiv ((1+many / 2:Nat):Int)) ajk ajk,bo ajk ajk]
def Wr (p:Pt):Prop:=(-1000<=p.x/\p.x<=1000)/\ -1000<=p.y/\p.y<=1000
theorem Wt {l:List Int} (hl:l.length< 9223372036854775808) {p q:Pt} (hp:Wr p) (t:Wr q) (hx:80<=q.x - p.x/\q.x - p.x<=120) (hy: -20<=q.y - p.y/\q.y - p.y<=20) (a0:Nat):
  ∃ (ps:List Pt) (a:Nat),ps.length<=3/\(∀x ∈ ps,G5 p q x)/\Ev E 114 [p.v,q.v,.mptr 2 [da l a0] 0 0] ⟨.own 2 ((p::ps++[q]).map Pt.v),[(0,[da l a])]⟩:=by
 have key:=Ev.cg (R:=fun r=> ∃ (ps:List Pt) (a:Nat),ps.length<=3/\(∀x ∈ ps,G5 p q x)/\r=⟨.own 2 ((p::ps++[q]).map Pt.v),[(0,[da l a])]⟩) XW (XX [p.v,q.v,.mptr 2 [da l a0] 0 0]) rfl ?_
 .obtain⟨res,h1,ps,a,h2,h3,rfl⟩:=key;exact⟨ps,a,h2,h3,h1⟩
 have hn: ∀n a,0 <n->n< 1000->Ev E 85 [.mptr 2 [da l a] 0 0,au n] ⟨au (eR l a n),[(0,[da l (cm l a)])]⟩:=fun n a h h2=>cD hl n h ajk;have hb:=fF (l:=l) (a:=a0) (n:=4) ajk ajk;have KW:=Hr q p;generalize hm:eR l a0 4=many at hb;have f:=hn 4 a0 ajk ajk;rw[hm] at f;clear hm;conv=>whnf
 repeat' (first| intro g| apply ca f| apply ca KW| refine st ?_| refine br ?_ ?_<;>intro hc| rfl) <;>conv=>whnf
 rename_i g3 g4 _ b;obtain⟨Fz,FA⟩:=hp;obtain⟨Wu,OS⟩:=t;generalize c:Pt.mk (kb (q.x - p.x)) (kb (q.y - p.y))=u;have w:u.x=q.x - p.x:=by rw[<-c];exact bo ajk ajk
 have z:u.y=q.y - p.y:=by rw[<-c];exact bo ajk ajk
 refine aO.by (fun ((k,ps,a,b):Nat×List Pt×Nat×Nat)=> ⟨[(2,.ptr 2 0 0 0),(3,.ptr 64 g3 0 0),(4,.ptr 80 g4 0 0),(7,.sl 129 b 0 (p::ps).length),(8,au many),(9,.ptr 160 g 0 0),(10,au (k+1))],
   [(2,⟨0,2,false,false,some [da l a]⟩),(64,⟨g3,2,false,false,some [p.v]⟩),(80,⟨g4,2,false,false,some [q.v]⟩),(129,⟨b,2,true,false,some ((p::ps).map Pt.v)⟩),(160,⟨g,2,false,false,some [u.v]⟩)]⟩)
  (fun (k,ps,_,_)=>k<=many/\ps.length=k/\ ∀x ∈ ps,G5 p q x) (fun (k,_)=>many - k) (0,[],cm l a0,b) (by subst c;exact su) ⟨ajl,ajl,ajl⟩ ?_
 clear c;rintro⟨k,ps,a,b⟩ ⟨hk,xJ,jB⟩
 try dsimp only at hk xJ jB
 have e:=hn 21 a ajk ajk;have hr:=fF (l:=l) (a:=a) (n:=21) ajk ajk;have A:IntKind.i64.wrap ((many:Int)+1)=((many+1:Nat):Int):=wt;have i: (many:Int).tdiv 2=((many / 2:Nat):Int):=rfl;have j:IntKind.i64.wrap ((many:Int).tdiv 2)=((many / 2:Nat):Int):=by rw[i];exact wt
 have B:IntKind.i64.wrap (1+IntKind.i64.wrap ((many:Int).tdiv 2))=((1+many / 2:Nat):Int):=by rw[j];exact wt
 by_cases d:k<many
 .have f1:=adE (u:=u.x) d hb ajk ajk;have f2:=adF (u:=u.y) d hb ajk ajk;have D:=ZW hb hr;have m:=F3 (p:=p.x) (u:=u.x) Fz ajk d hb ajk;have o:=F3 (p:=p.y) (u:=u.y) FA ajk d hb ajk;have s:=Sz (q:=p.y+(u.y*((k+1:Nat):Int)).tdiv ((many+1:Nat):Int)) ajk hb hr;have C: ∀x ∈ ps++[⟨p.x+(u.x*((k+1:Nat):Int)).tdiv ((many+1:Nat):Int),p.y+(u.y*((k+1:Nat):Int)).tdiv ((many+1:Nat):Int)+((eR l a 21:Int) - 10).tdiv ((1+many / 2:Nat):Int)⟩],G5 p q x:=fun x hx=>by
   rcases ajD.1 hx with hx| hx
   .exact jB x hx
   rw[ajX.1 hx];unfold G5;dsimp only;clear m o s A i j B hx;omega
  conv=>whnf
  repeat' (first| ((exfalso;omega)) | intro g| apply ca e| refine st ?_| refine br ?_ ?_<;>intro hc| rfl) <;>conv=>whnf
  rw[m,o,s];exact aR.mk (k+1,ps++[⟨p.x+(u.x*((k+1:Nat):Int)).tdiv ((many+1:Nat):Int),p.y+(u.y*((k+1:Nat):Int)).tdiv ((many+1:Nat):Int)+((eR l a 21:Int) - 10).tdiv ((1+many / 2:Nat):Int)⟩],cm l a,g) om ⟨ajk,by simp;omega,C⟩ su
 obtain rfl:k=many:=ajk;conv=>whnf
 repeat' (first| intro g| refine st ?_| refine br ?_ ?_<;>intro hc| rfl) <;>conv=>whnf
 exact⟨ps,a,ajk,jB,ajl⟩
theorem Wv {l:List Int} (hl:l.length< 9223372036854775808) {p q:Pt} (hp:Wr p) (t:Wr q) (hx:80<=q.y - p.y/\q.y - p.y<=120) (hy: -20<=q.x - p.x/\q.x - p.x<=20) (a0:Nat):
  ∃ (ps:List Pt) (a:Nat),ps.length<=3/\(∀x ∈ ps,G6 p q x)/\Ev E 114 [p.v,q.v,.mptr 2 [da l a0] 0 0] ⟨.own 2 ((p::ps++[q]).map Pt.v),[(0,[da l a])]⟩:=by
 have key:=Ev.cg (R:=fun r=> ∃ (ps:List Pt) (a:Nat),ps.length<=3/\(∀x ∈ ps,G6 p q x)/\r=⟨.own 2 ((p::ps++[q]).map Pt.v),[(0,[da l a])]⟩) XW (XX [p.v,q.v,.mptr 2 [da l a0] 0 0]) rfl ?_
 .obtain⟨res,h1,ps,a,h2,h3,rfl⟩:=key;exact⟨ps,a,h2,h3,h1⟩
 have hn: ∀n a,0 <n->n< 1000->Ev E 85 [.mptr 2 [da l a] 0 0,au n] ⟨au (eR l a n),[(0,[da l (cm l a)])]⟩:=fun n a h h2=>cD hl n h ajk;have hb:=fF (l:=l) (a:=a0) (n:=4) ajk ajk;have KW:=Hr q p;generalize hm:eR l a0 4=many at hb;have f:=hn 4 a0 ajk ajk;rw[hm] at f;clear hm;conv=>whnf
 repeat' (first| intro g| apply ca f| apply ca KW| refine st ?_| refine br ?_ ?_<;>intro hc| rfl) <;>conv=>whnf
 rename_i g3 g4 _ b;obtain⟨Fz,FA⟩:=hp;obtain⟨Wu,OS⟩:=t;generalize c:Pt.mk (kb (q.x - p.x)) (kb (q.y - p.y))=u;have w:u.x=q.x - p.x:=by rw[<-c];exact bo ajk ajk
 have z:u.y=q.y - p.y:=by rw[<-c];exact bo ajk ajk
 refine aO.by (fun ((k,ps,a,b):Nat×List Pt×Nat×Nat)=> ⟨[(2,.ptr 2 0 0 0),(3,.ptr 64 g3 0 0),(4,.ptr 80 g4 0 0),(7,.sl 129 b 0 (p::ps).length),(8,au many),(9,.ptr 160 g 0 0),(10,au (k+1))],
   [(2,⟨0,2,false,false,some [da l a]⟩),(64,⟨g3,2,false,false,some [p.v]⟩),(80,⟨g4,2,false,false,some [q.v]⟩),(129,⟨b,2,true,false,some ((p::ps).map Pt.v)⟩),(160,⟨g,2,false,false,some [u.v]⟩)]⟩)
  (fun (k,ps,_,_)=>k<=many/\ps.length=k/\ ∀x ∈ ps,G6 p q x) (fun (k,_)=>many - k) (0,[],cm l a0,b) (by subst c;exact su) ⟨ajl,ajl,ajl⟩ ?_
 clear c;rintro⟨k,ps,a,b⟩ ⟨hk,xJ,jB⟩
 try dsimp only at hk xJ jB
 have e:=hn 21 a ajk ajk;have hr:=fF (l:=l) (a:=a) (n:=21) ajk ajk;have A:IntKind.i64.wrap ((many:Int)+1)=((many+1:Nat):Int):=wt;have i: (many:Int).tdiv 2=((many / 2:Nat):Int):=rfl;have j:IntKind.i64.wrap ((many:Int).tdiv 2)=((many / 2:Nat):Int):=by rw[i];exact wt
 have B:IntKind.i64.wrap (1+IntKind.i64.wrap ((many:Int).tdiv 2))=((1+many / 2:Nat):Int):=by rw[j];exact wt
 by_cases d:k<many
 .have f1:=adE (u:=u.y) d hb ajk ajk;have f2:=adF (u:=u.x) d hb ajk ajk;have D:=ZW hb hr;have m:=F3 (p:=p.x) (u:=u.x) Fz ajk d hb ajk;have o:=F3 (p:=p.y) (u:=u.y) FA ajk d hb ajk;have s:=Sz (q:=p.x+(u.x*((k+1:Nat):Int)).tdiv ((many+1:Nat):Int)) ajk hb hr;have C: ∀x ∈ ps++[⟨p.x+(u.x*((k+1:Nat):Int)).tdiv ((many+1:Nat):Int)+((eR l a 21:Int) - 10).tdiv ((1+many / 2:Nat):Int),p.y+(u.y*((k+1:Nat):Int)).tdiv ((many+1:Nat):Int)⟩],G6 p q x:=fun x hx=>by
   rcases ajD.1 hx with hx| hx
   .exact jB x hx
   rw[ajX.1 hx];unfold G6;dsimp only;clear m o s A i j B hx;omega
  conv=>whnf
  repeat' (first| ((exfalso;omega)) | intro g| apply ca e| refine st ?_| refine br ?_ ?_<;>intro hc| rfl) <;>conv=>whnf
  rw[m,o,s];exact aR.mk (k+1,ps++[⟨p.x+(u.x*((k+1:Nat):Int)).tdiv ((many+1:Nat):Int)+((eR l a 21:Int) - 10).tdiv ((1+many / 2:Nat):Int),p.y+(u.y*((k+1:Nat):Int)).tdiv ((many+1:Nat):Int)⟩],cm l a,g) om ⟨ajk,by simp;omega,C⟩ su
 obtain rfl:k=many:=ajk;conv=>whnf
 repeat' (first| intro g| refine st ?_| refine br ?_ ?_<;>intro hc| rfl) <;>conv=>whnf
 exact⟨ps,a,ajk,jB,ajl⟩
theorem KX (e:aH) (h0:e.line≠[]) (hl:e.line.length< 1000000):alH 131 [e.v] (.agg [vi e.id,.own 2 (e.line.reverse.map Pt.v),vi e.right,vi e.left]):=by
 refine amM ?_;have hp:0 <e.line.length:=List.length_pos_iff.2 h0;have h:IntKind.i64.wrap ((e.line.length:Int) - 1)=(e.line.length:Int) - 1:=bo ajk ajk;conv=>whnf
 repeat' (first| intro g| refine st ?_| refine br ?_ ?_<;>intro hc| rfl) <;>conv=>whnf
 rename_i b c;refine aO.by (fun ((j,ps,a):Nat×List Pt×Option Nat)=> ⟨[(1,.ptr 32 b 0 0),(2,.ptr 48 c 0 0),(3,.ptr 64 g 0 0),(4,vi ((j:Int) - 1))],
     match a with
     | none=> [(32,⟨b,4,false,false,some [e.v]⟩),(48,⟨c,4,false,false,some [.agg [vi 0,.lit 2 [],vi 0,vi 0]]⟩),(64,⟨g,4,false,false,some [.agg [vi e.id,.nils,vi e.right,vi e.left]]⟩)]
     | some g5=> [(32,⟨b,4,false,false,some [e.v]⟩),(48,⟨c,4,false,false,some [.agg [vi 0,.lit 2 [],vi 0,vi 0]]⟩),(64,⟨g,4,false,false,some [.agg [vi e.id,.sl 67 g5 0 ps.length,vi e.right,vi e.left]]⟩),(67,⟨g5,2,true,false,some (ps.map Pt.v)⟩)]⟩)
   (fun (j,ps,a)=>j<=e.line.length/\ps=(e.line.drop j).reverse/\(a=none->j=e.line.length)) (fun (j,_)=>j) (e.line.length,[],none) ?_ ⟨ajl,ajl,ajl⟩ ?_
 .exact su
 rintro⟨j,ps,a⟩ ⟨hj,xJ,uX⟩
 try dsimp only at hj xJ uX
 cases j with
 | zero=>
   cases a with
   | none=>have:=uX rfl;omega
   | some g5=>
     obtain rfl:ps=e.line.reverse:=by rw[xJ,List.drop_zero]
     conv=>whnf
     repeat' (first| intro g| refine st ?_| refine br ?_ ?_<;>intro hc| rfl) <;>conv=>whnf
     all_goals simp
 | succ j=>
   have hx:e.line[j]? =some e.line[j]:=aju ajk;have d: ((j+1:Nat):Int) - 1=(j:Int):=ajk;have f:ps++[e.line[j]]=(e.line.drop j).reverse:=by rw[xJ,ajO (show j<e.line.length by omega),List.reverse_cons]
   have i:ps.length<=1000000:=by rw[xJ];simp;omega
   generalize e.line[j]=x at*;cases a with
   | none=>
     have:=uX rfl;obtain rfl:ps=[]:=by rw[xJ,this];simp
     clear xJ;conv=>whnf
     repeat' (first| intro g| refine wi (aw hx d) ?_| refine st ?_| refine br ?_ ?_<;>intro hc| rfl) <;>conv=>whnf
     exact aR.mk (j,[x],some g) om ⟨ajk,f,ajl⟩ su
   | some g5=>
     clear xJ;conv=>whnf
     repeat' (first| intro g| refine wi (aw hx d) ?_| refine st ?_| refine br ?_ ?_<;>intro hc| rfl) <;>conv=>whnf
     exact aR.mk (j,ps++[x],some g) om ⟨ajk,f,ajl⟩ su
def oa (es es':List aH) (ps:List Pt) (left right:Int):Prop:=
 (left=right/\es'=es)\/(left≠right/\ ∃e:aH,es'=es++[e]/\e.id=(es.length:Int)+1/\((e.line=ps/\e.left=left/\e.right=right)\/(e.line=ps.reverse/\e.left=right/\e.right=left)))
theorem F4 {l:List Int} (hl:l.length< 9223372036854775808) {es:List aH} (he:es.length< 1000) {ps:List Pt} (d:eZ ps) (left right:Int) (a0:Nat):
  ∃ (es':List aH) (a b:Nat),oa es es' ps left right/\Ev E 113 [.msl 4 (es.map aH.v) 0 es.length,iW ps,vi left,vi right,.mptr 2 [da l a0] 0 0] ⟨.sl 0 b 0 es'.length,[(b,es'.map aH.v),(0,[da l a])]⟩:=by
 have key:=Ev.cg (R:=fun r=> ∃ (es':List aH) (a b:Nat),oa es es' ps left right/\r=⟨.sl 0 b 0 es'.length,[(b,es'.map aH.v),(0,[da l a])]⟩) acj (ack [.msl 4 (es.map aH.v) 0 es.length,iW ps,vi left,vi right,.mptr 2 [da l a0] 0 0]) rfl ?_
 .obtain⟨res,h1,es',a,b,h2,rfl⟩:=key;exact⟨es',a,b,h2,h1⟩
 have uU:=he;have e:=cD hl 2 (a:=a0) ajk ajk;have KY:IntKind.i64.wrap ((es.length:Int)+1)=(es.length:Int)+1:=bo ajk ajk;have c:=KX ⟨IntKind.i64.wrap ((es.length:Int)+1),ps,left,right⟩ (by intro h;dsimp only at h;subst h;have:=d.1;simp at this) (by dsimp only;have:=d.2;omega);by_cases Ya:left=right
 .conv=>whnf
  repeat' (first| contradiction| intro g| apply ca e| apply ca c| refine st ?_| refine br ?_ ?_<;>intro hc| rfl) <;>conv=>whnf
  all_goals exact⟨es,a0,0,.inl ⟨Ya,rfl⟩,rfl⟩
 conv=>whnf
 repeat' (first| contradiction| intro g| apply ca e| apply ca c| refine st ?_| refine br ?_ ?_<;>intro hc| rfl) <;>conv=>whnf
 .refine⟨es++[⟨IntKind.i64.wrap ((es.length:Int)+1),ps.reverse,right,left⟩],cm l a0,g,.inr ⟨Ya,_,rfl,KY,.inr ⟨rfl,rfl,rfl⟩⟩,?_⟩;simp only[ajV,List.map_cons,alj,List.length_append,ajC,ajJ,List.length_map];rfl
 refine⟨es++[⟨IntKind.i64.wrap ((es.length:Int)+1),ps,left,right⟩],cm l a0,g,.inr ⟨Ya,_,rfl,KY,.inl ⟨rfl,rfl,rfl⟩⟩,?_⟩;simp only[ajV,List.map_cons,alj,List.length_append,ajC,ajJ,List.length_map];rfl
def lu (cs:List Int) (w h:Nat) (i j:Int):Int:=if 0<=i/\0<=j/\i<w/\j<h then cs.getD (2*i.toNat+j.toNat) 0 else 0
theorem wU {cs:List Int} (b:cs.length=6) {w h:Nat} (hw:w<=3) (hh:h<=2) (i j:Int):alH 116 [.agg (cs.map vi),au w,au h,vi i,vi j] (vi (lu cs w h i j)):=by
 unfold lu;refine amM ?_
 match cs,b with
 | [x0,x1,x2,x3,x4,x5],_=>
   by_cases a:0<=i/\0<=j/\i<w/\j<h
   . rw[if_pos a]
     rcases(by omega:i=0\/i=1\/i=2) with rfl| rfl| rfl<;>rcases(by omega:j=0\/j=1) with rfl| rfl
     all_goals
      conv=>whnf
      repeat' (first| ((exfalso;omega)) | intro g| refine st ?_| refine br ?_ ?_<;>intro hc| rfl) <;>conv=>whnf
   rw[if_neg a];conv=>whnf
   repeat' (first| ((exfalso;omega)) | intro g| refine st ?_| refine br ?_ ?_<;>intro hc| rfl) <;>conv=>whnf
def np (c p:Pt):Prop:=(c.x - 13<=p.x/\p.x<=c.x+13)/\c.y - 13<=p.y/\p.y<=c.y+13
theorem KZ {l:List Int} (hl:l.length< 9223372036854775808) {es:List aH} (he:es.length< 1000) {c:Pt} (hc:Wr c) (d:Int) (a0:Nat):
  ∃res,Ev E 117 [.msl 4 (es.map aH.v) 0 es.length,c.v,vi d,.mptr 2 [da l a0] 0 0] res/\ ∃ (es':List aH) (a b:Nat),(∃ps,eZ ps/\(∀p ∈ ps,np c p)/\oa es es' ps 28 d)/\res=⟨.sl 0 b 0 es'.length,[(b,es'.map aH.v),(0,[da l a])]⟩:=by
 refine amN ?_;obtain⟨⟨c1,c2⟩,c3,c4⟩:=hc;have e:=cD hl 8 (a:=a0) ajk ajk;have hb:=fF (l:=l) (a:=a0) (n:=8) ajk ajk;have m:=fun a=>cD hl 2 (a:=a) ajk ajk;generalize eR l a0 8=r at e hb;have f:IntKind.i64.wrap (6+(r:Int))=6+r:=bo ajk ajk;have h:IntKind.i64.wrap (c.x - (6+(r:Int)))=c.x - (6+r):=bo ajk ajk;have w3:IntKind.i64.wrap (c.x+(6+(r:Int)))=c.x+(6+r):=bo ajk ajk;have i:IntKind.i64.wrap (c.y - (6+(r:Int)))=c.y - (6+r):=bo ajk ajk;have j:IntKind.i64.wrap (c.y+(6+(r:Int)))=c.y+(6+r):=bo ajk ajk;have o:IntKind.i64.wrap (c.y+2)=c.y+2:=bo ajk ajk;have uU:=he;have k: ∀ (ps:List Pt) (a:Nat),eZ ps-> ∃res,Ev E 113 [.msl 4 (es.map aH.v) 0 es.length,iW ps,vi 28,vi d,.mptr 2 [da l a] 0 0] res/\ ∃ (es':List aH) (a b:Nat),oa es es' ps 28 d/\res=⟨.sl 0 b 0 es'.length,[(b,es'.map aH.v),(0,[da l a])]⟩:=fun ps a q=>by obtain⟨es',a',b,h1,h2⟩:=F4 hl he q 28 d a;exact⟨_,h2,es',a',b,h1,rfl⟩
 conv=>whnf
 repeat' (first| intro g| refine wi (jd rfl) ?_| apply ca e| apply ca (m _) | refine st ?_| refine br ?_ ?_<;>intro hc| rfl) <;>conv=>whnf
 .rw[f,h,w3,i,j,o];refine eQ.ex (k [⟨c.x - (6+r),c.y⟩,⟨c.x,c.y - (6+r)⟩,⟨c.x+(6+r),c.y+2⟩,⟨c.x,c.y+(6+r)⟩,⟨c.x - (6+r),c.y⟩] _ ⟨ajl,ajl⟩) ?_;rintro _ ⟨es',a,b,h1,rfl⟩;conv=>whnf
  repeat' (first| intro g| refine st ?_| refine br ?_ ?_<;>intro hc| rfl) <;>conv=>whnf
  refine⟨es',a,_,⟨_,?_,?_,h1⟩,rfl⟩
  .exact⟨ajl,ajl⟩
  intro p hp;simp only[ajy,List.not_mem_nil,or_false] at hp;rcases hp with rfl| rfl| rfl| rfl| rfl<;> (unfold np;dsimp only;omega)
 rw[f,h,w3,i,j];refine eQ.ex (k [⟨c.x - (6+r),c.y - (6+r)⟩,⟨c.x+(6+r),c.y - (6+r)⟩,⟨c.x+(6+r),c.y+(6+r)⟩,⟨c.x - (6+r),c.y - (6+r)⟩] _ ⟨ajl,ajl⟩) ?_;rintro _ ⟨es',a,b,h1,rfl⟩;conv=>whnf
 repeat' (first| intro g| refine st ?_| refine br ?_ ?_<;>intro hc| rfl) <;>conv=>whnf
 refine⟨es',a,_,⟨_,?_,?_,h1⟩,rfl⟩
 .exact⟨ajl,ajl⟩
 intro p hp;simp only[ajy,List.not_mem_nil,or_false] at hp;rcases hp with rfl| rfl| rfl| rfl<;> (unfold np;dsimp only;omega)
end Go.AM
namespace Go.AM.Dr
structure Ax (f:Pt->Int):Prop where
 adJ: ∀a b c p:Pt,fM b c p*f a+fM c a p*f b+fM a b p*f c=(fM b c p+fM c a p+fM a b p)*f p
 SQ: ∀a b d e:Pt,fM a b e*f d - fM a b d*f e=fM d e a*f b - fM d e b*f a
 box: ∀ {a b p:Pt},tM a b p->(f a<=f p\/f b<=f p)/\(f p<=f a\/f p<=f b)
theorem Dg:Ax Pt.x:=⟨fun a b c p=>by unfold fM;grind,fun a b d e=>by unfold fM;grind,fun h=>h.1⟩
theorem Dh:Ax Pt.y:=⟨fun a b c p=>by unfold fM;grind,fun a b d e=>by unfold fM;grind,fun h=>h.2⟩
theorem Ax.neg {f:Pt->Int} (h:Ax f):Ax fun p=> - f p:=⟨fun a b c p=>by
 have:=h.adJ a b c p;grind,fun a b d e=>by
 have:=h.SQ a b d e;grind,fun hb=>by
 have:=h.box hb;omega⟩
theorem El (a b d e:Pt):fM a b e - fM a b d=fM d e a - fM d e b:=by unfold fM;grind
theorem SR (x:Int): (0<=pb x↔0<=x)/\(pb x<=0↔x<=0)/\(pb x=0↔x=0):=by rcases dq x with⟨h,k⟩ | ⟨h,k⟩ | ⟨h,k⟩ <;>omega
theorem oo {x y:Int} (h: ¬0 <pb x*pb y): (x<=0/\0<=y)\/(0<=x/\y<=0):=by rcases dq x with⟨h1,k1⟩ | ⟨h1,k1⟩ | ⟨h1,k1⟩ <;>rcases dq y with⟨h2,k2⟩ | ⟨h2,k2⟩ | ⟨h2,k2⟩ <;>rw[h1,h2] at h<;>first| omega| (exfalso;revert h;decide)
theorem MN {u v a b k:Int} (c:0<=u) (hv:0<=v) (ha:a<=k) (hb:b<=k):u*a+v*b<=(u+v)*k:=by have h1:=Int.mul_le_mul_of_nonneg_left ha c;have h2:=Int.mul_le_mul_of_nonneg_left hb hv;rw[Int.add_mul];omega
theorem MO {u v a b k:Int} (c:0<=u) (hv:0<=v) (hs:0 <u+v) (ha:k<a) (hb:k<b): (u+v)*k<u*a+v*b:=by have h1:=Int.mul_le_mul_of_nonneg_left (show k+1<=a by omega) c;have h2:=Int.mul_le_mul_of_nonneg_left (show k+1<=b by omega) hv;rw[Int.mul_add] at h1 h2;rw[Int.add_mul];omega
theorem oq (a b:Pt): (ui a b=a/\qV a b=b)\/(ui a b=b/\qV a b=a):=by
 unfold ui qV;split
 .exact .inr ⟨rfl,rfl⟩
 exact .inl ⟨rfl,rfl⟩
theorem SU (a b:Pt): ¬lx (qV a b) (ui a b):=by
 unfold ui qV;split
 .rename_i h;unfold lx at*;omega
 assumption
theorem It {a b c:Pt} (h:lx a b) (k:lx b c):lx a c:=by unfold lx at*;omega
theorem tj {a b c:Pt} (h: ¬lx b a) (k: ¬lx c b): ¬lx c a:=by unfold lx at*;omega
theorem yx (a b:Pt):jj a b a=0:=by unfold jj fM;simp[pb]
theorem yy (a b:Pt):jj a b b=0:=by
 have:fM a b b=0:=by unfold fM;grind
 unfold jj;rw[this];rfl
theorem Iu {a b d e:Pt} (hf:oh a b d e) (h: ¬lx (toP a b d e) (fe a b d e)):
  (tM a b (fe a b d e)/\tM d e (fe a b d e))/\tM a b (toP a b d e)/\tM d e (toP a b d e):=by
 obtain⟨f1,f2,f,g⟩:=hf;have l:=SU a b;have m:=SU d e;have hs: ∀ {p:Pt},p=a\/p=b\/p=d\/p=e->jj a b p=0/\jj d e p=0:=by
  intro p hp;rcases hp with rfl| rfl| rfl| rfl
  .exact⟨yx _ _,f⟩
  .exact⟨yy _ _,g⟩
  .exact⟨f1,yx _ _⟩
  exact⟨f2,yy _ _⟩
 have i:fe a b d e=a\/fe a b d e=b\/fe a b d e=d\/fe a b d e=e:=by unfold fe;rcases oq a b with⟨h1,_⟩ | ⟨h1,_⟩ <;>rcases oq d e with⟨h2,_⟩ | ⟨h2,_⟩ <;>rw[h1,h2] <;>split<;>simp
 have j:toP a b d e=a\/toP a b d e=b\/toP a b d e=d\/toP a b d e=e:=by unfold toP;rcases oq a b with⟨_,h1⟩ | ⟨_,h1⟩ <;>rcases oq d e with⟨_,h2⟩ | ⟨_,h2⟩ <;>rw[h1,h2] <;>split<;>simp
 have c: ¬lx (fe a b d e) (ui a b)/\ ¬lx (fe a b d e) (ui d e):=by
  unfold fe;split
  .rename_i hh;exact⟨fun h=>jY _ (It h hh),jY _⟩
  rename_i hh;exact⟨jY _,hh⟩
 have Z4: ¬lx (qV a b) (toP a b d e)/\ ¬lx (qV d e) (toP a b d e):=by
  unfold toP;split
  .rename_i hh;exact⟨fun h=>jY _ (It h hh),jY _⟩
  rename_i hh;exact⟨jY _,hh⟩
 obtain⟨s1,s2⟩:=hs i;obtain⟨s3,k⟩:=hs j;exact⟨⟨(nq s1).1 ⟨c.1,tj h Z4.1⟩,(nq s2).1 ⟨c.2,tj h Z4.2⟩⟩,
  (nq s3).1 ⟨tj c.1 h,Z4.1⟩,(nq k).1 ⟨tj c.2 h,Z4.2⟩⟩
section
variable {f:Pt->Int} (ax:Ax f)
include ax
theorem u7 {a b d e:Pt} {k:Int} (ha:f a<=k) (hb:f b<=k) (hd:k<f d) (he:k<f e):fH a b d e=0:=by
 unfold fH;split
 .rename_i hf;split
  .rfl
  rename_i hn;obtain⟨⟨h1,h2⟩,_⟩:=Iu hf hn;have:=ax.box h1;have:=ax.box h2;omega
 rename_i hf;split
 .rfl
 rename_i hn;exfalso;have g:=oo (x:=fM a b d) (y:=fM a b e) fun h=>hn (.inl h);have o:=oo (x:=fM d e a) (y:=fM d e b) fun h=>hn (.inr h);have hc:=ax.SQ a b d e;have hs:=El a b d e;have p: ¬ (fM a b e - fM a b d=0):=fun h0=>hf (by
  have j:fM a b d=0:=by omega
  have l:fM a b e=0:=by omega
  have m:fM d e a=0:=by omega
  have n:fM d e b=0:=by omega
  unfold oh jj;rw[j,l,m,n];exact⟨rfl,rfl,rfl,rfl⟩)
 generalize fM a b d=A at*;generalize fM a b e=B at*;generalize fM d e a=C at*;generalize fM d e b=D at*;rcases g with⟨g,n1'⟩ | ⟨g,n1'⟩
 .have c:=MO (u:=B) (v:= -A) (k:=k) n1' (by omega) (by omega) hd he;have i:0<=C/\D<=0:=by omega
  have g3:=MN (u:=C) (v:= -D) (k:=k) i.1 (by omega) hb ha;rw[show B+ -A=C+ -D by omega] at c;simp only[Int.neg_mul] at c g3;omega
 have c:=MO (u:= -B) (v:=A) (k:=k) (by omega) g (by omega) hd he;have i:C<=0/\0<=D:=by omega
 have g3:=MN (u:= -C) (v:=D) (k:=k) (by omega) i.2 hb ha;rw[show -B+A= -C+D by omega] at c;simp only[Int.neg_mul] at c g3;omega
theorem yz {a b c p:Pt} {k:Int} (ha:f a<=k) (hb:f b<=k) (hc:f c<=k) (hp:k<f p):Z1 a b c p=false:=by
 have d: ∀ {x y:Pt},f x<=k->f y<=k->Ej x y p=false:=by intro x y hx hy;unfold Ej;rw[decide_eq_false];rintro⟨h,_⟩;have:=ax.box h;omega
 unfold Z1;split
 .rw[d ha hb,d hb hc,d hc ha];rfl
 rename_i hs;rw[decide_eq_false];intro h;have JP:=ax.adJ a b c p;have j:fM b c p+fM c a p+fM a b p=fM a b c:=by unfold fM;grind
 have l: ¬fM a b c=0:=fun h=>hs (by unfold jj;rw[h];rfl);unfold jj at h;simp only[(SR _).1,(SR _).2.1] at h;generalize fM a b p=C at*;generalize fM b c p=A at*;generalize fM c a p=B at*;rcases h with⟨h1,h2,h3⟩ | ⟨h1,h2,h3⟩
 .have g:=Int.mul_le_mul_of_nonneg_left ha h2;have i:=Int.mul_le_mul_of_nonneg_left hb h3;have g3:=Int.mul_le_mul_of_nonneg_left hc h1;have g4: (A+B+C)*(k+1)<=(A+B+C)*f p:=Int.mul_le_mul_of_nonneg_left (by omega) (by omega);rw[Int.mul_add,Int.add_mul,Int.add_mul] at g4;omega
 have g:=Int.mul_le_mul_of_nonneg_left ha (show 0<= -A by omega);have i:=Int.mul_le_mul_of_nonneg_left hb (show 0<= -B by omega);have g3:=Int.mul_le_mul_of_nonneg_left hc (show 0<= -C by omega);have g4: (-A+ -B+ -C)*(k+1)<=(-A+ -B+ -C)*f p:=Int.mul_le_mul_of_nonneg_left (by omega) (by omega);rw[Int.mul_add,Int.add_mul,Int.add_mul] at g4;have e: (A+B+C)*f p= -((-A+ -B+ -C)*f p):=by rw[<-Int.neg_mul];congr 1;omega
 simp only[Int.neg_mul] at g i g3 g4;omega
omit ax in
theorem SV (a b:Pt):Ej a b a=true/\Ej a b b=true:=by
 unfold Ej;constructor
 .rw[decide_eq_true ⟨by unfold tM;omega,yx a b⟩]
 rw[decide_eq_true ⟨by unfold tM;omega,yy a b⟩]
omit ax in
theorem MP {a b v:Pt} (h:v=a\/v=b):Ej a b v=true:=by
 rcases h with rfl| rfl
 .exact(SV _ _).1
 exact(SV _ _).2
theorem WE {a b d e v:Pt} {k:Int} (ha:f a<=k/\(f a=k->a=v)) (hb:f b<=k/\(f b=k->b=v)) (hd:k<=f d/\(f d=k->d=v)) (he:k<=f e/\(f e=k->e=v)):
  fH a b d e=0\/(fH a b d e=1/\(v=a\/v=b)/\(v=d\/v=e)):=by
 unfold fH;split
 .rename_i hf;split
  .exact .inl rfl
  rename_i hn;obtain⟨⟨h1,h2⟩,h3,h4⟩:=Iu hf hn;have b1:=ax.box h1;have s:=ax.box h2;have t:=ax.box h3;have u:=ax.box h4;have C8:v=a\/v=b:=by
   by_cases c:f a=k
   .exact .inl (ha.2 c).symm
   exact .inr (hb.2 (by omega)).symm
  have Qe:v=d\/v=e:=by
   by_cases c:f d=k
   .exact .inl (hd.2 c).symm
   exact .inr (he.2 (by omega)).symm
  have hm: ∀ {p:Pt},(p=a\/p=b\/p=d\/p=e)->f p=k->p=v:=by
   intro p hp g;rcases hp with rfl| rfl| rfl| rfl
   .exact ha.2 g
   .exact hb.2 g
   .exact hd.2 g
   exact he.2 g
  have i:fe a b d e=a\/fe a b d e=b\/fe a b d e=d\/fe a b d e=e:=by unfold fe;rcases oq a b with⟨h1,_⟩ | ⟨h1,_⟩ <;>rcases oq d e with⟨h2,_⟩ | ⟨h2,_⟩ <;>rw[h1,h2] <;>split<;>simp
  have j:toP a b d e=a\/toP a b d e=b\/toP a b d e=d\/toP a b d e=e:=by unfold toP;rcases oq a b with⟨_,h1⟩ | ⟨_,h1⟩ <;>rcases oq d e with⟨_,h2⟩ | ⟨_,h2⟩ <;>rw[h1,h2] <;>split<;>simp
  rw[hm i (by omega),hm j (by omega),if_pos rfl];exact .inr ⟨rfl,C8,Qe⟩
 rename_i hf;split
 .exact .inl rfl
 rename_i hn;refine .inr ⟨rfl,?_⟩;have w:=oo (x:=fM a b d) (y:=fM a b e) fun h=>hn (.inl h);have z:=oo (x:=fM d e a) (y:=fM d e b) fun h=>hn (.inr h);have hc:=ax.SQ a b d e;have hs:=El a b d e;have A: ¬ (fM a b e - fM a b d=0):=fun h0=>hf (by
  have c:fM a b d=0:=by omega
  have l:fM a b e=0:=by omega
  have m:fM d e a=0:=by omega
  have n:fM d e b=0:=by omega
  unfold oh jj;rw[c,l,m,n];exact⟨rfl,rfl,rfl,rfl⟩)
 by_cases Qe:v=d\/v=e
 .refine⟨?_,Qe⟩;apply Classical.byContradiction;intro C8;have Q1:f a<=k - 1:=by have:f a≠k:=fun h=>C8 (.inl (ha.2 h).symm);omega
  have o:f b<=k - 1:=by have:f b≠k:=fun h=>C8 (.inr (hb.2 h).symm);omega
  have:=u7 ax Q1 o (d:=d) (e:=e) (by omega) (by omega);unfold fH at this;rw[if_neg hf,if_neg hn] at this;exact absurd this (by decide)
 exfalso;have q:k<f d:=by have:f d≠k:=fun h=>Qe (.inl (hd.2 h).symm);omega
 have r:k<f e:=by have:f e≠k:=fun h=>Qe (.inr (he.2 h).symm);omega
 have:=u7 ax ha.1 hb.1 q r;unfold fH at this;rw[if_neg hf,if_neg hn] at this;exact absurd this (by decide)
theorem K5 {x y d e a c v:Pt} {k:Int} (hx:f x<=k/\(f x=k->x=v)) (hy:f y<=k/\(f y=k->y=v)) (hd:k<=f d/\(f d=k->d=v)) (he:k<=f e/\(f e=k->e=v)) (hv:v=x\/v=y->v=a\/v=c):JO x y d e a c=false:=by
 unfold JO;rcases WE ax hx hy hd he with h| ⟨h,h1,h2⟩
 .rw[u6] at h;rw[h];rfl
 rw[u6] at h;rw[h,if_pos rfl];have hb:zm d e x y v=true:=by unfold zm;rw[MP h2,MP h1];rfl
 rcases hv h1 with b| b
 .rw[<-b,hb];rfl
 rw[<-b,hb];simp
omit ax in
theorem Iv (p:Pt):Z3 p p=true:=by simp[Z3]
theorem SX {a b c d v:Pt} {k:Int} (ha:f a<=k/\(f a=k->a=v)) (hb:f b<k) (hc:f c<=k/\(f c=k->c=v)) (hd:k<=f d/\(f d=k->d=v)):yw a b c d=false:=by
 unfold yw;by_cases e:f d=k
 .have hv:=hd.2 e;by_cases g:f a=k
  .rw[hv,<-ha.2 g,Iv];rfl
  by_cases h:f c=k
  .rw[hv,<-hc.2 h,Iv];simp
  rw[yz ax (k:=k - 1) (by omega) (by omega) (by omega) (by omega)];simp
 rw[yz ax (k:=k) ha.1 (by omega) hc.1 (by omega)];simp
theorem SY {a b c d e v:Pt} {k:Int} (ha:f a<=k/\(f a=k->a=v)) (hb:f b<k) (hc:f c<=k/\(f c=k->c=v)) (hd:k<=f d/\(f d=k->d=v)) (he:k<=f e/\(f e=k->e=v)):fj a b c d e=false:=by
 by_cases hv:f v=k
 .have i:f b<=k/\(f b=k->b=v):=⟨by omega,fun h=>by omega⟩;have g:v≠b:=fun h=>by rw[h] at hv;omega
  have t1:v=a\/v=b->v=a\/v=c:=fun h=>h.elim .inl fun h=>absurd h g;have t2:v=b\/v=c->v=a\/v=c:=fun h=>h.elim (fun h=>absurd h g) .inr;unfold fj;rw[SX ax ha hb hc hd,SX ax ha hb hc he,K5 ax ha i hd he t1,K5 ax i hc hd he t2,K5 ax hc ha hd he fun h=>h.elim .inr .inl];simp
 have j:k<f d:=by have:f d≠k:=fun h=>hv (by rw[<-hd.2 h];exact h);omega
 have l:k<f e:=by have:f e≠k:=fun h=>hv (by rw[<-he.2 h];exact h);omega
 have hh: ∀ {q:Pt},k<f q->yw a b c q=false:=fun h=>by unfold yw;rw[yz ax ha.1 (by omega) hc.1 h];simp
 have Q1: ∀ {x y:Pt},f x<=k->f y<=k->JO x y d e a c=false:=fun hx hy=>by unfold JO;rw[u6,u7 ax hx hy j l];rfl
 unfold fj;rw[hh j,hh l,Q1 ha.1 (by omega),Q1 (by omega) hc.1,Q1 hc.1 ha.1];simp
end
end Go.AM.Dr
