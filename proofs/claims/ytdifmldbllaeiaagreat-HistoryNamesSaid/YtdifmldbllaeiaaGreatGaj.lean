/- Texts of the proof. -/
import Derived.Test.YtdifmldbllaeiaaGreatGai
set_option maxRecDepth 20000
set_option maxHeartbeats 4000000
set_option linter.unusedSimpArgs false
set_option linter.unusedVariables false
namespace Go.AM
theorem WG {l:List Int} (hl:l.length< 9223372036854775808): ∃res,Ev E 86 [.lit 1 (l.map vi)] res/\ ∃ws:List bH,yA ws 12/\res=⟨.own 8 (ws.map bH.v),[]⟩:=by
 refine amN ?_;have d:=fun a=>cD hl 2 (a:=a) ajk ajk;have e:=fun a=>cD hl 3 (a:=a) ajk ajk;have h:=fun a=>cD hl 4 (a:=a) ajk ajk;conv=>whnf
 repeat' (first| intro g| refine st ?_| (refine fP.dF ?_;intro s) | refine br ?_ ?_<;>intro hc| rfl) <;>conv=>whnf
 rename_i gd;refine aO.by (fun ((j,ws,a,g):Nat×List bH×Nat×Nat)=> ⟨[(3,.ptr 176 gd 0 0),(4,.sl 81 g 0 ws.length),(5,au j)],[(176,⟨gd,2,false,false,some [da l a]⟩),(81,⟨g,8,true,false,some (ws.map bH.v)⟩)]⟩)
  (fun (j,ws,_,_)=>j<=2/\yA ws (3*j)) (fun (j,_)=>2 - j) (0,[],0,g) su ⟨ajl,ajl,ajl,ajl⟩ ?_
 rintro⟨j,ws,a,g⟩ ⟨hj,Eo⟩
 try dsimp only at hj Eo
 by_cases A:j< 2
 .conv=>whnf
  repeat' (first| intro g| refine st ?_| (refine fP.dF ?_;intro s) | refine br ?_ ?_<;>intro hc| rfl) <;>conv=>whnf
  refine aO.by (fun ((i,ws,a,g):Nat×List bH×Nat×Nat)=> ⟨[(3,.ptr 176 gd 0 0),(4,.sl 81 g 0 ws.length),(5,au j),(6,au i)],[(176,⟨gd,2,false,false,some [da l a]⟩),(81,⟨g,8,true,false,some (ws.map bH.v)⟩)]⟩)
   (fun (i,ws,_,_)=>i<=3/\yA ws (3*j+i)) (fun (i,_)=>3 - i) (0,ws,a,g) su ⟨ajl,Eo⟩ ?_
  clear Eo;rintro⟨i,ws,a,g⟩ ⟨hi,Eo⟩
  try dsimp only at hi Eo
  by_cases u:i< 3
  .obtain⟨p,hp⟩:=ie i j;obtain⟨q,m⟩:=ie (IntKind.i64.wrap ((i:Int)+1)) j;conv=>whnf
   repeat' (first| intro g| apply ca (d _) | apply ca hp| apply ca m| refine st ?_| (refine fP.dF ?_;intro s) | refine br ?_ ?_<;>intro hc| rfl) <;>conv=>whnf
   .refine eQ.ex (rV hl Eo ajk p q 0 (cm l a)) ?_;rintro _ ⟨G7,a',b,c,rfl⟩;conv=>whnf
    repeat' (first| intro g| refine st ?_| (refine fP.dF ?_;intro s) | refine br ?_ ?_<;>intro hc| rfl) <;>conv=>whnf
    exact aR.mk (i+1,G7,a',g+b) om ⟨om,c⟩ su
   exact aR.mk (i+1,ws,cm l a,g) om ⟨om,Eo.mono ajk⟩ su
  conv=>whnf
  repeat' (first| intro g| refine st ?_| (refine fP.dF ?_;intro s) | refine br ?_ ?_<;>intro hc| rfl) <;>conv=>whnf
  exact aR.mk (j+1,ws,a,g) om ⟨om,Eo.mono ajk⟩ su
 conv=>whnf
 repeat' (first| intro g| refine st ?_| (refine fP.dF ?_;intro s) | refine br ?_ ?_<;>intro hc| rfl) <;>conv=>whnf
 refine aO.by (fun ((i,ws,a,g):Nat×List bH×Nat×Nat)=> ⟨[(3,.ptr 176 gd 0 0),(4,.sl 81 g 0 ws.length),(7,au i)],[(176,⟨gd,2,false,false,some [da l a]⟩),(81,⟨g,8,true,false,some (ws.map bH.v)⟩)]⟩)
  (fun (i,ws,_,_)=>i<=4/\yA ws (6+i)) (fun (i,_)=>4 - i) (0,ws,a,g) su ⟨ajl,Eo.mono ajk⟩ ?_
 clear Eo;rintro⟨i,ws,a,g⟩ ⟨hi,Eo⟩
 try dsimp only at hi Eo
 by_cases u:i< 4
 .by_cases w:ws.length< 5
  .obtain⟨p,hp⟩:=ie i 0;obtain⟨q,m⟩:=ie i 1;conv=>whnf
   repeat' (first| intro g| apply ca (d _) | apply ca hp| apply ca m| refine st ?_| (refine fP.dF ?_;intro s) | refine br ?_ ?_<;>intro hc| rfl) <;>conv=>whnf
   .  refine eQ.ex (rV hl Eo ajk p q 0 (cm l a)) ?_
      rintro _ ⟨G7,a',b,c,rfl⟩;conv=>whnf
      repeat' (first| intro g| refine st ?_| (refine fP.dF ?_;intro s) | refine br ?_ ?_<;>intro hc| rfl) <;>conv=>whnf
      exact aR.mk (i+1,G7,a',g+b) om ⟨om,c⟩ su
   exact aR.mk (i+1,ws,cm l a,g) om ⟨om,Eo.mono ajk⟩ su
  obtain⟨n,WH⟩:=ie 0 0;obtain⟨o,WI⟩:=ie 1 1;obtain⟨r,F9⟩:=ie 3 0;obtain⟨t,WJ⟩: ∃f:Int->Pt,∀x,alH 120 [vi x,vi 1] ((f x).v):=⟨fun x=> (ie x 1).choose,fun x=> (ie x 1).choose_spec⟩;conv=>whnf
  repeat' (first| intro g| apply ca (d _) | apply ca (e _) | apply ca (h _) | apply ca WH| apply ca WI| apply ca F9| apply ca (WJ _) | refine st ?_| (refine fP.dF ?_;intro s) | refine br ?_ ?_<;>intro hc| rfl) <;>conv=>whnf
  .  refine eQ.ex (rV hl Eo ajk _ _ _ _) ?_
     rintro _ ⟨G7,a',b,c,rfl⟩;conv=>whnf
     repeat' (first| intro g| apply ca (d _) | apply ca (e _) | apply ca (h _) | apply ca WH| apply ca WI| apply ca F9| apply ca (WJ _) | refine st ?_| (refine fP.dF ?_;intro s) | refine br ?_ ?_<;>intro hc| rfl) <;>conv=>whnf
     .refine eQ.ex (rV hl c ajk _ _ _ _) ?_;rintro _ ⟨k,y,z,HA,rfl⟩;conv=>whnf
      repeat' (first| intro g| apply ca (d _) | apply ca (e _) | apply ca (h _) | apply ca WH| apply ca WI| apply ca F9| apply ca (WJ _) | refine st ?_| (refine fP.dF ?_;intro s) | refine br ?_ ?_<;>intro hc| rfl) <;>conv=>whnf
      exact⟨k,HA.mono ajk,rfl⟩
     exact⟨G7,c.mono ajk,rfl⟩
  .  refine eQ.ex (rV hl Eo ajk _ _ _ _) ?_
     rintro _ ⟨G7,a',b,c,rfl⟩;conv=>whnf
     repeat' (first| intro g| apply ca (d _) | apply ca (e _) | apply ca (h _) | apply ca WH| apply ca WI| apply ca F9| apply ca (WJ _) | refine st ?_| (refine fP.dF ?_;intro s) | refine br ?_ ?_<;>intro hc| rfl) <;>conv=>whnf
     exact⟨G7,c.mono ajk,rfl⟩
  exact⟨ws,Eo.mono ajk,rfl⟩
 obtain⟨n,WH⟩:=ie 0 0;obtain⟨o,WI⟩:=ie 1 1;obtain⟨r,F9⟩:=ie 3 0;obtain⟨t,WJ⟩: ∃f:Int->Pt,∀x,alH 120 [vi x,vi 1] ((f x).v):=⟨fun x=> (ie x 1).choose,fun x=> (ie x 1).choose_spec⟩;conv=>whnf
 repeat' (first| intro g| apply ca (d _) | apply ca (e _) | apply ca (h _) | apply ca WH| apply ca WI| apply ca F9| apply ca (WJ _) | refine st ?_| (refine fP.dF ?_;intro s) | refine br ?_ ?_<;>intro hc| rfl) <;>conv=>whnf
 .refine eQ.ex (rV hl Eo ajk _ _ _ _) ?_;rintro _ ⟨G7,a',b,c,rfl⟩;conv=>whnf
  repeat' (first| intro g| apply ca (d _) | apply ca (e _) | apply ca (h _) | apply ca WH| apply ca WI| apply ca F9| apply ca (WJ _) | refine st ?_| (refine fP.dF ?_;intro s) | refine br ?_ ?_<;>intro hc| rfl) <;>conv=>whnf
  .  refine eQ.ex (rV hl c ajk _ _ _ _) ?_
     rintro _ ⟨k,y,z,HA,rfl⟩;conv=>whnf
     repeat' (first| intro g| apply ca (d _) | apply ca (e _) | apply ca (h _) | apply ca WH| apply ca WI| apply ca F9| apply ca (WJ _) | refine st ?_| (refine fP.dF ?_;intro s) | refine br ?_ ?_<;>intro hc| rfl) <;>conv=>whnf
     exact⟨k,HA.mono ajk,rfl⟩
  exact⟨G7,c.mono ajk,rfl⟩
 .refine eQ.ex (rV hl Eo ajk _ _ _ _) ?_;rintro _ ⟨G7,a',b,c,rfl⟩;conv=>whnf
  repeat' (first| intro g| apply ca (d _) | apply ca (e _) | apply ca (h _) | apply ca WH| apply ca WI| apply ca F9| apply ca (WJ _) | refine st ?_| (refine fP.dF ?_;intro s) | refine br ?_ ?_<;>intro hc| rfl) <;>conv=>whnf
  exact⟨G7,c.mono ajk,rfl⟩
 exact⟨ws,Eo.mono ajk,rfl⟩
structure Ga where
 x:Int
 y:Int
 z:Int
def Ga.v (s:Ga):V:= .agg [vi s.x,vi s.y,vi s.z]
structure gv where
 id:Int
 qM:List Ga
 left:Int
 right:Int
def gv.v (t:gv):V:= .agg [vi t.id,.lit 3 (t.qM.map Ga.v),vi t.left,vi t.right]
theorem Ga.aV (l:List Ga):V.al (l.map Ga.v)=true:=AM.aV (fun _=>rfl) l
theorem gv.aV (l:List gv):V.al (l.map gv.v)=true:=AM.aV (fun _=>rfl) l
def adK (a:List gv):Prop:=a.length< 1000/\ ∀t ∈ a,t.qM.length<=5
theorem OX {es:List aH} {n:Nat} (he:oQ es n) (hn:n< 1000): ∃res,Ev E 164 [.lit 4 (es.map aH.v)] res/\ ∃a:List gv,adK a/\res=⟨.own 4 (a.map gv.v),[]⟩:=by
 refine amN ?_;have uU:=he.1;conv=>whnf
 repeat' (first| intro g| refine st ?_| refine br ?_ ?_<;>intro hc| rfl) <;>conv=>whnf
 refine aO.by (fun ((k,a,g):Nat×List gv×Nat)=> ⟨[(0,.lit 4 (es.map aH.v)),(3,.sl 65 g 0 a.length),(4,au k)],[(65,⟨g,4,true,false,some (a.map gv.v)⟩)]⟩)
  (fun (k,a,g)=>k<=es.length/\a.length=k/\ ∀t ∈ a,t.qM.length<=5) (fun (k,_)=>es.length - k) (0,[],g) su ⟨ajl,ajl,ajl⟩ ?_
 rintro⟨k,a,g⟩ ⟨hk,ht,hts⟩
 try dsimp only at hk ht hts
 by_cases l:k<es.length
 .obtain⟨e,d⟩: ∃e,es[k]? =some e:=⟨_,aM l⟩;have f:=he.2 e (List.mem_of_getElem? d);have X4:=f.1;have JQ:=f.2;conv=>whnf
  repeat' (first| intro g| refine wi (aw d rfl) ?_| refine st ?_| refine br ?_ ?_<;>intro hc| rfl) <;>conv=>whnf
  rename_i g5;refine aO.by (fun ((i,b,c):Nat×List Ga×Option Nat)=> ⟨[(0,.lit 4 (es.map aH.v)),(3,.sl 65 g5 0 a.length),(4,au k),(5,.ptr 96 g 0 0),(6,au i)],
   match c with
   | none=> [(65,⟨g5,4,true,false,some (a.map gv.v)⟩),(96,⟨g,4,false,false,some [.agg [vi e.id,.nils,vi e.left,vi e.right]]⟩)]
   | some j=> [(65,⟨g5,4,true,false,some (a.map gv.v)⟩),(96,⟨g,4,false,false,some [.agg [vi e.id,.sl 99 j 0 b.length,vi e.left,vi e.right]]⟩),(99,⟨j,3,true,false,some (b.map Ga.v)⟩)]⟩)
   (fun (i,b,c)=>i<=e.line.length/\b.length=i/\(c=none->b=[])) (fun (i,_)=>e.line.length - i) (0,[],none) ?_ ⟨ajl,ajl,ajl⟩ ?_
  .exact su
  rintro⟨i,b,c⟩ ⟨hi,hs,uX⟩
  try dsimp only at hi hs uX
  by_cases G0:i<e.line.length
  .obtain⟨x,hx⟩: ∃x,e.line[i]? =some x:=⟨_,aM G0⟩;have Ep:alH 199 [x.v] (.agg [vi x.x,vi x.y,vi 1]):=s8 x.x x.y;cases c with
   | none=>
     obtain rfl:=uX rfl;conv=>whnf
     repeat' (first| intro g| refine wi (aw d rfl) ?_| refine wi (aw hx rfl) ?_| apply ca Ep| refine st ?_| refine br ?_ ?_<;>intro hc| rfl) <;>conv=>whnf
     exact aR.mk (i+1,[⟨x.x,x.y,1⟩],some g) om ⟨om,by simp at hs ⊢;omega,ajl⟩ su
   | some j=>
     conv=>whnf
     repeat' (first| intro g| refine wi (aw d rfl) ?_| refine wi (aw hx rfl) ?_| apply ca Ep| refine st ?_| refine br ?_ ?_<;>intro hc| rfl) <;>conv=>whnf
     exact aR.mk (i+1,b++[⟨x.x,x.y,1⟩],some g) om ⟨om,by simp;omega,ajl⟩ su
  cases c with
  | none=>
    obtain rfl:=uX rfl;simp at hs;omega
  | some j=>
    conv=>whnf
    repeat' (first| intro g| refine wi (aw d rfl) ?_| refine st ?_| refine br ?_ ?_<;>intro hc| rfl) <;>conv=>whnf
    refine aR.mk (k+1,a++[⟨e.id,b,e.left,e.right⟩],g) om ⟨om,by simp;omega,?_⟩ su;intro t h;rcases ajD.1 h with h| h
    .exact hts t h
    have:t=⟨e.id,b,e.left,e.right⟩:=by simpa using h
    subst this;dsimp only;omega
 conv=>whnf
 repeat' (first| intro g| refine st ?_| refine br ?_ ?_<;>intro hc| rfl) <;>conv=>whnf
 exact⟨a,⟨ajk,hts⟩,rfl⟩
theorem Gb {a:List gv} (ht:adK a) (p:Pt): ∃ (r:Int) (b:Bool),alH 163 [.lit 4 (a.map gv.v),p.v] (.tuple [vi r,.bool b]):=by
 have key:=Ev.cg (R:=fun res=> ∃ (r:Int) (b:Bool),res=⟨.tuple [vi r,.bool b],[]⟩) acz (acA [.lit 4 (a.map gv.v),p.v]) rfl ?_
 .obtain⟨res,h1,r,b,rfl⟩:=key;exact⟨r,b,h1⟩
 have Ep:alH 199 [p.v] (.agg [vi p.x,vi p.y,vi 1]):=s8 p.x p.y;have n:=ht.1;conv=>whnf
 repeat' (first| intro g| apply ca Ep| apply ca (By _ _ _) | refine st ?_| refine br ?_ ?_<;>intro hc| rfl) <;>conv=>whnf
 .exact⟨_,_,rfl⟩
 refine aO.by (fun (k:Nat)=> ⟨[(0,.lit 4 (a.map gv.v)),(3,.ptr 64 g 0 0),(6,au k)],[(64,⟨g,2,false,false,some [p.v]⟩)]⟩)
  (fun k=>k<=a.length) (fun k=>a.length - k) 0 su om ?_
 intro k l;by_cases e:k<a.length
 .obtain⟨t,he⟩: ∃t,a[k]? =some t:=⟨_,aM e⟩;have f:=ht.2 t (List.mem_of_getElem? he);conv=>whnf
  repeat' (first| intro g| refine st ?_| refine br ?_ ?_<;>intro hc| rfl) <;>conv=>whnf
  refine aO.by (fun (i:Nat)=> ⟨[(0,.lit 4 (a.map gv.v)),(3,.ptr 64 g 0 0),(6,au k),(7,au i)],[(64,⟨g,2,false,false,some [p.v]⟩)]⟩)
   (fun i=>i<=t.qM.length) (fun i=>t.qM.length - i) 0 su om ?_
  intro i hi;by_cases G0:i<t.qM.length
  .obtain⟨s,hs⟩: ∃s,t.qM[i]? =some s:=⟨_,aM G0⟩;have hb:alH 198 [s.v] (.bool (HF s.x s.y s.z)):=By s.x s.y s.z;conv=>whnf
   repeat' (first| intro g| refine wi (aw he rfl) ?_| refine wi (aw hs rfl) ?_| apply ca hb| refine st ?_| refine br ?_ ?_<;>intro hc| rfl) <;>conv=>whnf
   .exact⟨_,_,rfl⟩
   exact aR.mk (i+1) om om su
  conv=>whnf
  repeat' (first| intro g| refine wi (aw he rfl) ?_| refine st ?_| refine br ?_ ?_<;>intro hc| rfl) <;>conv=>whnf
  exact aR.mk (k+1) om om su
 conv=>whnf
 repeat' (first| intro g| refine st ?_| refine br ?_ ?_<;>intro hc| rfl) <;>conv=>whnf
 rename_i g3;refine aO.by (fun ((k,found,a1,a2,a3,a4,a5,a6,a7):Nat×Bool×Int×Int×Int×Int×Int×Int×Int)=> ⟨[(0,.lit 4 (a.map gv.v)),(3,.ptr 64 g3 0 0),(8,.bool found),(9,.ptr 160 g 0 0),(10,au k)],[(64,⟨g3,2,false,false,some [p.v]⟩),(160,⟨g,7,false,false,some [.agg [vi a1,vi a2,vi a3,vi a4,vi a5,vi a6,vi a7]]⟩)]⟩)
  (fun (k,_)=>k<=a.length) (fun (k,_)=>a.length - k) (0,false,0,0,0,0,0,0,0) su om ?_
 rintro⟨k,found,a1,a2,a3,a4,a5,a6,a7⟩ l
 try dsimp only at l
 by_cases e:k<a.length
 .obtain⟨t,he⟩: ∃t,a[k]? =some t:=⟨_,aM e⟩;have f:=ht.2 t (List.mem_of_getElem? he);conv=>whnf
  repeat' (first| intro g| refine st ?_| refine br ?_ ?_<;>intro hc| rfl) <;>conv=>whnf
  refine aO.by (fun ((j,found,a1,a2,a3,a4,a5,a6,a7):Nat×Bool×Int×Int×Int×Int×Int×Int×Int)=> ⟨[(0,.lit 4 (a.map gv.v)),(3,.ptr 64 g3 0 0),(8,.bool found),(9,.ptr 160 g 0 0),(10,au k),(11,au j)],[(64,⟨g3,2,false,false,some [p.v]⟩),(160,⟨g,7,false,false,some [.agg [vi a1,vi a2,vi a3,vi a4,vi a5,vi a6,vi a7]]⟩)]⟩)
   (fun (j,_)=>j<=t.qM.length) (fun (j,_)=>t.qM.length - j) (0,found,a1,a2,a3,a4,a5,a6,a7) su om ?_
  rintro⟨j,found,a1,a2,a3,a4,a5,a6,a7⟩ hj
  try dsimp only at hj
  have m:IntKind.i64.wrap ((j:Int)+1)=((j+1:Nat):Int):=wt;by_cases h:j+1 <t.qM.length
  .obtain⟨x,hx⟩: ∃s,t.qM[j]? =some s:=⟨_,aM ajk⟩;obtain⟨y,hy⟩: ∃s,t.qM[j+1]? =some s:=⟨_,aM h⟩;have c:alH 200 [x.v,y.v,p.v] (.bool (onF x.x x.y x.z y.x y.y y.z p.x p.y)):=adp _ _ _ _ _ _ _ _;have d:alH 201 [x.v,y.v,p.v] (vi (HH x.x x.y x.z y.x y.y y.z p.x p.y)):=Ks _ _ _ _ _ _ _ _;cases found
   .  conv=>whnf
      repeat' (first| intro g| refine wi (aw he rfl) ?_| refine wi (aw hx rfl) ?_| refine wi (aw hy m) ?_| apply ca c| apply ca d| apply ca (DZ _ _ _ _ _ _ _ _ _ _ _ _ _ _) | refine st ?_| refine br ?_ ?_<;>intro hc| rfl) <;>conv=>whnf
      .exact⟨_,_,rfl⟩
      .exact aR.mk (j+1,true,y.x,y.y,y.z,x.x,x.y,x.z,t.left) om om su
      .exact aR.mk (j+1,true,x.x,x.y,x.z,y.x,y.y,y.z,t.right) om om su
      exact aR.mk (j+1,false,a1,a2,a3,a4,a5,a6,a7) om om su
   conv=>whnf
   repeat' (first| intro g| refine wi (aw he rfl) ?_| refine wi (aw hx rfl) ?_| refine wi (aw hy m) ?_| apply ca c| apply ca d| apply ca (DZ _ _ _ _ _ _ _ _ _ _ _ _ _ _) | refine st ?_| refine br ?_ ?_<;>intro hc| rfl) <;>conv=>whnf
   .exact⟨_,_,rfl⟩
   .exact aR.mk (j+1,true,y.x,y.y,y.z,x.x,x.y,x.z,t.left) om om su
   .exact aR.mk (j+1,true,a1,a2,a3,a4,a5,a6,a7) om om su
   .exact aR.mk (j+1,true,x.x,x.y,x.z,y.x,y.y,y.z,t.right) om om su
   .exact aR.mk (j+1,true,a1,a2,a3,a4,a5,a6,a7) om om su
   exact aR.mk (j+1,true,a1,a2,a3,a4,a5,a6,a7) om om su
  conv=>whnf
  repeat' (first| intro g| refine wi (aw he rfl) ?_| refine st ?_| refine br ?_ ?_<;>intro hc| rfl) <;>conv=>whnf
  exact aR.mk (k+1,found,a1,a2,a3,a4,a5,a6,a7) om om su
 conv=>whnf
 repeat' (first| intro g| refine st ?_| refine br ?_ ?_<;>intro hc| rfl) <;>conv=>whnf
 exact⟨_,_,rfl⟩
theorem aaa {es:List aH} {n:Nat} (he:oQ es n) (hn:n< 1000) (p:Pt): ∃ (r:Int) (b:Bool),alH 121 [.lit 4 (es.map aH.v),p.v] (.tuple [vi r,.bool b]):=by
 have key:=Ev.cg (R:=fun res=> ∃ (r:Int) (b:Bool),res=⟨.tuple [vi r,.bool b],[]⟩) aco (acp [.lit 4 (es.map aH.v),p.v]) rfl ?_
 .obtain⟨res,h1,r,b,rfl⟩:=key;exact⟨r,b,h1⟩
 conv=>whnf
 repeat' (first| intro g| refine st ?_| refine br ?_ ?_<;>intro hc| rfl) <;>conv=>whnf
 refine eQ.ex (OX he hn) ?_;rintro _ ⟨a,ht,rfl⟩;obtain⟨r,b,hr⟩:=Gb ht p;conv=>whnf
 repeat' (first| intro g| apply ca hr| refine st ?_| refine br ?_ ?_<;>intro hc| rfl) <;>conv=>whnf
 exact⟨_,_,rfl⟩
theorem w8 (m:aB) (hf:m.ak.length< 1000) (id:Int): ∃r:Int,alH 122 [m.v,vi id] (vi r):=by
 refine dJ (amN ?_);conv=>whnf
 repeat' (first| intro g| refine st ?_| refine br ?_ ?_<;>intro hc| rfl) <;>conv=>whnf
 refine aO.by (fun (k:Nat)=> ⟨[(1,vi id),(2,.ptr 48 g 0 0),(5,au k)],[(48,⟨g,4,false,false,some [m.v]⟩)]⟩)
  (fun k=>k<=m.ak.length) (fun k=>m.ak.length - k) 0 su om ?_
 intro k b;by_cases a:k<m.ak.length
 .obtain⟨f,hx⟩: ∃f,m.ak[k]? =some f:=⟨_,aM a⟩;conv=>whnf
  repeat' (first| intro g| refine wi (aw hx rfl) ?_| refine st ?_| refine br ?_ ?_<;>intro hc| rfl) <;>conv=>whnf
  .exact⟨_,rfl⟩
  exact aR.mk (k+1) om om su
 conv=>whnf
 repeat' (first| intro g| refine st ?_| refine br ?_ ?_<;>intro hc| rfl) <;>conv=>whnf
 exact⟨_,rfl⟩
def amF (p:aI):Prop:=(-16384<=p.x/\p.x<=16384/\ -16384<=p.y/\p.y<=16384)/\0<=p.weight/\p.weight<=1073741824
def Gc (ps:List aI) (n:Nat):Prop:=ps.length<=n/\(∀ (i:Nat) (p:aI),ps[i]? =some p->p.id=61+(i:Int))/\ ∀p ∈ ps,amF p
theorem amB {b a:Nat} (hb:b< 10) (ha:a< 3): -16384<=IntKind.i64.wrap (IntKind.i64.wrap (90+IntKind.i64.wrap (100*(a:Int)))+IntKind.i64.wrap (16+(b:Int)))/\IntKind.i64.wrap (IntKind.i64.wrap (90+IntKind.i64.wrap (100*(a:Int)))+IntKind.i64.wrap (16+(b:Int)))<=16384:=by rw[bo (n:=100*(a:Int)) ajk ajk,bo (n:=90+100*(a:Int)) ajk ajk,bo (n:=16+(b:Int)) ajk ajk,bo ajk ajk];omega
theorem amC {b a:Nat} (hb:b< 10) (ha:a< 3): -16384<=IntKind.i64.wrap (IntKind.i64.wrap (90+IntKind.i64.wrap (100*(a:Int)))+IntKind.i64.wrap (0 - IntKind.i64.wrap (16+(b:Int))))/\IntKind.i64.wrap (IntKind.i64.wrap (90+IntKind.i64.wrap (100*(a:Int)))+IntKind.i64.wrap (0 - IntKind.i64.wrap (16+(b:Int))))<=16384:=by rw[bo (n:=100*(a:Int)) ajk ajk,bo (n:=90+100*(a:Int)) ajk ajk,bo (n:=16+(b:Int)) ajk ajk,bo (n:=0 - (16+(b:Int))) ajk ajk,bo ajk ajk];omega
theorem amu {a b:Nat} (ha:a< 2) (hb:b< 51): -16384<=IntKind.i64.wrap (IntKind.i64.wrap (IntKind.i64.wrap (90+IntKind.i64.wrap (100*(a:Int)))+(b:Int)) - 25)/\IntKind.i64.wrap (IntKind.i64.wrap (IntKind.i64.wrap (90+IntKind.i64.wrap (100*(a:Int)))+(b:Int)) - 25)<=16384:=by rw[bo (n:=100*(a:Int)) ajk ajk,bo (n:=90+100*(a:Int)) ajk ajk,bo (n:=90+100*(a:Int)+(b:Int)) ajk ajk,bo ajk ajk];omega
theorem amG {a:Nat} (ha:a< 60):0<=IntKind.i64.wrap (1+(a:Int))/\IntKind.i64.wrap (1+(a:Int))<=1073741824:=by rw[bo ajk ajk];omega
theorem Gc.snoc {ps:List aI} {n:Nat} {p:aI} (h:Gc ps n) (k:p.id=61+(ps.length:Int)) (q:amF p):Gc (ps++[p]) (n+1):=by
 refine⟨by have:=h.1;simp;omega,fun i x hx=> ?_,fun x hx=>by
  rcases ajD.1 hx with hx| hx
  .exact h.2.2 x hx
  .rw[ajX.1 hx];exact q⟩
 by_cases hi:i<ps.length
 .rw[aj2 hi] at hx;exact h.2.1 i x hx
 rw[ajR ajk] at hx;have hl:i - ps.length=0:=by have:=(ajp.1 hx).1;simp at this;omega
 rw[hl] at hx;obtain rfl:p=x:=by simpa using hx
 rw[k];congr 1;omega
theorem Gc.mono {ps:List aI} {n m:Nat} (h:Gc ps n) (k:n<=m):Gc ps m:=⟨ajQ h.1 k,h.2⟩
theorem OY {l:List Int} (hl:l.length< 9223372036854775808) {m:aB} {n:Nat} (he:oQ m.aA n) (hn:n< 1000) (hf:m.ak.length< 1000): ∃res,Ev E 87 [m.v,.lit 1 (l.map vi)] res/\ ∃ps:List aI,Gc ps 6/\res=⟨.own 7 (ps.map aI.v),[]⟩:=by
 refine amN ?_;have A:=fun a=>cD hl 2 (a:=a) ajk ajk;have B:=fun a=>cD hl 3 (a:=a) ajk ajk;have C:=fun a=>cD hl 5 (a:=a) ajk ajk;have p:=fun a=>cD hl 10 (a:=a) ajk ajk;have q:=fun a=>cD hl 51 (a:=a) ajk ajk;have t:=fun a=>cD hl 60 (a:=a) ajk ajk;have u:=cD hl 7 (a:=0) ajk ajk;have hb:=fF (l:=l) (a:=0) (n:=7) ajk ajk;generalize eR l 0 7=many at hb u;have i: ∀x y,∃w:Int×Bool,alH 121 [.lit 4 (m.aA.map aH.v),.agg [vi x,vi y]] (.tuple [vi w.1,.bool w.2]):=by intro x y;obtain⟨r,b,h⟩:=aaa he hn ⟨x,y⟩;exact⟨(r,b),h⟩
 obtain⟨D,i⟩: ∃f:Int->Int->Int×Bool,∀x y,alH 121 [.lit 4 (m.aA.map aH.v),.agg [vi x,vi y]] (.tuple [vi (f x y).1,.bool (f x y).2]):=⟨fun x y=> (i x y).choose,fun x y=> (i x y).choose_spec⟩;obtain⟨F,hd⟩: ∃f:Int->Int,∀x,alH 122 [m.v,vi x] (vi (f x)):=⟨fun x=> (w8 m hf x).choose,fun x=> (w8 m hf x).choose_spec⟩;conv=>whnf
 repeat' (first| intro g| apply ca u| refine st ?_| (refine fP.dF ?_;intro s) | refine br ?_ ?_<;>intro hc| rfl) <;>conv=>whnf
 rename_i z _ gd;refine aO.by (fun ((k,ps,a,g):Nat×List aI×Nat×Nat)=> ⟨[(2,.ptr 48 z 0 0),(5,.ptr 256 gd 0 0),(6,.sl 113 g 0 ps.length),(7,au many),(8,au k)],
   [(48,⟨z,4,false,false,some [m.v]⟩),(256,⟨gd,2,false,false,some [da l a]⟩),(113,⟨g,7,true,false,some (ps.map aI.v)⟩)]⟩)
  (fun (k,ps,a,g)=>k<=many/\Gc ps k) (fun (k,_)=>many - k) (0,[],cm l 0,g) su ⟨ajl,ajl,ajl,ajl⟩ ?_
 rintro⟨k,ps,a,g⟩ ⟨hk,hp⟩
 try dsimp only at hk hp
 by_cases G:k<many
 .have H:=hp.1;have KY:IntKind.i64.wrap (61+(ps.length:Int))=61+(ps.length:Int):=bo ajk ajk;have c:=fF (l:=l) (a:=a) (n:=10) ajk ajk;have j:=fF (l:=l) (a:=(cm l (cm l a))) (n:=3) ajk ajk;have o:=fF (l:=l) (a:=(cm l (cm l (cm l a)))) (n:=2) ajk ajk;have d:=fF (l:=l) (a:=(cm l (cm l (cm l (cm l a))))) (n:=51) ajk ajk;have e:=fF (l:=l) (a:=(cm l (cm l (cm l (cm l (cm l a)))))) (n:=60) ajk ajk;conv=>whnf
  repeat' (first| intro g| apply ca (A _) | apply ca (B _) | apply ca (C _) | apply ca (p _) | apply ca (q _) | apply ca (t _) | apply ca (i _ _) | apply ca (hd _) | refine st ?_| (refine fP.dF ?_;intro s) | refine br ?_ ?_<;>intro hc| rfl) <;>conv=>whnf
  .exact aR.mk (k+1,ps++[⟨IntKind.i64.wrap (61+(ps.length:Int)),IntKind.i64.wrap (IntKind.i64.wrap (90+IntKind.i64.wrap (100*((eR l (cm l (cm l a)) 3:Nat):Int)))+IntKind.i64.wrap (0 - IntKind.i64.wrap (16+((eR l a 10:Nat):Int)))),IntKind.i64.wrap (IntKind.i64.wrap (IntKind.i64.wrap (90+IntKind.i64.wrap (100*((eR l (cm l (cm l (cm l a))) 2:Nat):Int)))+((eR l (cm l (cm l (cm l (cm l a)))) 51:Nat):Int)) - 25),_,_,IntKind.i64.wrap (1+((eR l (cm l (cm l (cm l (cm l (cm l a))))) 60:Nat):Int)),_⟩],_,g) om ⟨om,hp.snoc KY ⟨⟨(amC c j).1,(amC c j).2,(amu o d).1,(amu o d).2⟩,amG e⟩⟩ su
  .exact aR.mk (k+1,ps,_,_) om ⟨om,hp.mono ajk⟩ su
  .exact aR.mk (k+1,ps,_,_) om ⟨om,hp.mono ajk⟩ su
  .exact aR.mk (k+1,ps++[⟨IntKind.i64.wrap (61+(ps.length:Int)),IntKind.i64.wrap (IntKind.i64.wrap (90+IntKind.i64.wrap (100*((eR l (cm l (cm l a)) 3:Nat):Int)))+IntKind.i64.wrap (16+((eR l a 10:Nat):Int))),IntKind.i64.wrap (IntKind.i64.wrap (IntKind.i64.wrap (90+IntKind.i64.wrap (100*((eR l (cm l (cm l (cm l a))) 2:Nat):Int)))+((eR l (cm l (cm l (cm l (cm l a)))) 51:Nat):Int)) - 25),_,_,IntKind.i64.wrap (1+((eR l (cm l (cm l (cm l (cm l (cm l a))))) 60:Nat):Int)),_⟩],_,g) om ⟨om,hp.snoc KY ⟨⟨(amB c j).1,(amB c j).2,(amu o d).1,(amu o d).2⟩,amG e⟩⟩ su
  .exact aR.mk (k+1,ps,_,_) om ⟨om,hp.mono ajk⟩ su
  exact aR.mk (k+1,ps,_,_) om ⟨om,hp.mono ajk⟩ su
 conv=>whnf
 repeat' (first| intro g| refine st ?_| (refine fP.dF ?_;intro s) | refine br ?_ ?_<;>intro hc| rfl) <;>conv=>whnf
 exact⟨ps,hp.mono ajk,rfl⟩
theorem Gd {a:List (List Int)} (hs:y8 a) (i:Nat) (hi:i< 1000): ∃l:List Int,l.length< 9223372036854775808/\alH 84 [iX a,au i] (gZ l):=by
 have hl:=hs.1;by_cases h:i<a.length
 .obtain⟨l,hx⟩: ∃l,a[i]? =some l:=⟨_,aM h⟩;refine⟨l,hs.2 _ (List.mem_of_getElem? hx),?_⟩;refine amM ?_;conv=>whnf
  repeat' (first| intro g| refine wi (kx hx) ?_| refine st ?_| (refine fP.dF ?_;intro s) | refine br ?_ ?_<;>intro hc| rfl) <;>conv=>whnf
 refine⟨[],ajl,?_⟩;refine amM ?_;exact dr
theorem BV {α:Type} {f:α->V} {l:List α} {k n:Nat} (h:n=min k l.length):aN (l.map f) 0 n=(l.take k).map f:=by subst h;unfold aN;rw[List.drop_zero,<-alx,List.take_eq_take_min (i:=k)]
theorem ahL {α:Type} {f:α->V} {l:List α} {k:Nat} {a b c:V} (x:α): (((((l.map f).set ((k:Int)).toNat a).set ((k:Int)).toNat b).set ((k:Int)).toNat c).set ((k:Int)).toNat (f x))=(l.set k x).map f:=by simp only[List.set_set,akl,ajZ]
theorem ahM (n:Nat): (if (3:Int) < (n:Int) then(3:Int) else(n:Int)).toNat=min 3 n:=by split<;>omega
structure aB.adM (m:aB):Prop where
 aA:oQ m.aA 18
 ak:m.ak.length<=36
 aF:yA m.aF 12
 ar:Gc m.ar 6
def aB.vo (m:aB):V:= .agg [.lit 4 (m.aA.map aH.v),.lit 5 (m.ak.map aP.v),.lit 8 (m.aF.map bH.v),.own 7 (m.ar.map aI.v)]
theorem WK {fs:List aP} {k:Nat} {f g:aP} (h:fs[k]? =some f) (hg:g.id=f.id) (hn: (fs.map aP.id).Nodup): ((fs.set k g).map aP.id).Nodup:=by
 rw[akl,hg];have: (fs.map aP.id).set k f.id=fs.map aP.id:=by
  refine akp fun i=> ?_;by_cases hi:k=i
  .subst hi;rw[List.getElem?_set_self (by rw[List.length_map];exact(ajp.1 h).1),ajF,h];rfl
  rw[ak8 hi]
 rw[this];exact hn
theorem K8 {e:List (List Int)} (hs:y8 e): ∃res,Ev E 77 [iX e] res/\ ∃m:aB,(aB.adM m/\Ta m.aA/\(m.ak.map aP.id).Nodup)/\res=⟨m.vo,[]⟩:=by
 refine amN ?_;have Er:y8 (e.take 3):=⟨by have:=hs.1;simp;omega,fun l h=>hs.2 l (ajN h)⟩;obtain⟨b,h3,q⟩:=Gd hs 3 ajk;obtain⟨D,h4,r⟩:=Gd hs 4 ajk;obtain⟨F,h5,t⟩:=Gd hs 5 ajk;have u:=fun a=>cD h3 2 (a:=a) ajk ajk;have A:=fun a=>cD h3 3 (a:=a) ajk ajk;have B:=fun a=>cD h3 4 (a:=a) ajk ajk;have C:=fun a=>cD h3 6 (a:=a) ajk ajk;have i:=fun a=>cD h3 60 (a:=a) ajk ajk;have hl:=hs.1;conv=>whnf
 repeat' (first| intro g| refine wi (BV (k:=3) (by rw[List.length_map];exact ahM _)) ?_| refine st ?_| (refine fP.dF ?_;intro s) | refine br ?_ ?_<;>intro hc| rfl) <;>conv=>whnf
 refine eQ.ex (K7 Er) ?_;rintro _ ⟨es,fs,he,j,⟨hf,Am⟩,rfl⟩;conv=>whnf
 repeat' (first| intro g| apply ca q| refine st ?_| (refine fP.dF ?_;intro s) | refine br ?_ ?_<;>intro hc| rfl) <;>conv=>whnf
 rename_i p g3 gf;obtain⟨n,hn⟩: ∃n,fs.length=n:=⟨_,rfl⟩;refine aO.by (fun ((k,fs,a):Nat×List aP×Nat)=> ⟨[(0,iX e),(2,.ptr 48 p 0 0),(3,.ptr 64 g3 0 0),(4,.ptr 352 g 0 0),(5,au k)],
   [(48,⟨p,4,false,false,some [.agg [.lit 4 [],.lit 5 [],.lit 8 [],.lit 7 []]]⟩),(64,⟨g3,4,false,false,some [.agg [.lit 4 (es.map aH.v),.sl 232 gf 0 n,.lit 8 [],.lit 7 []]]⟩),(232,⟨gf,5,true,false,some (fs.map aP.v)⟩),(352,⟨g,2,false,false,some [da b a]⟩)]⟩)
  (fun (k,fs,a)=>k<=n/\fs.length=n/\(fs.map aP.id).Nodup) (fun (k,fs,_)=>n - k) (0,fs,0) (by subst hn;exact su) ⟨ajl,hn,Am⟩ ?_
 rw[hn] at hf;clear hn Am;rintro⟨k,fs,a⟩ ⟨hk,nr,Am⟩
 try dsimp only at hk nr Am
 by_cases G:k<n
 .obtain⟨f,hx⟩: ∃f,fs[k]? =some f:=⟨_,aM ajk⟩;conv=>whnf
  repeat' (first| intro g| refine wi (mi (mi (mi (aw hx rfl)))) ?_| refine wi (mi (mi (aw hx rfl))) ?_| refine wi (mi (aw hx rfl)) ?_| refine wi (aw hx rfl) ?_| apply ca (u _) | apply ca (A _) | apply ca (B _) | apply ca (C _) | apply ca (i _) | refine st ?_| (refine fP.dF ?_;intro s) | refine br ?_ ?_<;>intro hc| rfl) <;>conv=>whnf
  have FF: ∀c o w d (x y z:V),((((fs.map aP.v).set ((k:Int)).toNat x).set ((k:Int)).toNat y).set ((k:Int)).toNat z).set ((k:Int)).toNat (aP.v ⟨f.id,c,o,w,d⟩)=(fs.set k ⟨f.id,c,o,w,d⟩).map aP.v:=fun c o w d x y z=>ahL (f:=aP.v) _;rename_i cl;exact aR.mk (k+1,fs.set k ⟨f.id,cl,s,IntKind.i64.wrap (1+((eR b (cm b (cm b a)) 60:Nat):Int)),IntKind.i64.wrap (1+(IntKind.i64.wrap (((eR b (cm b (cm b (cm b a))) 4:Nat):Int)*((eR b (cm b (cm b (cm b (cm b a)))) 2:Nat):Int))).tmod 3)⟩,(cm b (cm b (cm b (cm b (cm b a)))))) om ⟨om,by simp[nr],WK hx rfl Am⟩ (by(refine⟨?_,?_⟩ <;>repeat' (first| exact True.intro| refine And.intro (congrArg (fun L=> (⟨gf,5,true,false,some L⟩:Obj)) (FF cl s (IntKind.i64.wrap (1+((eR b (cm b (cm b a)) 60:Nat):Int))) (IntKind.i64.wrap (1+(IntKind.i64.wrap (((eR b (cm b (cm b (cm b a))) 4:Nat):Int)*((eR b (cm b (cm b (cm b (cm b a)))) 2:Nat):Int))).tmod 3)) _ _ _)) ?_| refine ai ?_| refine And.intro ?_ ?_)))
 obtain rfl:k=n:=ajk;conv=>whnf
 repeat' (first| intro g| apply ca r| refine st ?_| (refine fP.dF ?_;intro s) | refine br ?_ ?_<;>intro hc| rfl) <;>conv=>whnf
 refine eQ.ex (WG h4) ?_;rintro _ ⟨ws,hw,rfl⟩;conv=>whnf
 repeat' (first| intro g| apply ca t| refine st ?_| (refine fP.dF ?_;intro s) | refine br ?_ ?_<;>intro hc| rfl) <;>conv=>whnf
 refine eQ.ex (OY h5 (m:=⟨es,fs,ws,[]⟩) he ajk om) ?_;rintro _ ⟨ps,hp,rfl⟩;conv=>whnf
 repeat' (first| intro g| refine st ?_| (refine fP.dF ?_;intro s) | refine br ?_ ?_<;>intro hc| rfl) <;>conv=>whnf
 exact⟨⟨es,fs,ws,ps⟩,⟨⟨he,om,hw,hp⟩,j,Am⟩,rfl⟩
end Go.AM
namespace Go.AM.Dr
theorem alV {S:List Int} (hs: ∀i j,i<j->j<S.length->S.getD i 0<=S.getD j 0): ∀t,t<=S.length->(iU S t).Pairwise (· < ·)/\ ∀x ∈ iU S t,0 <t/\x<=S.getD (t - 1) 0
 | 0,_=> ⟨by simp[iU],by simp[iU]⟩
 | t+1,ht=>by
   obtain⟨h1,h2⟩:=alV hs t (by omega);unfold iU;split
   .rename_i h;refine⟨h1,fun x hx=> ⟨by omega,?_⟩⟩;have:=(h2 x hx).2;rw[Nat.add_sub_cancel,h.2];exact this
   rename_i h;have e: ∀x ∈ iU S t,x<S.getD t 0:=fun x hx=>by obtain⟨a,b⟩:=h2 x hx;have c:=hs (t - 1) t (by omega) (by omega);have d:S.getD t 0≠S.getD (t - 1) 0:=fun k=>h ⟨a,k⟩;omega
   refine⟨List.pairwise_append.2 ⟨h1,by simp,fun a ha b hb=> ?_⟩,fun x hx=> ⟨by omega,?_⟩⟩
   .rw[List.mem_singleton.1 hb];exact e a ha
   rw[Nat.add_sub_cancel];rcases List.mem_append.1 hx with hx| hx
   .exact Int.le_of_lt (e x hx)
   rw[List.mem_singleton.1 hx];omega
theorem qn (l:List Int): (eG l).Pairwise (J0 · ·):=lU (fun a b c h1 h2=>by simp[J0] at h1 h2 ⊢;omega) (fun a b=>by simp[J0];omega) l
theorem amE (L:List Int): (kf (eG L)).Pairwise (· < ·):=by
 refine(alV (fun i j h1 h2=> ?_) _ (Nat.le_refl _)).1;have:=List.pairwise_iff_getElem.1 (qn L) i j (by omega) h2 h1;have h3: (eG L).getD i 0=(eG L)[i]'(by omega):=by simp[List.getD_eq_getElem?_getD,List.getElem?_eq_getElem (show i< (eG L).length by omega)]
 have h4: (eG L).getD j 0=(eG L)[j]'h2:=by simp[List.getD_eq_getElem?_getD,List.getElem?_eq_getElem h2]
 rw[h3,h4];simpa [J0] using this
theorem amj {m:aB} (d:m.ak.length<=36) (e:m.aF.length<=12) (f:m.ar.length<=6): ∃l:List Int,l.length<=1000/\l.Pairwise (· < ·)/\alH 96 [m.v] (.own 1 (l.map vi)):=by
 suffices hh: ∃res,Ev E 96 [m.v] res/\ ∃l:List Int,l.length<=1000/\l.Pairwise (· < ·)/\res=⟨.own 1 (l.map vi),[]⟩ by obtain⟨_,h1,l,h2,h3,rfl⟩:=hh;exact⟨l,h2,h3,h1⟩
 refine amN ?_;conv=>whnf
 repeat' (first| intro g| refine st ?_| refine br ?_ ?_<;>intro hc| rfl) <;>conv=>whnf
 rename_i Qa;obtain⟨c,b⟩: ∃x,x=g:=⟨_,rfl⟩;rw[<-b];clear b g;refine aO.by (fun ((k,L,g):Nat×List Int×Nat)=> ⟨[(1,.ptr 32 Qa 0 0),(3,.sl 65 g 0 L.length),(11,.lit 5 (m.ak.map aP.v)),(12,au m.ak.length),(13,au k)],[(32,⟨Qa,4,false,false,some [m.v]⟩),(65,⟨g,1,true,false,some (L.map vi)⟩)]⟩)
  (fun (k,L,_)=>k<=m.ak.length/\L.length<=k) (fun (k,_)=>m.ak.length - k) (0,[],c) su ⟨by simp,by simp⟩ ?_
 rintro⟨k,L,gl⟩ ⟨hk,hL⟩
 try dsimp only at hk hL
 by_cases a:k<m.ak.length
 .obtain⟨x,hx⟩: ∃x,m.ak[k]? =some x:=⟨_,aM a⟩;conv=>whnf
  repeat' (first| intro g| refine wi (aw hx rfl) ?_| refine st ?_| refine br ?_ ?_<;>intro hc| rfl) <;>conv=>whnf
  exact aR.mk (k+1,L++[x.aC],g) om ⟨by omega,by simp;omega⟩ su
 conv=>whnf
 repeat' (first| intro g| refine st ?_| refine br ?_ ?_<;>intro hc| rfl) <;>conv=>whnf
 refine aO.by (fun ((k,L,g):Nat×List Int×Nat)=> ⟨[(1,.ptr 32 Qa 0 0),(3,.sl 65 g 0 L.length),(24,.lit 8 (m.aF.map bH.v)),(25,au m.aF.length),(26,au k)],[(32,⟨Qa,4,false,false,some [m.v]⟩),(65,⟨g,1,true,false,some (L.map vi)⟩)]⟩)
  (fun (k,L,_)=>k<=m.aF.length/\L.length<=36+k) (fun (k,_)=>m.aF.length - k) (0,L,gl) su ⟨by simp,by omega⟩ ?_
 clear hk hL a;rintro⟨k,L,gl⟩ ⟨hk,hL⟩
 try dsimp only at hk hL
 by_cases a:k<m.aF.length
 .obtain⟨x,hx⟩: ∃x,m.aF[k]? =some x:=⟨_,aM a⟩;conv=>whnf
  repeat' (first| intro g| refine wi (aw hx rfl) ?_| refine st ?_| refine br ?_ ?_<;>intro hc| rfl) <;>conv=>whnf
  exact aR.mk (k+1,L++[x.aC],g) om ⟨by omega,by simp;omega⟩ su
 conv=>whnf
 repeat' (first| intro g| refine st ?_| refine br ?_ ?_<;>intro hc| rfl) <;>conv=>whnf
 refine aO.by (fun ((k,L,g):Nat×List Int×Nat)=> ⟨[(1,.ptr 32 Qa 0 0),(3,.sl 65 g 0 L.length),(37,.lit 7 (m.ar.map aI.v)),(38,au m.ar.length),(39,au k)],[(32,⟨Qa,4,false,false,some [m.v]⟩),(65,⟨g,1,true,false,some (L.map vi)⟩)]⟩)
  (fun (k,L,_)=>k<=m.ar.length/\L.length<=48+k) (fun (k,_)=>m.ar.length - k) (0,L,gl) su ⟨by simp,by omega⟩ ?_
 clear hk hL a;rintro⟨k,L,gl⟩ ⟨hk,hL⟩
 try dsimp only at hk hL
 by_cases a:k<m.ar.length
 .obtain⟨x,hx⟩: ∃x,m.ar[k]? =some x:=⟨_,aM a⟩;conv=>whnf
  repeat' (first| intro g| refine wi (aw hx rfl) ?_| refine st ?_| refine br ?_ ?_<;>intro hc| rfl) <;>conv=>whnf
  exact aR.mk (k+1,L++[x.aC],g) om ⟨by omega,by simp;omega⟩ su
 have h1:=An (l:=L) (by omega);have h2:=Bw (S:=eG L) (by rw[dW];omega);rw[dW] at h2;have hp:=dO L;have Fz:=dO (eG L);have FA:=dO (eP (eG L));conv=>whnf
 repeat' (first| intro g| refine nd ⟨rfl,rfl,rfl,by simp[dW],dO _⟩ ?_| refine nd (yf _) ?_| apply ca h1| apply ca h2| refine st ?_| refine br ?_ ?_<;>intro hc| rfl) <;>conv=>whnf
 refine⟨kf (eG L),?_,amE L,by rw[Rp]⟩;have:=Rm L;unfold Km at this;omega
theorem amk (fc gx:Int->Int->Int) (id:Int) {e:an}: ∀j,e ∈ evN fc gx id j->e.id=id/\ ∃n:Nat,e.n=n/\1<=n/\n<=j
 | 0,h=>by simp[evN] at h
 | j+1,h=>by
   rcases List.mem_append.1 h with h| h
   .obtain⟨h1,n,h2,h3,h4⟩:=amk fc gx id j h;exact⟨h1,n,h2,h3,by omega⟩
   split at h
   .rw[List.mem_singleton.1 h];exact⟨rfl,j+1,rfl,by omega,Nat.le_refl _⟩
   simp at h
theorem alW (fc gx:Int->Int->Int) {m:aB} (hm:m.Fit) (d:Int) {e:an}: ∀k,e ∈ WO fc gx m d k-> ∃q:s9 m,q.e.id=e.id/\(q.n:Int)=e.n/\bZ m q.e=d
 | 0,h=>by simp[WO] at h
 | k+1,h=>by
   rcases List.mem_append.1 h with h| h
   .exact alW fc gx hm d k h
   unfold adP at h;split at h
   .rename_i x hx;split at h
    .rename_i hs;obtain⟨s1,s2⟩:=hs;obtain⟨h1,n,h2,a,b⟩:=amk fc gx _ _ h;exact⟨⟨k,n,x,_,_,_,hx,s1,a,List.getElem?_eq_getElem (show n - 1 <x.line.length by omega),List.getElem?_eq_getElem (show n<x.line.length by omega),List.getElem?_eq_getElem (show n+1 <x.line.length by omega),hm.e,hm.el x (List.mem_of_getElem? hx)⟩,h1.symm,h2.symm,s2⟩
    simp at h
   simp at h
structure Mid (m:aB):Prop where
 e:m.aA.length<=18
 el: ∀e ∈ m.aA,e.line.length< 10
 f:m.ak.length<=36
 w:m.aF.length<=12
 wl: ∀w ∈ m.aF,w.line.length< 10
 p:m.ar.length<=6
structure ai7 (d0:Int) (m x:aB):Prop where
 d:La d0 m x
 f:Mid x
 z:d0< 1->x=m
end Go.AM.Dr
namespace Go.AM
inductive Sg (m:aB) (d:Int):an->Prop
 | drop {t:Int} (q:Dr.s9 m) (h:Dr.bZ m q.e=d) (h0:1<=d):Sg m d ⟨1,t,q.e.id,0,q.n⟩
 | De {t a b:Int} {i:Nat} {f:aP} (h1:aY m.ak a=some i) (h2:m.ak[i]? =some f) (h3:f.aC=d) (h0:1<=d):Sg m d ⟨2,t,a,b,0⟩
 | thin {t a:Int} {k:Nat} {w:bH} (h1:gq m.aF a=k) (h2:m.aF[k]? =some w) (h3:w.aC=d):Sg m d ⟨3,t,a,0,0⟩
 | oV {t a b:Int} {j:Nat} {p:aI} (h1:fq m.ar a=j) (h2:m.ar[j]? =some p) (h3:p.aC=d):Sg m d ⟨4,t,a,b,0⟩
theorem amv {m:aB} (h:m.Bd) (d:Int): ∃l:List an,l.length<=126/\(∀e ∈ l,U8 m e/\Sg m d e)/\alH 529 [m.v,vi d] (.own 5 (l.map an.v)):=by
 have he:=h.e;obtain⟨fc,hc⟩:=sk2 (Dr.FM h.fit);obtain⟨gx,hx⟩:=sk2 (Dr.BE h.fit);have p:=Dr.HT fc gx m d h.el m.aA.length;obtain⟨l,c,Q7⟩:=al7 (l:=if d< 1 then [] else Dr.WO fc gx m d m.aA.length) (by split;all_goals first| omega| simp);refine⟨l,?_,fun e uU=> ?_,Dr.amo hc hx (fun id=>Dr.pB h.fit id) (fun e=>Dr.HS h.fit e) ajk h.el d c Q7⟩
 .rw[c.length_eq];split
  .simp
  omega
 have:=c.mem_iff.1 uU;split at this
 .simp at this
 obtain⟨q,f,g,r⟩:=Dr.alW fc gx h.fit d _ this;obtain⟨c,i,j,o⟩:=Dr.alU fc gx m d _ this;obtain⟨s,t,a,b,n⟩:=e;dsimp only at c i j o f g;subst c;subst i;subst o;subst f;subst g;have k:=hc q.e.id q.n;rw[j] at k;exact⟨.drop k (hx _ _) (mx1 _).1 (mx1 _).2,.drop q r ajk⟩
theorem amw {m:aB} (h:m.Bd) (d:Int): ∃l:List an,l.length<=36/\(∀e ∈ l,U8 m e/\Sg m d e)/\alH 492 [m.v,vi d] (.own 5 (l.map an.v)):=by
 have hf:=h.f;have h5:=V8 (m:=m) ⟨⟨by have:=h.e;omega,fun e he=>by have:=h.el e he;omega⟩,ajk⟩ d;refine⟨_,?_,fun e he=> ?_,h5⟩
 .have:=BK m d (cK m).length;have h2:=zi m;unfold Zr;omega
 obtain⟨id,_,h6⟩:=akw.1 he;refine⟨amp h.small h6,?_⟩;unfold RX at h6;split at h6
 .simp at h6
 rename_i hd;split at h6
 .simp at h6
 rename_i i hi;split at h6
 .simp at h6
 rename_i f hf;split at h6
 .rename_i U7;split at h6
  .injection h6 with h6;subst h6;exact .De hi hf U7 ajk
  simp at h6
 simp at h6
theorem amx {m:aB} (h:m.Bd) (d:Int): ∃l:List an,l.length<=m.aF.length/\(∀e ∈ l,U8 m e/\Sg m d e)/\alH 681 [m.v,vi d] (.own 5 (l.map an.v)):=by
 suffices hh: ∃res,Ev E 681 [m.v,vi d] res/\ ∃l:List an,l.length<=m.aF.length/\(∀e ∈ l,U8 m e/\Sg m d e)/\res=⟨.own 5 (l.map an.v),[]⟩ by obtain⟨_,h1,l,h2,h3,rfl⟩:=hh;exact⟨l,h2,h3,h1⟩
 have hw:=h.w;refine amN ?_;conv=>whnf
 repeat' (first| intro g| refine st ?_| refine br ?_ ?_<;>intro hc| rfl) <;>conv=>whnf
 rename_i D5;obtain⟨f,b⟩: ∃x,x=g:=⟨_,rfl⟩;rw[<-b];clear b g;refine aO.by (fun ((i,l,g):Nat×List an×Nat)=> ⟨[(1,vi d),(2,.ptr 48 D5 0 0),(4,.sl 81 g 0 l.length),(8,.lit 8 (m.aF.map bH.v)),(9,au m.aF.length),(10,au i)],[(48,⟨D5,4,false,false,some [m.v]⟩),(81,⟨g,5,true,false,some (l.map an.v)⟩)]⟩)
  (fun (i,l,_)=>i<=m.aF.length/\l.length<=i/\ ∀e ∈ l,U8 m e/\Sg m d e) (fun (i,_)=>m.aF.length - i) (0,[],f) su ⟨ajl,ajl,ajl⟩ ?_
 rintro⟨i,l,gl⟩ ⟨hi,hl,hp⟩
 try dsimp only at hi hl hp
 by_cases j:i<m.aF.length
 case neg=>
  conv=>whnf
  repeat' (first| intro g| refine st ?_| refine br ?_ ?_<;>intro hc| rfl) <;>conv=>whnf
  exact⟨l,ajk,hp,rfl⟩
 obtain⟨w,hx⟩: ∃x,m.aF[i]? =some x:=⟨_,aM j⟩;have h1:=mZ (m:=m) ajk w.id;obtain⟨c,h2⟩:=HR h w.id;obtain⟨q,h3⟩:=D6 h w.id;obtain⟨k,a⟩: ∃x,gq m.aF w.id=x:=⟨_,rfl⟩;rw[a] at h1;by_cases hd:w.aC=d
 .by_cases hf:k=(i:Int)
  .by_cases hc:c=0
   .subst hc;conv=>whnf
    repeat' (first| contradiction| intro g| refine wi (aw hx rfl) ?_| apply ca h1| apply ca h2| apply ca h3| refine st ?_| refine br ?_ ?_<;>intro hc| rfl) <;>conv=>whnf
    refine aR.mk (i+1,l++[⟨3,if 1 <q then q else 1,w.id,0,0⟩],g) om ⟨ajk,by simp;omega,fun e he=> ?_⟩ su;rcases ajD.1 he with he| he
    .exact hp e he
    rw[ajX.1 he];exact⟨.thin h2 h3 (mx1 q).1 (mx1 q).2,.thin (a.trans hf) hx hd⟩
   conv=>whnf
   repeat' (first| contradiction| intro g| refine wi (aw hx rfl) ?_| apply ca h1| apply ca h2| apply ca h3| refine st ?_| refine br ?_ ?_<;>intro hc| rfl) <;>conv=>whnf
   exact aR.mk (i+1,l,gl) om ⟨ajk,ajk,hp⟩ su
  conv=>whnf
  repeat' (first| contradiction| intro g| refine wi (aw hx rfl) ?_| apply ca h1| apply ca h2| apply ca h3| refine st ?_| refine br ?_ ?_<;>intro hc| rfl) <;>conv=>whnf
  exact aR.mk (i+1,l,gl) om ⟨ajk,ajk,hp⟩ su
 conv=>whnf
 repeat' (first| contradiction| intro g| refine wi (aw hx rfl) ?_| apply ca h1| apply ca h2| apply ca h3| refine st ?_| refine br ?_ ?_<;>intro hc| rfl) <;>conv=>whnf
 exact aR.mk (i+1,l,gl) om ⟨ajk,ajk,hp⟩ su
theorem amy {m:aB} (h:m.Bd) (d:Int): ∃l:List an,l.length<=6/\(∀e ∈ l,U8 m e/\Sg m d e)/\alH 9 [m.v,vi d] (.own 5 (l.map an.v)):=by
 have hp:=h.p;have hl:=Bl m.ar d m.ar.length;obtain⟨b,h1,h2⟩:=Q5 (m:=m) ajk d;refine⟨b,by rw[h1.length_eq];omega,fun e he=> ?_,h2⟩;obtain⟨j,_,h3⟩:=akw.1 (h1.mem_iff.1 he);refine⟨ama ajk h3,?_⟩;unfold Fy at h3;split at h3
 case h_2=>simp at h3
 rename_i p c;split at h3
 case isFalse=>simp at h3
 rename_i a;split at h3
 case h_2=>simp at h3
 injection h3 with h3;subst h3;exact .oV a.2 c a.1
theorem Sg.up {m:aB} {d:Int} {e:an} {t:Int} (h:Sg m d e):Sg m d ⟨e.kind,t,e.id,e.other,e.n⟩:=by
 cases h with
 | drop q h h0=>exact .drop q h h0
 | De h1 h2 h3 h0=>exact .De h1 h2 h3 h0
 | thin h1 h2 h3=>exact .thin h1 h2 h3
 | oV h1 h2 h3=>exact .oV h1 h2 h3
theorem amz {m:aB} (h:m.Bd) (d:Int): ∃l:List an,l.length<=180/\(∀e ∈ l,(U8 m e/\Sg m d e))/\alH 657 [m.v,vi d] (.own 5 (l.map an.v)):=by
 suffices hh: ∃res,Ev E 657 [m.v,vi d] res/\ ∃l:List an,l.length<=180/\(∀e ∈ l,(U8 m e/\Sg m d e))/\res=⟨.own 5 (l.map an.v),[]⟩ by obtain⟨_,h1,l,h2,h3,rfl⟩:=hh;exact⟨l,h2,h3,h1⟩
 obtain⟨b,C,o,a1⟩:=amv h d;obtain⟨f,D,p,q⟩:=amw h d;obtain⟨j,F,r,s⟩:=amx h d;obtain⟨k,G,t,u⟩:=amy h d;have hw:=h.w;obtain⟨c,fa⟩:=sk2 Sa;have hm:bu E 667=[]:=rfl;refine amN ?_;conv=>whnf
 repeat' (first| intro g| apply ca rR| refine st ?_| refine br ?_ ?_<;>intro hc| rfl) <;>conv=>whnf
 rename_i D5 _;obtain⟨y,n⟩: ∃x,x=g:=⟨_,rfl⟩;rw[<-n];clear n g;refine aO.by (fun ((i,l,g):Nat×List an×Nat)=> ⟨[(1,vi d),(2,.ptr 48 D5 0 0),(5,.sl 97 g 0 l.length),(8,.lit 6 [Wb,Wc,We,Wf]),(9,vi 4),(10,au i)],[(48,⟨D5,4,false,false,some [m.v]⟩),(97,⟨g,5,true,false,some (l.map an.v)⟩)]⟩)
  (fun (i,l,_)=>i<=4/\(i=0->l.length<=0)/\(i=1->l.length<=126)/\(i=2->l.length<=162)/\(i=3->l.length<=174)/\(i=4->l.length<=180)/\ ∀e ∈ l,(U8 m e/\Sg m d e)) (fun (i,_)=>4 - i) (0,[],y) su ⟨ajl,ajl,ajl,ajl,ajl,ajl,ajl⟩ ?_
 rintro⟨i,l,gl⟩ ⟨hi,q0,q1,q2,q3,q4,hp⟩
 try dsimp only at hi q0 q1 q2 q3 q4 hp
 rcases(by omega:i=0\/i=1\/i=2\/i=3\/i=4) with rfl| rfl| rfl| rfl| rfl
 .have hl:=q0 rfl;clear q0 q1 q2 q3 q4;have a:V.int .i64 (IntKind.i64.wrap (((0:Nat):Int)+1))=au 1:=rfl;have o9:List.map an.v l++List.map an.v b=List.map an.v (l++b):=(ajV ..).symm;conv=>whnf
  repeat' (first| intro g| apply ca a1| refine st ?_| refine br ?_ ?_<;>intro hc| rfl) <;>conv=>whnf
  refine aR.mk (1,l++b,g) om (alO hp o ?_) (by rw[o9]; (refine⟨?_,?_⟩ <;>repeat' (first| exact True.intro| refine And.intro (a) ?_| refine ai ?_| refine And.intro ?_ ?_)));simp only[List.length_append];omega
 .have hl:=q1 rfl;clear q0 q1 q2 q3 q4;have a:V.int .i64 (IntKind.i64.wrap (((1:Nat):Int)+1))=au 2:=rfl;have o9:List.map an.v l++List.map an.v f=List.map an.v (l++f):=(ajV ..).symm;conv=>whnf
  repeat' (first| intro g| apply ca q| refine st ?_| refine br ?_ ?_<;>intro hc| rfl) <;>conv=>whnf
  refine aR.mk (2,l++f,g) om (alO hp p ?_) (by rw[o9]; (refine⟨?_,?_⟩ <;>repeat' (first| exact True.intro| refine And.intro (a) ?_| refine ai ?_| refine And.intro ?_ ?_)));simp only[List.length_append];omega
 .have hl:=q2 rfl;clear q0 q1 q2 q3 q4;have a:V.int .i64 (IntKind.i64.wrap (((2:Nat):Int)+1))=au 3:=rfl;have o9:List.map an.v l++List.map an.v j=List.map an.v (l++j):=(ajV ..).symm;conv=>whnf
  repeat' (first| intro g| apply ca s| refine st ?_| refine br ?_ ?_<;>intro hc| rfl) <;>conv=>whnf
  refine aR.mk (3,l++j,g) om (alO hp r ?_) (by rw[o9]; (refine⟨?_,?_⟩ <;>repeat' (first| exact True.intro| refine And.intro (a) ?_| refine ai ?_| refine And.intro ?_ ?_)));simp only[List.length_append];omega
 .have hl:=q3 rfl;clear q0 q1 q2 q3 q4;have a:V.int .i64 (IntKind.i64.wrap (((3:Nat):Int)+1))=au 4:=rfl;have o9:List.map an.v l++List.map an.v k=List.map an.v (l++k):=(ajV ..).symm;conv=>whnf
  repeat' (first| intro g| apply ca u| refine st ?_| refine br ?_ ?_<;>intro hc| rfl) <;>conv=>whnf
  refine aR.mk (4,l++k,g) om (alO hp t ?_) (by rw[o9]; (refine⟨?_,?_⟩ <;>repeat' (first| exact True.intro| refine And.intro (a) ?_| refine ai ?_| refine And.intro ?_ ?_)));simp only[List.length_append];omega
 have hl:=q4 rfl;clear q0 q1 q2 q3 q4;obtain⟨z,⟨H,A⟩,B⟩:=Dd hm fa (l:=l) ajk;conv=>whnf
 repeat' (first| intro g| refine nd ⟨rfl,rfl,ajl,an.aV _⟩ ?_| refine nd ⟨rfl,rfl,rfl,ajl,an.aV _⟩ ?_| refine nd ⟨rfl,rfl,an.aV _⟩ ?_| apply ca B| refine st ?_| refine br ?_ ?_<;>intro hc| rfl) <;>conv=>whnf
 exact⟨z,ajk,fun e he=>hp e (A e he),rfl⟩
theorem aml {m:aB} (h:m.Bd) (d b:Int): ∃ (e:an) (ok:Bool),alH 644 [m.v,vi d,vi b] (.tuple [e.v,.bool ok])/\(ok=true->(1<=e.at_/\e.at_<=1024)/\(U8 m e/\Sg m d e)):=by
 suffices hh: ∃res,Ev E 644 [m.v,vi d,vi b] res/\ ∃ (e:an) (ok:Bool),(ok=true->(1<=e.at_/\e.at_<=1024)/\(U8 m e/\Sg m d e))/\res=⟨.tuple [e.v,.bool ok],[]⟩ by obtain⟨_,h1,e,ok,h2,rfl⟩:=hh;exact⟨e,ok,h1,h2⟩
 obtain⟨l,hl,hp,h1⟩:=amz h d;refine amN ?_;by_cases h0:l.length=0
 .conv=>whnf
  repeat' (first| intro g| apply ca h1| refine st ?_| refine br ?_ ?_<;>intro hc| rfl) <;>conv=>whnf
  exact⟨⟨0,0,0,0,0⟩,false,ajl,rfl⟩
 obtain⟨x,hx⟩: ∃x,l[0]? =some x:=⟨_,aM ajk⟩;conv=>whnf
 repeat' (first| ((exfalso;omega)) | intro g| refine wi (aw hx rfl) ?_| apply ca h1| refine st ?_| refine br ?_ ?_<;>intro hc| rfl) <;>conv=>whnf
 .exact⟨⟨0,0,0,0,0⟩,false,ajl,rfl⟩
 .exact⟨⟨0,0,0,0,0⟩,false,ajl,rfl⟩
 exact⟨⟨x.kind,if x.at_<IntKind.i64.wrap (b+1) then IntKind.i64.wrap (b+1) else x.at_,x.id,x.other,x.n⟩,true,fun _=> ⟨⟨om,om⟩,(hp x (List.mem_of_getElem? hx)).1.up (by split<;>omega),(hp x (List.mem_of_getElem? hx)).2.up⟩,rfl⟩
structure dP where
 aC:Int
 evs:List an
def dP.v (h:dP):V:= .agg [vi h.aC,.lit 5 (h.evs.map an.v)]
structure Lab where
 id:Int
 x:Int
 y:Int
 r:Int
 text:uS
 til:Int
 deriving DecidableEq
def Lab.v (l:Lab):V:= .agg [vi l.id,vi l.x,vi l.y,vi l.r,.str l.text,vi l.til]
theorem dP.aV (l:List dP):V.al (l.map dP.v)=true:=AM.aV (fun _=>rfl) l
theorem Lab.aV (l:List Lab):V.al (l.map Lab.v)=true:=AM.aV (fun _=>rfl) l
section
variable {α:Type} (c:α->α->Bool)
end
def yi (e:an):Prop:=1<=e.at_/\e.at_<=1024
theorem pF {n f:Nat} {a:List V} {r:fu} (hf:E.hyb f=none) (h:call E n f a=some r):fh E (exec E n) f a=some r:=by unfold call dM at h;rw[hf] at h;exact h
inductive Si (d:Int):aB->Int->List an->aB->Int->Prop
 | nil {m:aB} {b:Int}:Si d m b [] m b
 | cons {m M m':aB} {b b':Int} {e:an} {es:List an} (hn:alH 644 [m.v,vi d,vi b] (.tuple [e.v,.bool true])) (ha:alH 645 [m.v,e.v] (.tuple [M.v,vi 0])) (hp:U8 m e) (hi:Sg m d e) (hs:Step m e M) (ht:yi e) (hb:M.Bd) (h:Si d M e.at_ es m' b'):Si d m b (e::es) m' b'
def amm (d:Int) (m:aB) (b:Int):Prop:= ∃e:an,alH 644 [m.v,vi d,vi b] (.tuple [e.v,.bool false])
theorem Ec (d:Int): ∀ (k:Nat) {m:aB} (b:Int) (evs:List an),m.Bd-> ∃ (N:Nat) (r:List an) (m':aB) (b':Int),r.length<=k/\Si d m b r m' b'/\(r.length=k\/amm d m' b')/\ ∀M,N<=M->iu (fh E (exec E M)) d k m.v b (evs.map an.v)=some ((evs++r).map an.v)
 | 0,m,b,evs,_=> ⟨0,[],m,b,ajl,.nil,.inl rfl,fun _ _=>by rw[akY];rfl⟩
 | k+1,m,b,evs,hm=>by
   obtain⟨e,ok,⟨f,h1⟩,o⟩:=aml hm d b;cases ok with
   | false=>
     refine⟨f,[],m,b,ajl,.nil,.inr ⟨e,f,h1⟩,fun M hM=> ?_⟩;have c1:=pF (n:=M) rfl (dI hM _ _ _ h1);unfold iu;rw[show fh E (exec E M) 644 [m.v,.int .i64 d,.int .i64 b]=_ from c1,akY];rfl
   | true=>
     obtain⟨a,c,p⟩:=o rfl;obtain⟨M2,⟨i,h2⟩,j⟩:=X9 hm c a.2;have l:=j.bd hm;have X7:lM M2.v=true:=rfl;obtain⟨q,r,m',b',t,s,g,Wh⟩:=Ec d k (m:=M2) e.at_ (evs++[e]) l;refine⟨max f (max i q),e::r,m',b',by simp;omega,.cons ⟨f,h1⟩ ⟨i,h2⟩ c p j a l s,g.imp_left fun h=>by simp[h],fun M hM=> ?_⟩;have c1:=pF (n:=M) rfl (dI ajk _ _ _ h1);have c2:=pF (n:=M) rfl (dI ajk _ _ _ h2);have c3:=Wh M ajk;unfold iu;rw[show fh E (exec E M) 644 [m.v,.int .i64 d,.int .i64 b]=_ from c1];simp only[show J3 e.v=some e.at_ from rfl,show fh E (exec E M) 645 [m.v,e.v]=_ from c2];rw[ajV,akB] at c3;rw[if_pos X7,if_pos trivial];exact c3
def KV (m:aB) (d:Int) (evs:List an):Prop:= ∃m' b',evs.length<=200/\Si d m 0 evs m' b'/\(evs.length=200\/amm d m' b')
theorem Sc {m:aB} (h:m.Bd) (d:Int): ∃evs:List an,KV m d evs/\alH 622 [m.v,vi d] (Hh d (evs.map an.v)):=by obtain⟨N,r,m',b',h1,h2,h4,h3⟩:=Ec d 200 0 [] h;refine⟨r,⟨m',b',h1,h2,h4⟩,N,?_⟩;unfold call dM;rw[show E.hyb 622=some AQ from rfl];show AQ (fh E (exec E N)) [m.v,vi d]=_;unfold AQ;simp only[vi];rw[if_pos (show lM m.v=true from rfl)];rw[show iu (fh E (exec E N)) d 200 m.v 0 []=some (r.map an.v) from h3 N (ajw _)];rfl
theorem Wi {m:aB} (h:m.Bd): ∃ (a:List Int) (l:List dP),alH 96 [m.v] (.own 1 (a.map vi))/\a.length<=1000/\a.Pairwise (· < ·)/\l.map dP.aC=a/\(∀x ∈ l,KV m x.aC x.evs)/\alH 607 [m.v] (.own 2 (l.map dP.v)):=by
 obtain⟨a,hd,b,h1⟩:=Dr.amj h.f h.w h.p
 suffices hh: ∃res,Ev E 607 [m.v] res/\ ∃l:List dP,l.map dP.aC=a/\(∀x ∈ l,KV m x.aC x.evs)/\res=⟨.own 2 (l.map dP.v),[]⟩ by obtain⟨_,h2,l,h3,h4,rfl⟩:=hh;exact⟨a,l,h1,hd,b,h3,h4,h2⟩
 have hm:bu E 622=[]:=rfl;have hp: ∀x,V.al [m.v,vi x]=true:=fun _=>rfl;refine amN ?_;conv=>whnf
 repeat' (first| intro g| apply ca h1| refine st ?_| refine br ?_ ?_<;>intro hc| rfl) <;>conv=>whnf
 rename_i Qa;obtain⟨i,d⟩: ∃x,x=g:=⟨_,rfl⟩;rw[<-d];clear d g;refine aO.by (fun ((k,l,gl):Nat×List dP×Nat)=> ⟨[(1,.ptr 32 Qa 0 0),(2,.sl 49 gl 0 l.length),(6,.lit 1 (a.map vi)),(7,au a.length),(8,au k)],[(32,⟨Qa,4,false,false,some [m.v]⟩),(49,⟨gl,2,true,false,some (l.map dP.v)⟩)]⟩)
  (fun (k,l,_)=>k<=a.length/\l.map dP.aC=a.take k/\ ∀x ∈ l,KV m x.aC x.evs) (fun (k,_)=>a.length - k) (0,[],i) su ⟨ajl,ajl,ajl⟩ ?_
 rintro⟨k,l,gl⟩ ⟨hk,hl,xH⟩
 try dsimp only at hk hl xH
 have j:l.length<=1000:=by have:=congrArg List.length hl;simp at this;omega
 by_cases n:k<a.length
 .obtain⟨x,hx⟩: ∃x,a[k]? =some x:=⟨_,aM n⟩;obtain⟨es,h2,h4⟩:=Sc h x;have o: (l++[dP.mk x es]).map dP.aC=a.take (k+1):=by rw[ajV,hl,aj6,hx];rfl
  have c: ∀y ∈ l++[dP.mk x es],KV m y.aC y.evs:=fun y hy=>by
   rcases ajD.1 hy with hy| hy
   .exact xH y hy
   rw[ajX.1 hy];exact h2
  have hi:P7 (Hh x (es.map an.v)) (dP.mk x es).v:=by
   cases es with
   | nil=>exact fun _ _=>rfl
   | cons e es=>exact fun _ _=>rfl
  clear hl h2 xH;conv=>whnf
  repeat' (first| refine jU hm (hp _) h4 hi ?_| intro g| refine wi (aw hx rfl) ?_| refine st ?_| refine br ?_ ?_<;>intro hc| rfl) <;>conv=>whnf
  exact aR.mk (k+1,l++[dP.mk x es],g) om ⟨ajk,o,c⟩ su
 conv=>whnf
 repeat' (first| intro g| refine st ?_| refine br ?_ ?_<;>intro hc| rfl) <;>conv=>whnf
 exact⟨l,by rw[hl,List.take_of_length_le ajk],xH,rfl⟩
end Go.AM
