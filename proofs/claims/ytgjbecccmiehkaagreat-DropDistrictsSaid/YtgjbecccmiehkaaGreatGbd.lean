/- Texts of the proof. -/
import Derived.Test.YtgjbecccmiehkaaGreatGaa
set_option maxRecDepth 20000
set_option maxHeartbeats 4000000
set_option linter.unusedSimpArgs false
set_option linter.unusedVariables false
namespace Go.AM
def fW (i j:Nat) (p:Pt):Prop:=(30+100*(i:Int)≤p.x∧p.x≤50+100*(i:Int))∧30+100*(j:Int)≤p.y∧p.y≤50+100*(j:Int)
theorem zI {l:List Int} (hl:l.length< 9223372036854775808) {i j:Nat} (hi:i< 10) (hj:j< 10): ∃p:Pt,fW i j p∧Ev E 115 [.lit 1 (l.map vi),aL i,aL j] ⟨p.v,[]⟩:=by
 suffices hh: ∃res,Ev E 115 [.lit 1 (l.map vi),aL i,aL j] res∧ ∃p:Pt,fW i j p∧res=⟨p.v,[]⟩ by
  obtain⟨_,h1,p,h2,rfl⟩:=hh
  exact⟨p,h2,h1⟩
 refine Ev.eQ rfl rfl rfl ?_
 have w0:IntKind.i64.wrap (4*(j:Int))=((4*j:Nat):Int):=wt
 have w1:IntKind.i64.wrap (IntKind.i64.wrap (4*(j:Int))+(i:Int))=((4*j+i:Nat):Int):=by rw[w0];exact wt
 have w2:IntKind.i64.wrap (2*IntKind.i64.wrap (IntKind.i64.wrap (4*(j:Int))+(i:Int)))=((2*(4*j+i):Nat):Int):=by rw[w1];exact wt
 have w3:IntKind.i64.wrap (IntKind.i64.wrap (2*IntKind.i64.wrap (IntKind.i64.wrap (4*(j:Int))+(i:Int)))+1)=((2*(4*j+i)+1:Nat):Int):=by rw[w2];exact wt
 have v1: ∀ {x:Int},0≤x→x< 21→IntKind.i64.wrap (IntKind.i64.wrap (40+IntKind.i64.wrap (100*(i:Int)))+IntKind.i64.wrap (x - 10))=30+100*(i:Int)+x:=fun h h'=>by
  rw[wrap64 (n:=100*(i:Int)) Zl Zl,wrap64 (n:=40+100*(i:Int)) Zl Zl,wrap64 (n:=_ - 10) Zl Zl,wrap64 Zl Zl]
  omega
 have v2: ∀ {x:Int},0≤x→x< 21→IntKind.i64.wrap (IntKind.i64.wrap (40+IntKind.i64.wrap (100*(j:Int)))+IntKind.i64.wrap (x - 10))=30+100*(j:Int)+x:=fun h h'=>by
  rw[wrap64 (n:=100*(j:Int)) Zl Zl,wrap64 (n:=40+100*(j:Int)) Zl Zl,wrap64 (n:=_ - 10) Zl Zl,wrap64 Zl Zl]
  omega
 by_cases bz:2*(4*j+i)+1 <l.length
 ·have hx:=bp (l:=l) (i:=2*(4*j+i)) Zl
  have hy:=bp (l:=l) (i:=2*(4*j+i)+1) Zl
  generalize l[2*(4*j+i)]=x at hx
  generalize l[2*(4*j+i)+1]=y at hy
  have bx:0≤qb x 21∧qb x 21 < 21:=tC (a:=x) (n:=21) Zn Zn
  have U6:0≤qb y 21∧qb y 21 < 21:=tC (a:=y) (n:=21) Zn Zn
  have m1:=BC (a:=x) (n:=21) Zn
  have m2:=BC (a:=y) (n:=21) Zn
  have e1:=v1 bx.1 bx.2
  have e2:=v2 U6.1 U6.2
  conv=>whnf
  repeat' (first| intro g| refine wi (aA hx w2) ?_| refine wi (aA hy w3) ?_| apply ca m1| apply ca m2| refine st ?_| refine br ?_ ?_<;>intro hc| rfl) <;>conv=>whnf
  rw[e1,e2]
  exact⟨⟨30+100*(i:Int)+qb x 21,30+100*(j:Int)+qb y 21⟩,⟨om,om⟩,rfl⟩
 ·have e1:IntKind.i64.wrap (IntKind.i64.wrap (40+IntKind.i64.wrap (100*(i:Int)))+0)=40+100*(i:Int):=by
   rw[wrap64 (n:=100*(i:Int)) Zl Zl,wrap64 (n:=40+100*(i:Int)) Zl Zl,wrap64 Zl Zl];omega
  have e2:IntKind.i64.wrap (IntKind.i64.wrap (40+IntKind.i64.wrap (100*(j:Int)))+0)=40+100*(j:Int):=by
   rw[wrap64 (n:=100*(j:Int)) Zl Zl,wrap64 (n:=40+100*(j:Int)) Zl Zl,wrap64 Zl Zl];omega
  conv=>whnf
  repeat' (first| intro g| refine st ?_| refine br ?_ ?_<;>intro hc| rfl) <;>conv=>whnf
  rw[e1,e2]
  exact⟨⟨40+100*(i:Int),40+100*(j:Int)⟩,⟨om,om⟩,rfl⟩
end Go.AM
namespace Go.AM
theorem xQ (a n:Int):a.tdiv n=if 0≤a then a / n else -((-a) / n):=by
 split
 ·exact Int.tdiv_eq_ediv_of_nonneg (by assumption)
 ·have:=Int.tdiv_eq_ediv_of_nonneg (a:= -a) (b:=n) Zl
  rw[Int.neg_tdiv] at this
  omega
theorem O4 {u:Int} {k many:Nat} (hk:k<many) (hm:many< 4) (h:80≤u) (h2:u≤120):0 < (u*((k+1:Nat):Int)).tdiv ((many+1:Nat):Int)∧(u*((k+1:Nat):Int)).tdiv ((many+1:Nat):Int) <u:=by
 rw[xQ]
 rcases(by omega:many=1∨many=2∨many=3) with rfl| rfl| rfl<;>rcases(by omega:k=0∨k=1∨k=2) with rfl| rfl| rfl<;>simp only[Int.natCast_add] <;>split<;>omega
theorem O5 {u:Int} {k many:Nat} (hk:k<many) (hm:many< 4) (h: -20≤u) (h2:u≤20): ((0≤(u*((k+1:Nat):Int)).tdiv ((many+1:Nat):Int)∨u≤(u*((k+1:Nat):Int)).tdiv ((many+1:Nat):Int))∧((u*((k+1:Nat):Int)).tdiv ((many+1:Nat):Int)≤0∨(u*((k+1:Nat):Int)).tdiv ((many+1:Nat):Int)≤u))∧ -20≤(u*((k+1:Nat):Int)).tdiv ((many+1:Nat):Int)∧(u*((k+1:Nat):Int)).tdiv ((many+1:Nat):Int)≤20:=by
 rw[xQ]
 rcases(by omega:many=1∨many=2∨many=3) with rfl| rfl| rfl<;>rcases(by omega:k=0∨k=1∨k=2) with rfl| rfl| rfl<;>simp only[Int.natCast_add] <;>split<;>omega
theorem LN {r many:Nat} (hm:many< 4) (h:r< 21): -10≤((r:Int) - 10).tdiv ((1+many / 2:Nat):Int)∧((r:Int) - 10).tdiv ((1+many / 2:Nat):Int)≤10:=by
 rw[xQ]
 rcases(by omega:many=0∨many=1∨many=2∨many=3) with rfl| rfl| rfl| rfl<;>simp only[Int.natCast_add] <;>split<;>omega
theorem LO {u:Int} {k:Nat} (h: -200≤u) (h2:u≤200) (hk:k< 3): -1000≤u*((k+1:Nat):Int)∧u*((k+1:Nat):Int)≤1000:=by
 rcases(by omega:k=0∨k=1∨k=2) with rfl| rfl| rfl<;>simp only[Int.natCast_add] <;>omega
def yN (a b p:Pt):Prop:=(a.x<p.x∧p.x<b.x)∧(a.y - 10≤p.y∨b.y - 10≤p.y)∧(p.y≤a.y+10∨p.y≤b.y+10)
def yO (a b p:Pt):Prop:=(a.y<p.y∧p.y<b.y)∧(a.x - 10≤p.x∨b.x - 10≤p.x)∧(p.x≤a.x+10∨p.x≤b.x+10)
theorem xR {p u:Int} {k many:Nat} (hp: -1000≤p∧p≤1000) (hu: -200≤u∧u≤200) (hk:k<many) (hm:many< 4) (ht: -200≤(u*((k+1:Nat):Int)).tdiv ((many+1:Nat):Int)∧(u*((k+1:Nat):Int)).tdiv ((many+1:Nat):Int)≤200):
  IntKind.i64.wrap (p+IntKind.i64.wrap ((IntKind.i64.wrap (u*((k+1:Nat):Int))).tdiv (IntKind.i64.wrap ((many:Int)+1))))=p+(u*((k+1:Nat):Int)).tdiv ((many+1:Nat):Int):=by
 have h1:=LO hu.1 hu.2 (k:=k) Zl
 rw[wrap64 (n:=(many:Int)+1) Zl Zl,wrap64 (n:=u*((k+1:Nat):Int)) Zl Zl,show (many:Int)+1=((many+1:Nat):Int) by omega,wrap64 (n:=(u*((k+1:Nat):Int)).tdiv ((many+1:Nat):Int)) Zl Zl,wrap64 Zl Zl]
theorem GN {q:Int} {r many:Nat} (hq: -2000≤q∧q≤2000) (hm:many< 4) (hr:r< 21):
  IntKind.i64.wrap (q+IntKind.i64.wrap ((IntKind.i64.wrap ((r:Int) - 10)).tdiv (IntKind.i64.wrap (1+IntKind.i64.wrap ((many:Int).tdiv 2)))))=q+((r:Int) - 10).tdiv ((1+many / 2:Nat):Int):=by
 have h1:=LN hm hr
 have e2: (many:Int).tdiv 2=((many / 2:Nat):Int):=rfl
 rw[e2,wrap64 (n:=((many / 2:Nat):Int)) Zl Zl,show (1:Int)+((many / 2:Nat):Int)=((1+many / 2:Nat):Int) by omega,wrap64 (n:=((1+many / 2:Nat):Int)) Zl Zl,wrap64 (n:=(r:Int) - 10) Zl Zl,wrap64 (n:=((r:Int) - 10).tdiv ((1+many / 2:Nat):Int)) Zl Zl,wrap64 Zl Zl]
def Jp (p:Pt):Prop:=(-1000≤p.x∧p.x≤1000)∧ -1000≤p.y∧p.y≤1000
theorem Jq {l:List Int} (hl:l.length< 9223372036854775808) {p q:Pt} (hp:Jp p) (hq:Jp q) (hx:80≤q.x - p.x∧q.x - p.x≤120) (hy: -20≤q.y - p.y∧q.y - p.y≤20) (a0:Nat):
  ∃ (ps:List Pt) (a:Nat),ps.length≤3∧(∀x ∈ ps,yN p q x)∧Ev E 114 [p.v,q.v,.mptr 2 [bY l a0] 0 0] ⟨.own 2 ((p::ps++[q]).map Pt.v),[(0,[bY l a])]⟩:=by
 have key:=Ev.eQ (R:=fun r=> ∃ (ps:List Pt) (a:Nat),ps.length≤3∧(∀x ∈ ps,yN p q x)∧r=⟨.own 2 ((p::ps++[q]).map Pt.v),[(0,[bY l a])]⟩) Kq (Kr [p.v,q.v,.mptr 2 [bY l a0] 0 0]) rfl ?_
 ·obtain⟨res,h1,ps,a,h2,h3,rfl⟩:=key
  exact⟨ps,a,h2,h3,h1⟩
 have hn: ∀n a,0 <n→n< 1000→Ev E 85 [.mptr 2 [bY l a] 0 0,aL n] ⟨aL (cb l a n),[(0,[bY l (aK l a)])]⟩:=fun n a h h2=>bG hl n h Zl
 have hb:=cB (l:=l) (a:=a0) (n:=4) Zl Zl
 have BW:=zi q p
 generalize hm:cb l a0 4=many at hb
 have n4:=hn 4 a0 Zl Zl
 rw[hm] at n4
 clear hm
 conv=>whnf
 repeat' (first| intro g| apply ca n4| apply ca BW| refine st ?_| refine br ?_ ?_<;>intro hc| rfl) <;>conv=>whnf
 rename_i g3 g4 _ g7
 obtain⟨Ix,A6⟩:=hp
 obtain⟨Nt,A7⟩:=hq
 generalize hu:Pt.mk (vr (q.x - p.x)) (vr (q.y - p.y))=u
 have Wx:u.x=q.x - p.x:=by rw[←hu];exact wrap64 Zl Zl
 have Wy:u.y=q.y - p.y:=by rw[←hu];exact wrap64 Zl Zl
 refine a8.by (fun ((k,ps,a,g7):Nat×List Pt×Nat×Nat)=> ⟨[(2,.ptr 2 0 0 0),(3,.ptr 64 g3 0 0),(4,.ptr 80 g4 0 0),(7,.sl 129 g7 0 (p::ps).length),(8,aL many),(9,.ptr 160 g 0 0),(10,aL (k+1))],
   [(2,⟨0,2,false,false,some [bY l a]⟩),(64,⟨g3,2,false,false,some [p.v]⟩),(80,⟨g4,2,false,false,some [q.v]⟩),(129,⟨g7,2,true,false,some ((p::ps).map Pt.v)⟩),(160,⟨g,2,false,false,some [u.v]⟩)]⟩)
  (fun (k,ps,_,_)=>k≤many∧ps.length=k∧ ∀x ∈ ps,yN p q x) (fun (k,_)=>many - k) (0,[],aK l a0,g7) (by subst hu;exact su) ⟨Zm,Zm,Zm⟩ ?_
 clear hu
 rintro⟨k,ps,a,g7⟩ ⟨hk,sB,jG⟩
 try dsimp only at hk sB jG
 have n21:=hn 21 a Zl Zl
 have hr:=cB (l:=l) (a:=a) (n:=21) Zl Zl
 have e1:IntKind.i64.wrap ((many:Int)+1)=((many+1:Nat):Int):=wt
 have e2: (many:Int).tdiv 2=((many / 2:Nat):Int):=rfl
 have e3:IntKind.i64.wrap ((many:Int).tdiv 2)=((many / 2:Nat):Int):=by rw[e2];exact wt
 have e4:IntKind.i64.wrap (1+IntKind.i64.wrap ((many:Int).tdiv 2))=((1+many / 2:Nat):Int):=by rw[e3];exact wt
 by_cases bz:k<many
 ·have f1:=O4 (u:=u.x) bz hb Zl Zl
  have f2:=O5 (u:=u.y) bz hb Zl Zl
  have f3:=LN hb hr
  have q1:=xR (p:=p.x) (u:=u.x) Ix Zl bz hb Zl
  have q2:=xR (p:=p.y) (u:=u.y) A6 Zl bz hb Zl
  have q3:=GN (q:=p.y+(u.y*((k+1:Nat):Int)).tdiv ((many+1:Nat):Int)) Zl hb hr
  have iO: ∀x ∈ ps++[⟨p.x+(u.x*((k+1:Nat):Int)).tdiv ((many+1:Nat):Int),p.y+(u.y*((k+1:Nat):Int)).tdiv ((many+1:Nat):Int)+((cb l a 21:Int) - 10).tdiv ((1+many / 2:Nat):Int)⟩],yN p q x:=fun x hx=>by
   rcases ZF.1 hx with hx| hx
   ·exact jG x hx
   ·rw[ZZ.1 hx]
    unfold yN
    dsimp only
    clear q1 q2 q3 e1 e2 e3 e4 hx
    omega
  conv=>whnf
  repeat' (first| ((exfalso;omega)) | intro g| apply ca n21| refine st ?_| refine br ?_ ?_<;>intro hc| rfl) <;>conv=>whnf
  rw[q1,q2,q3]
  exact bo.mk (k+1,ps++[⟨p.x+(u.x*((k+1:Nat):Int)).tdiv ((many+1:Nat):Int),p.y+(u.y*((k+1:Nat):Int)).tdiv ((many+1:Nat):Int)+((cb l a 21:Int) - 10).tdiv ((1+many / 2:Nat):Int)⟩],aK l a,g) om ⟨Zl,by simp;omega,iO⟩ su
 ·obtain rfl:k=many:=Zl
  conv=>whnf
  repeat' (first| intro g| refine st ?_| refine br ?_ ?_<;>intro hc| rfl) <;>conv=>whnf
  exact⟨ps,a,Zl,jG,Zm⟩
theorem Jr {l:List Int} (hl:l.length< 9223372036854775808) {p q:Pt} (hp:Jp p) (hq:Jp q) (hx:80≤q.y - p.y∧q.y - p.y≤120) (hy: -20≤q.x - p.x∧q.x - p.x≤20) (a0:Nat):
  ∃ (ps:List Pt) (a:Nat),ps.length≤3∧(∀x ∈ ps,yO p q x)∧Ev E 114 [p.v,q.v,.mptr 2 [bY l a0] 0 0] ⟨.own 2 ((p::ps++[q]).map Pt.v),[(0,[bY l a])]⟩:=by
 have key:=Ev.eQ (R:=fun r=> ∃ (ps:List Pt) (a:Nat),ps.length≤3∧(∀x ∈ ps,yO p q x)∧r=⟨.own 2 ((p::ps++[q]).map Pt.v),[(0,[bY l a])]⟩) Kq (Kr [p.v,q.v,.mptr 2 [bY l a0] 0 0]) rfl ?_
 ·obtain⟨res,h1,ps,a,h2,h3,rfl⟩:=key
  exact⟨ps,a,h2,h3,h1⟩
 have hn: ∀n a,0 <n→n< 1000→Ev E 85 [.mptr 2 [bY l a] 0 0,aL n] ⟨aL (cb l a n),[(0,[bY l (aK l a)])]⟩:=fun n a h h2=>bG hl n h Zl
 have hb:=cB (l:=l) (a:=a0) (n:=4) Zl Zl
 have BW:=zi q p
 generalize hm:cb l a0 4=many at hb
 have n4:=hn 4 a0 Zl Zl
 rw[hm] at n4
 clear hm
 conv=>whnf
 repeat' (first| intro g| apply ca n4| apply ca BW| refine st ?_| refine br ?_ ?_<;>intro hc| rfl) <;>conv=>whnf
 rename_i g3 g4 _ g7
 obtain⟨Ix,A6⟩:=hp
 obtain⟨Nt,A7⟩:=hq
 generalize hu:Pt.mk (vr (q.x - p.x)) (vr (q.y - p.y))=u
 have Wx:u.x=q.x - p.x:=by rw[←hu];exact wrap64 Zl Zl
 have Wy:u.y=q.y - p.y:=by rw[←hu];exact wrap64 Zl Zl
 refine a8.by (fun ((k,ps,a,g7):Nat×List Pt×Nat×Nat)=> ⟨[(2,.ptr 2 0 0 0),(3,.ptr 64 g3 0 0),(4,.ptr 80 g4 0 0),(7,.sl 129 g7 0 (p::ps).length),(8,aL many),(9,.ptr 160 g 0 0),(10,aL (k+1))],
   [(2,⟨0,2,false,false,some [bY l a]⟩),(64,⟨g3,2,false,false,some [p.v]⟩),(80,⟨g4,2,false,false,some [q.v]⟩),(129,⟨g7,2,true,false,some ((p::ps).map Pt.v)⟩),(160,⟨g,2,false,false,some [u.v]⟩)]⟩)
  (fun (k,ps,_,_)=>k≤many∧ps.length=k∧ ∀x ∈ ps,yO p q x) (fun (k,_)=>many - k) (0,[],aK l a0,g7) (by subst hu;exact su) ⟨Zm,Zm,Zm⟩ ?_
 clear hu
 rintro⟨k,ps,a,g7⟩ ⟨hk,sB,jG⟩
 try dsimp only at hk sB jG
 have n21:=hn 21 a Zl Zl
 have hr:=cB (l:=l) (a:=a) (n:=21) Zl Zl
 have e1:IntKind.i64.wrap ((many:Int)+1)=((many+1:Nat):Int):=wt
 have e2: (many:Int).tdiv 2=((many / 2:Nat):Int):=rfl
 have e3:IntKind.i64.wrap ((many:Int).tdiv 2)=((many / 2:Nat):Int):=by rw[e2];exact wt
 have e4:IntKind.i64.wrap (1+IntKind.i64.wrap ((many:Int).tdiv 2))=((1+many / 2:Nat):Int):=by rw[e3];exact wt
 by_cases bz:k<many
 ·have f1:=O4 (u:=u.y) bz hb Zl Zl
  have f2:=O5 (u:=u.x) bz hb Zl Zl
  have f3:=LN hb hr
  have q1:=xR (p:=p.x) (u:=u.x) Ix Zl bz hb Zl
  have q2:=xR (p:=p.y) (u:=u.y) A6 Zl bz hb Zl
  have q3:=GN (q:=p.x+(u.x*((k+1:Nat):Int)).tdiv ((many+1:Nat):Int)) Zl hb hr
  have iO: ∀x ∈ ps++[⟨p.x+(u.x*((k+1:Nat):Int)).tdiv ((many+1:Nat):Int)+((cb l a 21:Int) - 10).tdiv ((1+many / 2:Nat):Int),p.y+(u.y*((k+1:Nat):Int)).tdiv ((many+1:Nat):Int)⟩],yO p q x:=fun x hx=>by
   rcases ZF.1 hx with hx| hx
   ·exact jG x hx
   ·rw[ZZ.1 hx]
    unfold yO
    dsimp only
    clear q1 q2 q3 e1 e2 e3 e4 hx
    omega
  conv=>whnf
  repeat' (first| ((exfalso;omega)) | intro g| apply ca n21| refine st ?_| refine br ?_ ?_<;>intro hc| rfl) <;>conv=>whnf
  rw[q1,q2,q3]
  exact bo.mk (k+1,ps++[⟨p.x+(u.x*((k+1:Nat):Int)).tdiv ((many+1:Nat):Int)+((cb l a 21:Int) - 10).tdiv ((1+many / 2:Nat):Int),p.y+(u.y*((k+1:Nat):Int)).tdiv ((many+1:Nat):Int)⟩],aK l a,g) om ⟨Zl,by simp;omega,iO⟩ su
 ·obtain rfl:k=many:=Zl
  conv=>whnf
  repeat' (first| intro g| refine st ?_| refine br ?_ ?_<;>intro hc| rfl) <;>conv=>whnf
  exact⟨ps,a,Zl,jG,Zm⟩
end Go.AM
namespace Go.AM
theorem BX (e:Edge) (h0:e.line≠[]) (hl:e.line.length< 1000000):Ev E 131 [e.v] ⟨.agg [vi e.id,.own 2 (e.line.reverse.map Pt.v),vi e.right,vi e.left],[]⟩:=by
 refine Ev.aO rfl rfl rfl ?_
 have hp:0 <e.line.length:=List.length_pos_iff.2 h0
 have e1:IntKind.i64.wrap ((e.line.length:Int) - 1)=(e.line.length:Int) - 1:=wrap64 Zl Zl
 conv=>whnf
 repeat' (first| intro g| refine st ?_| refine br ?_ ?_<;>intro hc| rfl) <;>conv=>whnf
 rename_i g1 g2
 refine a8.by (fun ((j,ps,og):Nat×List Pt×Option Nat)=> ⟨[(1,.ptr 32 g1 0 0),(2,.ptr 48 g2 0 0),(3,.ptr 64 g 0 0),(4,vi ((j:Int) - 1))],
     match og with
     | none=> [(32,⟨g1,4,false,false,some [e.v]⟩),(48,⟨g2,4,false,false,some [.agg [vi 0,.lit 2 [],vi 0,vi 0]]⟩),(64,⟨g,4,false,false,some [.agg [vi e.id,.nils,vi e.right,vi e.left]]⟩)]
     | some g5=> [(32,⟨g1,4,false,false,some [e.v]⟩),(48,⟨g2,4,false,false,some [.agg [vi 0,.lit 2 [],vi 0,vi 0]]⟩),(64,⟨g,4,false,false,some [.agg [vi e.id,.sl 67 g5 0 ps.length,vi e.right,vi e.left]]⟩),(67,⟨g5,2,true,false,some (ps.map Pt.v)⟩)]⟩)
   (fun (j,ps,og)=>j≤e.line.length∧ps=(e.line.drop j).reverse∧(og=none→j=e.line.length)) (fun (j,_)=>j) (e.line.length,[],none) ?_ ⟨Zm,Zm,Zm⟩ ?_
 ·exact su
 rintro⟨j,ps,og⟩ ⟨hj,sB,LP⟩
 try dsimp only at hj sB LP
 cases j with
 | zero=>
   cases og with
   | none=>have:=LP rfl;omega
   | some g5=>
     obtain rfl:ps=e.line.reverse:=by rw[sB,List.drop_zero]
     conv=>whnf
     repeat' (first| intro g| refine st ?_| refine br ?_ ?_<;>intro hc| rfl) <;>conv=>whnf
     all_goals simp
 | succ j=>
   have hx:e.line[j]? =some e.line[j]:=Zv Zl
   have Ks: ((j+1:Nat):Int) - 1=(j:Int):=Zl
   have iO:ps++[e.line[j]]=(e.line.drop j).reverse:=by
     rw[sB,ZP (show j<e.line.length by omega),List.reverse_cons]
   have Fv:ps.length≤1000000:=by rw[sB];simp;omega
   generalize e.line[j]=x at*
   cases og with
   | none=>
     have:=LP rfl
     obtain rfl:ps=[]:=by rw[sB,this];simp
     clear sB
     conv=>whnf
     repeat' (first| intro g| refine wi (aA hx Ks) ?_| refine st ?_| refine br ?_ ?_<;>intro hc| rfl) <;>conv=>whnf
     exact bo.mk (j,[x],some g) om ⟨Zl,iO,Zm⟩ su
   | some g5=>
     clear sB
     conv=>whnf
     repeat' (first| intro g| refine wi (aA hx Ks) ?_| refine st ?_| refine br ?_ ?_<;>intro hc| rfl) <;>conv=>whnf
     exact bo.mk (j,ps++[x],some g) om ⟨Zl,iO,Zm⟩ su
def jT (es es':List Edge) (ps:List Pt) (left right:Int):Prop:=
 (left=right∧es'=es)∨(left≠right∧ ∃e:Edge,es'=es++[e]∧e.id=(es.length:Int)+1∧((e.line=ps∧e.left=left∧e.right=right)∨(e.line=ps.reverse∧e.left=right∧e.right=left)))
theorem xS {l:List Int} (hl:l.length< 9223372036854775808) {es:List Edge} (he:es.length< 1000) {ps:List Pt} (sB:dh ps) (left right:Int) (a0:Nat):
  ∃ (es':List Edge) (a b:Nat),jT es es' ps left right∧Ev E 113 [.msl 4 (es.map Edge.v) 0 es.length,kB ps,vi left,vi right,.mptr 2 [bY l a0] 0 0] ⟨.sl 0 b 0 es'.length,[(b,es'.map Edge.v),(0,[bY l a])]⟩:=by
 have key:=Ev.eQ (R:=fun r=> ∃ (es':List Edge) (a b:Nat),jT es es' ps left right∧r=⟨.sl 0 b 0 es'.length,[(b,es'.map Edge.v),(0,[bY l a])]⟩) Oz (OA [.msl 4 (es.map Edge.v) 0 es.length,kB ps,vi left,vi right,.mptr 2 [bY l a0] 0 0]) rfl ?_
 ·obtain⟨res,h1,es',a,b,h2,rfl⟩:=key
  exact⟨es',a,b,h2,h1⟩
 have qg:=he
 have n2:=bG hl 2 (a:=a0) Zl Zl
 have BY:IntKind.i64.wrap ((es.length:Int)+1)=(es.length:Int)+1:=wrap64 Zl Zl
 have U7:=BX ⟨IntKind.i64.wrap ((es.length:Int)+1),ps,left,right⟩ (by intro h;dsimp only at h;subst h;have:=sB.1;simp at this) (by dsimp only;have:=sB.2;omega)
 by_cases Kw:left=right
 ·conv=>whnf
  repeat' (first| contradiction| intro g| apply ca n2| apply ca U7| refine st ?_| refine br ?_ ?_<;>intro hc| rfl) <;>conv=>whnf
  all_goals exact⟨es,a0,0,.inl ⟨Kw,rfl⟩,rfl⟩
 ·conv=>whnf
  repeat' (first| contradiction| intro g| apply ca n2| apply ca U7| refine st ?_| refine br ?_ ?_<;>intro hc| rfl) <;>conv=>whnf
  ·refine⟨es++[⟨IntKind.i64.wrap ((es.length:Int)+1),ps.reverse,right,left⟩],aK l a0,g,.inr ⟨Kw,_,rfl,BY,.inr ⟨rfl,rfl,rfl⟩⟩,?_⟩
   simp only[aai,List.map_cons,aaI,List.length_append,ZH,ZL,List.length_map];rfl
  ·refine⟨es++[⟨IntKind.i64.wrap ((es.length:Int)+1),ps,left,right⟩],aK l a0,g,.inr ⟨Kw,_,rfl,BY,.inl ⟨rfl,rfl,rfl⟩⟩,?_⟩
   simp only[aai,List.map_cons,aaI,List.length_append,ZH,ZL,List.length_map];rfl
end Go.AM
namespace Go.AM
def gW (cs:List Int) (w h:Nat) (i j:Int):Int:=if 0≤i∧0≤j∧i<w∧j<h then cs.getD (2*i.toNat+j.toNat) 0 else 0
theorem qm {cs:List Int} (mD:cs.length=6) {w h:Nat} (hw:w≤3) (hh:h≤2) (i j:Int):Ev E 116 [.agg (cs.map vi),aL w,aL h,vi i,vi j] ⟨vi (gW cs w h i j),[]⟩:=by
 unfold gW
 refine Ev.aO rfl rfl rfl ?_
 match cs,mD with
 | [x0,x1,x2,x3,x4,x5],_=>
   by_cases jG:0≤i∧0≤j∧i<w∧j<h
   · rw[if_pos jG]
     rcases(by omega:i=0∨i=1∨i=2) with rfl| rfl| rfl<;>rcases(by omega:j=0∨j=1) with rfl| rfl
     all_goals
      conv=>whnf
      repeat' (first| ((exfalso;omega)) | intro g| refine st ?_| refine br ?_ ?_<;>intro hc| rfl) <;>conv=>whnf
   · rw[if_neg jG]
     conv=>whnf
     repeat' (first| ((exfalso;omega)) | intro g| refine st ?_| refine br ?_ ?_<;>intro hc| rfl) <;>conv=>whnf
def jr (c p:Pt):Prop:=(c.x - 13≤p.x∧p.x≤c.x+13)∧c.y - 13≤p.y∧p.y≤c.y+13
theorem BZ {l:List Int} (hl:l.length< 9223372036854775808) {es:List Edge} (he:es.length< 1000) {c:Pt} (hc:Jp c) (gr:Int) (a0:Nat):
  ∃res,Ev E 117 [.msl 4 (es.map Edge.v) 0 es.length,c.v,vi gr,.mptr 2 [bY l a0] 0 0] res∧ ∃ (es':List Edge) (a b:Nat),(∃ps,dh ps∧(∀p ∈ ps,jr c p)∧jT es es' ps 28 gr)∧res=⟨.sl 0 b 0 es'.length,[(b,es'.map Edge.v),(0,[bY l a])]⟩:=by
 refine Ev.eQ rfl rfl rfl ?_
 obtain⟨⟨c1,c2⟩,c3,c4⟩:=hc
 have n8:=bG hl 8 (a:=a0) Zl Zl
 have hb:=cB (l:=l) (a:=a0) (n:=8) Zl Zl
 have n2:=fun a=>bG hl 2 (a:=a) Zl Zl
 generalize cb l a0 8=r at n8 hb
 have w1:IntKind.i64.wrap (6+(r:Int))=6+r:=wrap64 Zl Zl
 have w2:IntKind.i64.wrap (c.x - (6+(r:Int)))=c.x - (6+r):=wrap64 Zl Zl
 have w3:IntKind.i64.wrap (c.x+(6+(r:Int)))=c.x+(6+r):=wrap64 Zl Zl
 have w4:IntKind.i64.wrap (c.y - (6+(r:Int)))=c.y - (6+r):=wrap64 Zl Zl
 have w5:IntKind.i64.wrap (c.y+(6+(r:Int)))=c.y+(6+r):=wrap64 Zl Zl
 have w6:IntKind.i64.wrap (c.y+2)=c.y+2:=wrap64 Zl Zl
 have qg:=he
 have rB: ∀ (ps:List Pt) (a:Nat),dh ps→ ∃res,Ev E 113 [.msl 4 (es.map Edge.v) 0 es.length,kB ps,vi 28,vi gr,.mptr 2 [bY l a] 0 0] res∧ ∃ (es':List Edge) (a b:Nat),jT es es' ps 28 gr∧res=⟨.sl 0 b 0 es'.length,[(b,es'.map Edge.v),(0,[bY l a])]⟩:=fun ps a sB=>by
  obtain⟨es',a',b,h1,h2⟩:=xS hl he sB 28 gr a
  exact⟨_,h2,es',a',b,h1,rfl⟩
 conv=>whnf
 repeat' (first| intro g| refine wi (mC rfl) ?_| apply ca n8| apply ca (n2 _) | refine st ?_| refine br ?_ ?_<;>intro hc| rfl) <;>conv=>whnf
 ·rw[w1,w2,w3,w4,w5,w6]
  refine c6.ex (rB [⟨c.x - (6+r),c.y⟩,⟨c.x,c.y - (6+r)⟩,⟨c.x+(6+r),c.y+2⟩,⟨c.x,c.y+(6+r)⟩,⟨c.x - (6+r),c.y⟩] _ ⟨Zm,Zm⟩) ?_
  rintro _ ⟨es',a,b,h1,rfl⟩
  conv=>whnf
  repeat' (first| intro g| refine st ?_| refine br ?_ ?_<;>intro hc| rfl) <;>conv=>whnf
  refine⟨es',a,_,⟨_,?_,?_,h1⟩,rfl⟩
  ·exact⟨Zm,Zm⟩
  ·intro p hp
   simp only[Zz,List.not_mem_nil,or_false] at hp
   rcases hp with rfl| rfl| rfl| rfl| rfl<;> (unfold jr;dsimp only;omega)
 ·rw[w1,w2,w3,w4,w5]
  refine c6.ex (rB [⟨c.x - (6+r),c.y - (6+r)⟩,⟨c.x+(6+r),c.y - (6+r)⟩,⟨c.x+(6+r),c.y+(6+r)⟩,⟨c.x - (6+r),c.y - (6+r)⟩] _ ⟨Zm,Zm⟩) ?_
  rintro _ ⟨es',a,b,h1,rfl⟩
  conv=>whnf
  repeat' (first| intro g| refine st ?_| refine br ?_ ?_<;>intro hc| rfl) <;>conv=>whnf
  refine⟨es',a,_,⟨_,?_,?_,h1⟩,rfl⟩
  ·exact⟨Zm,Zm⟩
  ·intro p hp
   simp only[Zz,List.not_mem_nil,or_false] at hp
   rcases hp with rfl| rfl| rfl| rfl<;> (unfold jr;dsimp only;omega)
end Go.AM
