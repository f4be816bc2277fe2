/- Texts of the proof. -/
import Derived.Test.YtdifmldbllaeiaaGreatGag
import Derived.KernelRfl
set_option maxRecDepth 20000
set_option maxHeartbeats 4000000
set_option linter.unusedSimpArgs false
set_option linter.unusedVariables false
namespace Go.AM
theorem xQ {i j:Nat} (h:i+j< 2000000):IntKind.i64.wrap ((IntKind.u64.wrap (IntKind.i64.wrap ((i:Int)+(j:Int)))).fdiv (2 ^ min (Int.toNat 1) IntKind.u64.bits))=(((i+j) / 2:Nat):Int):=by
 have e1:IntKind.i64.wrap ((i:Int)+(j:Int))=((i+j:Nat):Int):=wt
 have e2:IntKind.u64.wrap ((i+j:Nat):Int)=((i+j:Nat):Int):=by
  simp[IntKind.wrap,IntKind.bits,IntKind.signed];omega
 have e3: (((i+j:Nat):Int)).fdiv (2 ^ min (Int.toNat 1) IntKind.u64.bits)=(((i+j) / 2:Nat):Int):=by
  have: (2 ^ min (Int.toNat 1) IntKind.u64.bits:Int)=2:=by simp[IntKind.bits]
  rw[this,Int.fdiv_eq_ediv_of_nonneg _ ae0]
  omega
 rw[e1,e2,e3]
 exact wrap64 ae0 ae0
def Fu (f:Nat) (l:List Event) (a m b:Nat):Prop:= ∃l':List Event,Sw l' l∧Ev E 692 [.msl 5 (l.map Event.v) 0 l.length,ar a,ar m,ar b,.fn f []] ⟨.tuple [],[(0,l'.map Event.v)]⟩
section
variable {c:Event→Event→Int} {f:Nat} (hm:bC E f=[]) (lY: ∀a b:Event,Ev E f [a.v,b.v] ⟨vi (c a b),[]⟩)
include hm lY
theorem aen {l:List Event} (hlen:l.length< 1000000) {a m b:Nat} (ha:m=a+1) (hb:m<b) (jM:b≤l.length):Fu f l a m b:=by
 have key:=Ev.bH (R:=fun r=> ∃l':List Event,Sw l' l∧r=⟨.tuple [],[(0,l'.map Event.v)]⟩) Np (Nq [.msl 5 (l.map Event.v) 0 l.length,ar a,ar m,ar b,.fn f []]) rfl ?_
 ·obtain⟨res,h1,l',h2,rfl⟩:=key
  exact⟨l',h2,h1⟩
 have w0:IntKind.i64.wrap ((m:Int) - (a:Int))=1:=wt
 conv=>whnf
 repeat' (first| contradiction| intro g| refine st ?_| refine br ?_ ?_<;>intro hc| rfl) <;>conv=>whnf
 refine aO.by (fun ((i,j):Nat×Nat)=> ⟨[(0,.sl 0 0 0 l.length),(1,ar a),(2,ar m),(3,ar b),(4,.fn f []),(10,ar i),(11,ar j)],[(0,⟨0,5,true,false,some (l.map Event.v)⟩)]⟩)
  (fun p=>m≤p.1∧p.1≤p.2∧p.2≤b) (fun p=>p.2 - p.1) (m,b) su ⟨afU,om,afU⟩ ?_
 rintro⟨i,j⟩ ⟨h1,h2,h3⟩
 dsimp only at h1 h2 h3
 by_cases bk:i<j
 ·obtain⟨x,hx⟩: ∃x,l[(i+j) / 2]? =some x:=⟨_,aL ae0⟩
  obtain⟨y,hy⟩: ∃x,l[a]? =some x:=⟨_,aL ae0⟩
  have hw:=xQ (i:=i) (j:=j) ae0
  have hs:IntKind.i64.wrap (IntKind.i64.wrap ((IntKind.u64.wrap (IntKind.i64.wrap ((i:Int)+(j:Int)))).fdiv (2 ^ min (Int.toNat 1) IntKind.u64.bits))+1)=(((i+j) / 2+1:Nat):Int):=by
   rw[hw];exact wt
  conv=>whnf
  repeat' (first| (refine mZ.mk ⟨by rw[hw];omega,by rw[hw];omega,rfl,rfl⟩ ?_) | intro g| refine dj.mk _ (av hx hw) ?_| refine dj.mk _ (av hy rfl) ?_| refine sf (lY _ _) ?_| refine st ?_| refine br ?_ ?_<;>intro hc| rfl) <;>conv=>whnf
  ·exact aK.mk ((i+j) / 2+1,j) om ⟨om,om,h3⟩ (by(refine⟨?_,?_⟩ <;>repeat' (first| exact True.intro| refine And.intro (congrArg vi hs) ?_| refine ai ?_| refine And.intro ?_ ?_)))
  ·exact aK.mk (i,(i+j) / 2) om ⟨h1,om,om⟩ (by(refine⟨?_,?_⟩ <;>repeat' (first| exact True.intro| refine And.intro (congrArg vi hw) ?_| refine ai ?_| refine And.intro ?_ ?_)))
 obtain rfl:i=j:=ae0
 clear bk h2
 have wi:IntKind.i64.wrap ((i:Int) - 1)=((i - 1:Nat):Int):=wt
 conv=>whnf
 repeat' (first| intro g| refine st ?_| refine br ?_ ?_<;>intro hc| rfl) <;>conv=>whnf
 refine aO.by (fun ((k,L):Nat×List Event)=> ⟨[(0,.sl 0 0 0 l.length),(10,ar i),(13,ar k)],[(0,⟨0,5,true,false,some (L.map Event.v)⟩)]⟩)
  (fun p=>a≤p.1∧p.1≤i - 1∧Sw p.2 l) (fun p=>i - 1 - p.1) (a,l) su ⟨afU,om,Sw.rfl⟩ ?_
 rintro⟨k,L⟩ ⟨k1,k2,hL,hM⟩
 dsimp only at k1 k2 hL hM
 by_cases bk:k<i - 1
 ·obtain⟨x,hx⟩: ∃x,L[k]? =some x:=⟨_,aL ae0⟩
  obtain⟨y,hy⟩: ∃x,L[k+1]? =some x:=⟨_,aL ae0⟩
  have wk:IntKind.i64.wrap ((k:Int)+1)=((k+1:Nat):Int):=wt
  have nk:0≤IntKind.i64.wrap ((k:Int)+1):=by rw[wk];omega
  obtain⟨z,hz⟩:=VS (ia:=(k:Int)) rfl wk y (L:=L) ae0
  have e2:=HY (L:=L) (ia:=(k:Int)) rfl wk x y
  conv=>whnf
  repeat' (first| intro g| refine dj.mk _ (av hx rfl) ?_| refine dj.mk _ (av hy wk) ?_| refine dj.mk _ hz ?_| refine st ?_| refine br ?_ ?_<;>intro hc| rfl) <;>conv=>whnf
  exact aK.mk (k+1,(L.set k y).set (k+1) x) om ⟨om,om,Sw.HY ⟨hL,hM⟩ hx hy⟩ (by(refine⟨?_,?_⟩ <;>repeat' (first| exact True.intro| refine And.intro (e2) ?_| refine ai ?_| refine And.intro ?_ ?_)))
 ·conv=>whnf
  repeat' (first| ((exfalso;omega)) | intro g| refine st ?_| refine br ?_ ?_<;>intro hc| rfl) <;>conv=>whnf
  exact⟨L,⟨hL,hM⟩,rfl⟩
theorem aeo {l:List Event} (hlen:l.length< 1000000) {a m b:Nat} (ha:a+1 <m) (hb:b=m+1) (jM:b≤l.length):Fu f l a m b:=by
 have key:=Ev.bH (R:=fun r=> ∃l':List Event,Sw l' l∧r=⟨.tuple [],[(0,l'.map Event.v)]⟩) Np (Nq [.msl 5 (l.map Event.v) 0 l.length,ar a,ar m,ar b,.fn f []]) rfl ?_
 ·obtain⟨res,h1,l',h2,rfl⟩:=key
  exact⟨l',h2,h1⟩
 have w0: ¬IntKind.i64.wrap ((m:Int) - (a:Int))=1:=by rw[wrap64 ae0 ae0];omega
 have w1:IntKind.i64.wrap ((b:Int) - (m:Int))=1:=wt
 conv=>whnf
 repeat' (first| contradiction| intro g| refine st ?_| refine br ?_ ?_<;>intro hc| rfl) <;>conv=>whnf
 refine aO.by (fun ((i,j):Nat×Nat)=> ⟨[(0,.sl 0 0 0 l.length),(1,ar a),(2,ar m),(3,ar b),(4,.fn f []),(14,ar i),(15,ar j)],[(0,⟨0,5,true,false,some (l.map Event.v)⟩)]⟩)
  (fun p=>a≤p.1∧p.1≤p.2∧p.2≤m) (fun p=>p.2 - p.1) (a,m) su ⟨afU,om,afU⟩ ?_
 rintro⟨i,j⟩ ⟨h1,h2,h3⟩
 dsimp only at h1 h2 h3
 by_cases bk:i<j
 ·obtain⟨x,hx⟩: ∃x,l[(i+j) / 2]? =some x:=⟨_,aL ae0⟩
  obtain⟨y,hy⟩: ∃x,l[m]? =some x:=⟨_,aL ae0⟩
  have hw:=xQ (i:=i) (j:=j) ae0
  have hs:IntKind.i64.wrap (IntKind.i64.wrap ((IntKind.u64.wrap (IntKind.i64.wrap ((i:Int)+(j:Int)))).fdiv (2 ^ min (Int.toNat 1) IntKind.u64.bits))+1)=(((i+j) / 2+1:Nat):Int):=by
   rw[hw];exact wt
  conv=>whnf
  repeat' (first| (refine mZ.mk ⟨by rw[hw];omega,by rw[hw];omega,rfl,rfl⟩ ?_) | intro g| refine dj.mk _ (av hx hw) ?_| refine dj.mk _ (av hy rfl) ?_| refine sf (lY _ _) ?_| refine st ?_| refine br ?_ ?_<;>intro hc| rfl) <;>conv=>whnf
  ·exact aK.mk ((i+j) / 2+1,j) om ⟨om,om,h3⟩ (by(refine⟨?_,?_⟩ <;>repeat' (first| exact True.intro| refine And.intro (congrArg vi hs) ?_| refine ai ?_| refine And.intro ?_ ?_)))
  ·exact aK.mk (i,(i+j) / 2) om ⟨h1,om,om⟩ (by(refine⟨?_,?_⟩ <;>repeat' (first| exact True.intro| refine And.intro (congrArg vi hw) ?_| refine ai ?_| refine And.intro ?_ ?_)))
 obtain rfl:i=j:=ae0
 clear bk h2
 conv=>whnf
 repeat' (first| intro g| refine st ?_| refine br ?_ ?_<;>intro hc| rfl) <;>conv=>whnf
 refine aO.by (fun ((k,L):Nat×List Event)=> ⟨[(0,.sl 0 0 0 l.length),(14,ar i),(17,ar k)],[(0,⟨0,5,true,false,some (L.map Event.v)⟩)]⟩)
  (fun p=>i≤p.1∧p.1≤m∧Sw p.2 l) (fun p=>p.1 - i) (m,l) su ⟨om,afU,Sw.rfl⟩ ?_
 rintro⟨k,L⟩ ⟨k1,k2,hL,hM⟩
 dsimp only at k1 k2 hL hM
 by_cases bk:i<k
 ·obtain⟨x,hx⟩: ∃x,L[k]? =some x:=⟨_,aL ae0⟩
  obtain⟨y,hy⟩: ∃x,L[k - 1]? =some x:=⟨_,aL ae0⟩
  have wk:IntKind.i64.wrap ((k:Int) - 1)=((k - 1:Nat):Int):=wt
  have nk:0≤IntKind.i64.wrap ((k:Int) - 1):=by rw[wk];omega
  obtain⟨z,hz⟩:=VS (ia:=(k:Int)) rfl wk y (L:=L) ae0
  have e2:=HY (L:=L) (ia:=(k:Int)) rfl wk x y
  conv=>whnf
  repeat' (first| intro g| refine dj.mk _ (av hx rfl) ?_| refine dj.mk _ (av hy wk) ?_| refine dj.mk _ hz ?_| refine st ?_| refine br ?_ ?_<;>intro hc| rfl) <;>conv=>whnf
  exact aK.mk (k - 1,(L.set k y).set (k - 1) x) om ⟨om,om,Sw.HY ⟨hL,hM⟩ hx hy⟩ (by(refine⟨?_,?_⟩ <;>repeat' (first| exact True.intro| refine And.intro (e2) ?_| refine And.intro (congrArg vi wk) ?_| refine ai ?_| refine And.intro ?_ ?_)))
 ·conv=>whnf
  repeat' (first| ((exfalso;omega)) | intro g| refine st ?_| refine br ?_ ?_<;>intro hc| rfl) <;>conv=>whnf
  exact⟨L,⟨hL,hM⟩,rfl⟩
theorem aep {l:List Event} (hlen:l.length< 1000000) {a m b:Nat} (ha:a+1 <m) (hb:m+1 <b) (jM:b≤l.length)
  (ih: ∀ (L:List Event) (x y z:Nat),L.length=l.length→z - x<b - a→x<y→y<z→z≤L.length→Fu f L x y z):Fu f l a m b:=by
 have key:=Ev.TR (R:=fun r=> ∃l':List Event,Sw l' l∧r=⟨.tuple [],[(0,l'.map Event.v)]⟩) Np (Nq [.msl 5 (l.map Event.v) 0 l.length,ar a,ar m,ar b,.fn f []]) rfl ?_
 ·obtain⟨res,h1,l',h2,rfl⟩:=key
  exact⟨l',h2,h1⟩
 obtain⟨mid,hd⟩: ∃x,(a+b) / 2=x:=⟨_,rfl⟩
 have Xn:a<mid:=ae0
 have Mz:mid<b:=ae0
 refine WS.cut 7 (fun ((s,r):Nat×Nat)=> ⟨[(0,.sl 0 0 0 l.length),(1,ar a),(2,ar m),(3,ar b),(4,.fn f []),(18,ar mid),(19,ar (mid+m)),(20,ar s),(21,ar r),(22,ar (mid+m - 1))],[(0,⟨0,5,true,false,some (l.map Event.v)⟩)]⟩)
   (fun p=>a≤p.1∧mid+m≤b+p.1∧p.1≤p.2∧p.2≤m∧p.2≤mid) ?_ ?_
 ·have w0: ¬IntKind.i64.wrap ((m:Int) - (a:Int))=1:=by rw[wrap64 ae0 ae0];omega
  have w1: ¬IntKind.i64.wrap ((b:Int) - (m:Int))=1:=by rw[wrap64 ae0 ae0];omega
  have Lv:=xQ (i:=a) (j:=b) ae0
  rw[hd] at Lv
  have wn:IntKind.i64.wrap (((mid:Nat):Int)+(m:Int))=((mid+m:Nat):Int):=wt
  have wnb:IntKind.i64.wrap (((mid+m:Nat):Int) - (b:Int))=((mid+m:Nat):Int) - (b:Int):=wrap64 ae0 ae0
  conv=>whnf
  repeat' (first| contradiction| intro g| refine st ?_| refine br ?_ ?_<;>intro hc| rfl) <;>conv=>whnf
  all_goals
   have e18:=congrArg vi Lv
   have e19:vi (IntKind.i64.wrap (IntKind.i64.wrap ((IntKind.u64.wrap (IntKind.i64.wrap ((a:Int)+(b:Int)))).fdiv (2 ^ min (Int.toNat 1) IntKind.u64.bits))+(m:Int)))=ar (mid+m):=by rw[Lv,wn]
   have e22:vi (IntKind.i64.wrap (IntKind.i64.wrap (IntKind.i64.wrap ((IntKind.u64.wrap (IntKind.i64.wrap ((a:Int)+(b:Int)))).fdiv (2 ^ min (Int.toNat 1) IntKind.u64.bits))+(m:Int)) - 1))=ar (mid+m - 1):=by
    rw[Lv,wn,wrap64 (n:=((mid+m:Nat):Int) - 1) ae0 ae0]
    exact congrArg vi ae0
   have Xw:b≤mid+m→vi (IntKind.i64.wrap (IntKind.i64.wrap (IntKind.i64.wrap ((IntKind.u64.wrap (IntKind.i64.wrap ((a:Int)+(b:Int)))).fdiv (2 ^ min (Int.toNat 1) IntKind.u64.bits))+(m:Int)) - (b:Int)))=ar (mid+m - b):=fun h=>by
    rw[Lv,wn,wnb]
    exact congrArg vi ae0
   rw[Lv] at hc
  ·have hle:b≤mid+m:=ae0
   have Xw:=Xw hle
   exact xe.mk (mid+m - b,mid) ⟨om,om,om,om,om⟩ (by(refine⟨?_,?_⟩ <;>repeat' (first| exact True.intro| refine And.intro (e18) ?_| refine And.intro (e19) ?_| refine And.intro (e22) ?_| refine And.intro (Xw) ?_| refine ai ?_| refine And.intro ?_ ?_)))
  ·exact xe.mk (a,m) ⟨om,om,om,om,om⟩ (by(refine⟨?_,?_⟩ <;>repeat' (first| exact True.intro| refine And.intro (e18) ?_| refine And.intro (e19) ?_| refine And.intro (e22) ?_| refine ai ?_| refine And.intro ?_ ?_)))
 rintro⟨s0,r0⟩ ⟨p1,p2,p3,p4,p5⟩
 dsimp only at p1 p2 p3 p4 p5
 refine WS.cut 1 (fun s:Nat=> ⟨[(0,.sl 0 0 0 l.length),(1,ar a),(2,ar m),(3,ar b),(4,.fn f []),(18,ar mid),(19,ar (mid+m)),(20,ar s)],[(0,⟨0,5,true,false,some (l.map Event.v)⟩)]⟩)
   (fun s=>a≤s∧mid+m≤b+s∧s≤m∧s≤mid) ?_ ?_
 ·conv=>whnf
  repeat' (first| intro g| refine st ?_| refine br ?_ ?_<;>intro hc| rfl) <;>conv=>whnf
  refine aO.by (fun ((s,r):Nat×Nat)=> ⟨[(0,.sl 0 0 0 l.length),(1,ar a),(2,ar m),(3,ar b),(4,.fn f []),(18,ar mid),(19,ar (mid+m)),(20,ar s),(21,ar r),(22,ar (mid+m - 1))],[(0,⟨0,5,true,false,some (l.map Event.v)⟩)]⟩)
   (fun p=>a≤p.1∧mid+m≤b+p.1∧p.1≤p.2∧p.2≤m∧p.2≤mid) (fun p=>p.2 - p.1) (s0,r0) su ⟨p1,p2,p3,p4,p5⟩ ?_
  clear p1 p2 p3 p4 p5
  rintro⟨s,r⟩ ⟨h1,h2,h3,h4,h5⟩
  dsimp only at h1 h2 h3 h4 h5
  by_cases bk:s<r
  ·obtain⟨x,hx⟩: ∃x,l[(s+r) / 2]? =some x:=⟨_,aL ae0⟩
   obtain⟨y,hy⟩: ∃x,l[mid+m - 1 - (s+r) / 2]? =some x:=⟨_,aL ae0⟩
   have hw:=xQ (i:=s) (j:=r) ae0
   have hs:IntKind.i64.wrap (IntKind.i64.wrap ((IntKind.u64.wrap (IntKind.i64.wrap ((s:Int)+(r:Int)))).fdiv (2 ^ min (Int.toNat 1) IntKind.u64.bits))+1)=(((s+r) / 2+1:Nat):Int):=by
    rw[hw];exact wt
   have hp:IntKind.i64.wrap (((mid+m - 1:Nat):Int) - IntKind.i64.wrap ((IntKind.u64.wrap (IntKind.i64.wrap ((s:Int)+(r:Int)))).fdiv (2 ^ min (Int.toNat 1) IntKind.u64.bits)))=((mid+m - 1 - (s+r) / 2:Nat):Int):=by
    rw[hw];exact wt
   have n1:0≤IntKind.i64.wrap ((IntKind.u64.wrap (IntKind.i64.wrap ((s:Int)+(r:Int)))).fdiv (2 ^ min (Int.toNat 1) IntKind.u64.bits))∧IntKind.i64.wrap ((IntKind.u64.wrap (IntKind.i64.wrap ((s:Int)+(r:Int)))).fdiv (2 ^ min (Int.toNat 1) IntKind.u64.bits)) < (l.length:Int):=by rw[hw];omega
   have n2:0≤IntKind.i64.wrap (((mid+m - 1:Nat):Int) - IntKind.i64.wrap ((IntKind.u64.wrap (IntKind.i64.wrap ((s:Int)+(r:Int)))).fdiv (2 ^ min (Int.toNat 1) IntKind.u64.bits)))∧IntKind.i64.wrap (((mid+m - 1:Nat):Int) - IntKind.i64.wrap ((IntKind.u64.wrap (IntKind.i64.wrap ((s:Int)+(r:Int)))).fdiv (2 ^ min (Int.toNat 1) IntKind.u64.bits))) < (l.length:Int):=by rw[hp];omega
   conv=>whnf
   repeat' (first| first| refine mZ.mk ⟨n1.1,n1.2,rfl,rfl⟩ ?_| refine mZ.mk ⟨n2.1,n2.2,rfl,rfl⟩ ?_| intro g| refine dj.mk _ (av hy hp) ?_| refine dj.mk _ (av hx hw) ?_| refine sf (lY _ _) ?_| refine st ?_| refine br ?_ ?_<;>intro hc| rfl) <;>conv=>whnf
   ·exact aK.mk ((s+r) / 2+1,r) om ⟨om,om,om,h4,h5⟩ (by(refine⟨?_,?_⟩ <;>repeat' (first| exact True.intro| refine And.intro (congrArg vi hs) ?_| refine ai ?_| refine And.intro ?_ ?_)))
   ·exact aK.mk (s,(s+r) / 2) om ⟨h1,h2,om,om,om⟩ (by(refine⟨?_,?_⟩ <;>repeat' (first| exact True.intro| refine And.intro (congrArg vi hw) ?_| refine ai ?_| refine And.intro ?_ ?_)))
  obtain rfl:s=r:=ae0
  conv=>whnf
  repeat' (first| intro g| refine st ?_| refine br ?_ ?_<;>intro hc| rfl) <;>conv=>whnf
  exact xe.mk s ⟨h1,h2,h4,h5⟩ su
 clear p1 p2 p3 p4 p5
 rintro s ⟨h1,h2,h4,h5⟩
 have we:IntKind.i64.wrap (((mid+m:Nat):Int) - (s:Int))=((mid+m - s:Nat):Int):=wt
 refine WS.of ?_
 by_cases hA:s<m∧s<mid
 ·by_cases hB:a<s∧s<mid
  ·by_cases hC:s<m∧mid+m<b+s
   ·obtain⟨l1,⟨k1,m1⟩,c1⟩:=xP (l:=l) hlen (a:=s) (m:=m) (b:=mid+m - s) (f:=f) ae0 ae0 ae0
    rw[ja we] at c1
    obtain⟨l2,⟨k2,m2⟩,c2⟩:=ih l1 a s mid ae0 ae0 ae0 ae0 ae0
    rw[show l1.length=l.length from by omega] at c2
    obtain⟨l3,⟨k3,m3⟩,c3⟩:=ih l2 mid (mid+m - s) b ae0 ae0 ae0 ae0 ae0
    rw[show l2.length=l.length from by omega,ja we] at c3
    conv=>whnf
    repeat' (first| ((exfalso;omega)) | intro g| refine nd ⟨rfl,rfl,rfl,by simp;omega,Event.aV _⟩ ?_| refine nd ⟨rfl,rfl,Event.aV _⟩ ?_| apply ca c1| apply ca c2| apply ca c3| refine st ?_| refine br ?_ ?_<;>intro hc| rfl) <;>conv=>whnf
    all_goals exact⟨l3,⟨ae0,fun x hx=>m1 x (m2 x (m3 x hx))⟩,rfl⟩
   ·obtain⟨l1,⟨k1,m1⟩,c1⟩:=xP (l:=l) hlen (a:=s) (m:=m) (b:=mid+m - s) (f:=f) ae0 ae0 ae0
    rw[ja we] at c1
    obtain⟨l2,⟨k2,m2⟩,c2⟩:=ih l1 a s mid ae0 ae0 ae0 ae0 ae0
    rw[show l1.length=l.length from by omega] at c2
    conv=>whnf
    repeat' (first| ((exfalso;omega)) | intro g| refine nd ⟨rfl,rfl,rfl,by simp;omega,Event.aV _⟩ ?_| refine nd ⟨rfl,rfl,Event.aV _⟩ ?_| apply ca c1| apply ca c2| refine st ?_| refine br ?_ ?_<;>intro hc| rfl) <;>conv=>whnf
    all_goals exact⟨l2,⟨ae0,fun x hx=>m1 x (m2 x hx)⟩,rfl⟩
  ·by_cases hC:s<m∧mid+m<b+s
   ·obtain⟨l1,⟨k1,m1⟩,c1⟩:=xP (l:=l) hlen (a:=s) (m:=m) (b:=mid+m - s) (f:=f) ae0 ae0 ae0
    rw[ja we] at c1
    obtain⟨l3,⟨k3,m3⟩,c3⟩:=ih l1 mid (mid+m - s) b ae0 ae0 ae0 ae0 ae0
    rw[show l1.length=l.length from by omega,ja we] at c3
    conv=>whnf
    repeat' (first| ((exfalso;omega)) | intro g| refine nd ⟨rfl,rfl,rfl,by simp;omega,Event.aV _⟩ ?_| refine nd ⟨rfl,rfl,Event.aV _⟩ ?_| apply ca c1| apply ca c3| refine st ?_| refine br ?_ ?_<;>intro hc| rfl) <;>conv=>whnf
    all_goals exact⟨l3,⟨ae0,fun x hx=>m1 x (m3 x hx)⟩,rfl⟩
   ·obtain⟨l1,⟨k1,m1⟩,c1⟩:=xP (l:=l) hlen (a:=s) (m:=m) (b:=mid+m - s) (f:=f) ae0 ae0 ae0
    rw[ja we] at c1
    conv=>whnf
    repeat' (first| ((exfalso;omega)) | intro g| refine nd ⟨rfl,rfl,rfl,by simp;omega,Event.aV _⟩ ?_| refine nd ⟨rfl,rfl,Event.aV _⟩ ?_| apply ca c1| refine st ?_| refine br ?_ ?_<;>intro hc| rfl) <;>conv=>whnf
    all_goals exact⟨l1,⟨ae0,m1⟩,rfl⟩
 ·by_cases hB:a<s∧s<mid
  ·by_cases hC:s<m∧mid+m<b+s
   ·obtain⟨l2,⟨k2,m2⟩,c2⟩:=ih l a s mid ae0 ae0 ae0 ae0 ae0
    obtain⟨l3,⟨k3,m3⟩,c3⟩:=ih l2 mid (mid+m - s) b ae0 ae0 ae0 ae0 ae0
    rw[show l2.length=l.length from by omega,ja we] at c3
    conv=>whnf
    repeat' (first| ((exfalso;omega)) | intro g| refine nd ⟨rfl,rfl,rfl,by simp;omega,Event.aV _⟩ ?_| refine nd ⟨rfl,rfl,Event.aV _⟩ ?_| apply ca c2| apply ca c3| refine st ?_| refine br ?_ ?_<;>intro hc| rfl) <;>conv=>whnf
    all_goals exact⟨l3,⟨ae0,fun x hx=>m2 x (m3 x hx)⟩,rfl⟩
   ·obtain⟨l2,⟨k2,m2⟩,c2⟩:=ih l a s mid ae0 ae0 ae0 ae0 ae0
    conv=>whnf
    repeat' (first| ((exfalso;omega)) | intro g| refine nd ⟨rfl,rfl,rfl,by simp;omega,Event.aV _⟩ ?_| refine nd ⟨rfl,rfl,Event.aV _⟩ ?_| apply ca c2| refine st ?_| refine br ?_ ?_<;>intro hc| rfl) <;>conv=>whnf
    all_goals exact⟨l2,⟨ae0,m2⟩,rfl⟩
  ·by_cases hC:s<m∧mid+m<b+s
   ·obtain⟨l3,⟨k3,m3⟩,c3⟩:=ih l mid (mid+m - s) b ae0 ae0 ae0 ae0 ae0
    rw[ja we] at c3
    conv=>whnf
    repeat' (first| ((exfalso;omega)) | intro g| refine nd ⟨rfl,rfl,rfl,by simp;omega,Event.aV _⟩ ?_| refine nd ⟨rfl,rfl,Event.aV _⟩ ?_| apply ca c3| refine st ?_| refine br ?_ ?_<;>intro hc| rfl) <;>conv=>whnf
    all_goals exact⟨l3,⟨ae0,m3⟩,rfl⟩
   ·conv=>whnf
    repeat' (first| ((exfalso;omega)) | intro g| refine nd ⟨rfl,rfl,rfl,by simp;omega,Event.aV _⟩ ?_| refine nd ⟨rfl,rfl,Event.aV _⟩ ?_| refine st ?_| refine br ?_ ?_<;>intro hc| rfl) <;>conv=>whnf
    all_goals exact⟨l,Sw.rfl,rfl⟩
end
end Go.AM
namespace Go.AM
section
variable {c:Event→Event→Int} {f:Nat} (hm:bC E f=[]) (lY: ∀a b:Event,Ev E f [a.v,b.v] ⟨vi (c a b),[]⟩)
include hm lY
theorem HZ: ∀ (N:Nat) {l:List Event} {a m b:Nat},b - a≤N→l.length< 1000000→a<m→m<b→b≤l.length→Fu f l a m b
 | 0,l,a,m,b,hN,_,h1,h2,_=>ae0
 | N+1,l,a,m,b,hN,hl,h1,h2,h3=>by
   by_cases e1:m=a+1
   ·exact aen hm lY hl e1 h2 h3
   by_cases e2:b=m+1
   ·exact aeo hm lY hl ae0 e2 h3
   ·exact aep hm lY hl ae0 ae0 h3 fun L x y z hL bk k1 k2 k3=>HZ N ae0 ae0 k1 k2 k3
theorem Lw {l:List Event} (hlen:l.length< 1000000): ∃l':List Event,Sw l' l∧Ev E 682 [.msl 5 (l.map Event.v) 0 l.length,ar l.length,.fn f []] ⟨.tuple [],[(0,l'.map Event.v)]⟩:=by
 have key:=Ev.TR (R:=fun r=> ∃l':List Event,Sw l' l∧r=⟨.tuple [],[(0,l'.map Event.v)]⟩) Zq (Zr [.msl 5 (l.map Event.v) 0 l.length,ar l.length,.fn f []]) rfl ?_
 ·obtain⟨res,h1,l',h2,rfl⟩:=key
  exact⟨l',h2,h1⟩
 refine WS.cut 4 (fun L:List Event=> ⟨[(0,.sl 0 0 0 l.length),(1,ar l.length),(2,.fn f []),(6,ar 20)],[(0,⟨0,5,true,false,some (L.map Event.v)⟩)]⟩) (fun L=>Sw L l) ?_ ?_
 ·conv=>whnf
  repeat' (first| intro g| refine st ?_| refine br ?_ ?_<;>intro hc| rfl) <;>conv=>whnf
  refine aO.by (fun ((a,L):Nat×List Event)=> ⟨[(0,.sl 0 0 0 l.length),(1,ar l.length),(2,.fn f []),(6,ar 20),(7,ar a),(8,ar (a+20))],[(0,⟨0,5,true,false,some (L.map Event.v)⟩)]⟩)
   (fun p=>p.1≤l.length∧Sw p.2 l) (fun p=>l.length - p.1) (0,l) su ⟨afU,Sw.rfl⟩ ?_
  rintro⟨a,L⟩ ⟨ha,hL,hM⟩
  dsimp only at ha hL hM
  by_cases bk:a+20≤l.length
  ·obtain⟨l1,k1,m1,c1⟩:=tQ hm lY (l0:=L) ae0 (a:=a) (b:=a+20) ae0 ae0
   rw[hL] at c1
   have ws:IntKind.i64.wrap (((a+20:Nat):Int)+20)=((a+20+20:Nat):Int):=wt
   conv=>whnf
   repeat' (first| ((exfalso;omega)) | intro g| refine nd ⟨rfl,rfl,rfl,by simp;omega,Event.aV _⟩ ?_| refine nd ⟨rfl,rfl,Event.aV _⟩ ?_| apply ca c1| refine st ?_| refine br ?_ ?_<;>intro hc| rfl) <;>conv=>whnf
   exact aK.mk (a+20,l1) om ⟨bk,Sw.trans ⟨k1,m1⟩ ⟨hL,hM⟩⟩ (by(refine⟨?_,?_⟩ <;>repeat' (first| exact True.intro| refine And.intro (congrArg vi ws) ?_| refine ai ?_| refine And.intro ?_ ?_)))
  ·obtain⟨l1,k1,m1,c1⟩:=tQ hm lY (l0:=L) ae0 (a:=a) (b:=l.length) ae0 ae0
   rw[hL] at c1
   conv=>whnf
   repeat' (first| ((exfalso;omega)) | intro g| refine nd ⟨rfl,rfl,rfl,by simp;omega,Event.aV _⟩ ?_| refine nd ⟨rfl,rfl,Event.aV _⟩ ?_| apply ca c1| refine st ?_| refine br ?_ ?_<;>intro hc| rfl) <;>conv=>whnf
   exact xe.mk l1 (Sw.trans ⟨k1,m1⟩ ⟨hL,hM⟩) su
 intro L0 hL0
 refine WS.of ?_
 conv=>whnf
 repeat' (first| intro g| refine st ?_| refine br ?_ ?_<;>intro hc| rfl) <;>conv=>whnf
 refine aO.by (fun ((bs,L):Nat×List Event)=> ⟨[(0,.sl 0 0 0 l.length),(1,ar l.length),(2,.fn f []),(6,ar bs)],[(0,⟨0,5,true,false,some (L.map Event.v)⟩)]⟩)
  (fun p=>0 <p.1∧p.1≤2000000∧Sw p.2 l) (fun p=>l.length - p.1) (20,L0) su ⟨om,om,hL0⟩ ?_
 clear hL0 L0
 rintro⟨bs,L⟩ ⟨h0,h1,hL,hM⟩
 dsimp only at h0 h1 hL hM
 by_cases bk:bs<l.length
 case neg=>
  conv=>whnf
  repeat' (first| intro g| refine st ?_| refine br ?_ ?_<;>intro hc| rfl) <;>conv=>whnf
  all_goals exact⟨L,⟨hL,hM⟩,rfl⟩
 have w2:IntKind.i64.wrap (2*(bs:Int))=((bs+bs:Nat):Int):=wt
 have w2':IntKind.i64.wrap ((bs:Int)*2)=((bs+bs:Nat):Int):=wt
 conv=>whnf
 repeat' (first| intro g| refine st ?_| refine br ?_ ?_<;>intro hc| rfl) <;>conv=>whnf
 refine aO.by (fun ((a,L):Nat×List Event)=> ⟨[(0,.sl 0 0 0 l.length),(1,ar l.length),(2,.fn f []),(6,ar bs),(7,ar a),(8,ar (a+(bs+bs)))],[(0,⟨0,5,true,false,some (L.map Event.v)⟩)]⟩)
  (fun p=>p.1≤l.length∧Sw p.2 l) (fun p=>l.length - p.1) (0,L) (by(refine⟨?_,?_⟩ <;>repeat' (first| exact True.intro| refine And.intro ((congrArg vi w2).trans (congrArg ar (agK (bs+bs)).symm)) ?_| refine ai ?_| refine And.intro ?_ ?_))) ⟨afU,hL,hM⟩ ?_
 clear hL hM
 rintro⟨a,L2⟩ ⟨ha,hL,hM⟩
 dsimp only at ha hL hM
 have wa:IntKind.i64.wrap ((a:Int)+(bs:Int))=((a+bs:Nat):Int):=wt
 by_cases j8:a+(bs+bs)≤l.length
 ·obtain⟨l1,⟨k1,m1⟩,c1⟩:=HZ hm lY (bs+bs) (l:=L2) (a:=a) (m:=a+bs) (b:=a+(bs+bs)) ae0 ae0 ae0 ae0 ae0
  rw[hL,ja wa] at c1
  have wb:IntKind.i64.wrap (((a+(bs+bs):Nat):Int)+IntKind.i64.wrap (2*(bs:Int)))=((a+(bs+bs)+(bs+bs):Nat):Int):=by
   rw[w2];exact wt
  conv=>whnf
  repeat' (first| ((exfalso;omega)) | intro g| refine nd ⟨rfl,rfl,rfl,by simp;omega,Event.aV _⟩ ?_| refine nd ⟨rfl,rfl,Event.aV _⟩ ?_| apply ca c1| refine st ?_| refine br ?_ ?_<;>intro hc| rfl) <;>conv=>whnf
  exact aK.mk (a+(bs+bs),l1) om ⟨j8,Sw.trans ⟨k1,m1⟩ ⟨hL,hM⟩⟩ (by(refine⟨?_,?_⟩ <;>repeat' (first| exact True.intro| refine And.intro (congrArg vi wb) ?_| refine ai ?_| refine And.intro ?_ ?_)))
 ·by_cases Mz:a+bs<l.length
  ·obtain⟨l1,⟨k1,m1⟩,c1⟩:=HZ hm lY (l.length - a) (l:=L2) (a:=a) (m:=a+bs) (b:=l.length) ae0 ae0 ae0 ae0 ae0
   rw[hL,ja wa] at c1
   conv=>whnf
   repeat' (first| ((exfalso;omega)) | intro g| refine nd ⟨rfl,rfl,rfl,by simp;omega,Event.aV _⟩ ?_| refine nd ⟨rfl,rfl,Event.aV _⟩ ?_| apply ca c1| refine st ?_| refine br ?_ ?_<;>intro hc| rfl) <;>conv=>whnf
   exact aK.mk (bs+bs,l1) om ⟨om,om,Sw.trans ⟨k1,m1⟩ ⟨hL,hM⟩⟩ (by(refine⟨?_,?_⟩ <;>repeat' (first| exact True.intro| refine And.intro (congrArg vi w2') ?_| refine ai ?_| refine And.intro ?_ ?_)))
  ·conv=>whnf
   repeat' (first| ((exfalso;omega)) | intro g| refine st ?_| refine br ?_ ?_<;>intro hc| rfl) <;>conv=>whnf
   exact aK.mk (bs+bs,L2) om ⟨om,om,hL,hM⟩ (by(refine⟨?_,?_⟩ <;>repeat' (first| exact True.intro| refine And.intro (congrArg vi w2') ?_| refine ai ?_| refine And.intro ?_ ?_)))
theorem AE {l:List Event} (hlen:l.length< 1000000): ∃l':List Event,Sw l' l∧Ev E 666 [.msl 5 (l.map Event.v) 0 l.length,.fn f []] ⟨.tuple [],[(0,l'.map Event.v)]⟩:=by
 obtain⟨l',h1,h2⟩:=Lw hm lY hlen
 refine⟨l',h1,?_⟩
 refine Ev.aI rfl rfl rfl ?_
 conv=>whnf
 repeat' (first| intro g| refine nd ⟨rfl,rfl,rfl,afU,Event.aV _⟩ ?_| refine nd ⟨rfl,rfl,Event.aV _⟩ ?_| apply ca h2| refine st ?_| refine br ?_ ?_<;>intro hc| rfl) <;>conv=>whnf
end
end Go.AM
namespace Go.AM
def kd (s:CB) (a b c d e:Nat):V:= .agg [.str s,.fn a [],.fn b [],.fn c [],.fn d [],.fn e []]
def Uc:V:=kd [100,114,111,112] 672 526 527 524 529
def Ud:V:=kd [102,117,115,101] 673 487 489 485 492
def Ue:V:=kd [116,104,105,110] 674 675 677 679 681
def Uf:V:=kd [103,97,116,104,101,114] 673 8 12 7 9
theorem pI:Ev E 665 [] ⟨.own 6 [Uc,Ud,Ue,Uf],[]⟩:=⟨100,afW⟩
theorem C0 (e:Event):Ev E 672 [e.v] ⟨vi e.n,[]⟩:=by
 refine Ev.aI rfl rfl rfl ?_
 exact dr
theorem qK (e:Event):Ev E 673 [e.v] ⟨vi e.other,[]⟩:=by
 refine Ev.aI rfl rfl rfl ?_
 exact dr
theorem C1 (e:Event):Ev E 674 [e.v] ⟨vi 0,[]⟩:=by
 refine Ev.aI rfl rfl rfl ?_
 exact dr
end Go.AM
namespace Go.AM
def JK (f:Nat) (args:List V):Prop:= ∃ (M:aG) (c:Int),Ev E f args ⟨.tuple [M.v,vi c],[]⟩∧M.Bd
theorem JK.mk {f:Nat} {args:List V} (h: ∃res,Ev E f args res∧ ∃ (M:aG) (c:Int),res=⟨.tuple [M.v,vi c],[]⟩∧M.Bd):JK f args:=by
 obtain⟨_,h1,M,c,rfl,h3⟩:=h
 exact⟨M,c,h1,h3⟩
theorem VT (l:List Int) (hl:l.length< 1000000): ∃r:Int,Ev E 22 [.lit 1 (l.map vi)] ⟨vi r,[]⟩:=bp (g:=vi) (Ev.bH rfl rfl rfl (by
 conv=>whnf
 repeat' (first| intro g| refine st ?_| refine br ?_ ?_<;>intro hc| rfl) <;>conv=>whnf
 refine aO.by (fun i:Nat=> ⟨[(3,vi 0),(6,.lit 1 (l.map vi)),(7,ar l.length),(8,ar i)],[]⟩) (fun i=>i≤l.length) (fun i=>l.length - i) 0 su ae0 ?_
 intro i hi
 by_cases bk:i<l.length
 ·obtain⟨x,hx⟩: ∃x,l[i]? =some x:=⟨_,aL bk⟩
  conv=>whnf
  repeat' (first| intro g| refine wi (av hx rfl) ?_| refine st ?_| refine br ?_ ?_<;>intro hc| rfl) <;>conv=>whnf
  ·exact⟨_,rfl⟩
  ·exact aK.mk (i+1) om ae0 su
 ·conv=>whnf
  repeat' (first| intro g| refine st ?_| refine br ?_ ?_<;>intro hc| rfl) <;>conv=>whnf
  exact⟨_,rfl⟩))
theorem Pj (a b:Event): ∃r:Int,Ev E 667 [a.v,b.v] ⟨vi r,[]⟩:=by
 have h1:=eD a.at_ b.at_
 have h2:=eD a.kind b.kind
 have h3:=eD a.id b.id
 have h4:=eD a.other b.other
 have h5:=eD a.n b.n
 obtain⟨r,h6⟩:=VT [tI a.at_ b.at_,tI a.kind b.kind,tI a.id b.id,tI a.other b.other,tI a.n b.n] afU
 refine bp (g:=vi) (Ev.bH rfl rfl rfl ?_)
 conv=>whnf
 repeat' (first| intro g| apply ca h1| apply ca h2| apply ca h3| apply ca h4| apply ca h5| apply ca h6| refine st ?_| refine br ?_ ?_<;>intro hc| rfl) <;>conv=>whnf
 exact⟨_,rfl⟩
theorem ue {A B C D F G:Prop} {P:Event→Prop} {l l':List Event} (h: ∀e ∈ l,P e) (h': ∀e ∈ l',P e) (k:A∧B∧C∧D∧F∧G):A∧B∧C∧D∧F∧G∧ ∀e ∈ l++l',P e:=
 ⟨k.1,k.2.1,k.2.2.1,k.2.2.2.1,k.2.2.2.2.1,k.2.2.2.2.2,fun e he=> (agd.1 he).elim (h e) (h' e)⟩
theorem Pl {m:aG} (h:m.Bd) (d:Int): ∃l:List Event,l.length≤180∧(∀e ∈ l,yS m e)∧Ev E 657 [m.v,vi d] ⟨.own 5 (l.map Event.v),[]⟩:=by
 suffices hh: ∃res,Ev E 657 [m.v,vi d] res∧ ∃l:List Event,l.length≤180∧(∀e ∈ l,yS m e)∧res=⟨.own 5 (l.map Event.v),[]⟩ by
  obtain⟨_,h1,l,h2,h3,rfl⟩:=hh
  exact⟨l,h2,h3,h1⟩
 obtain⟨l1,n1,p1,a1⟩:=Pc h d
 obtain⟨l2,n2,p2,a2⟩:=Pf h d
 obtain⟨l3,n3,p3,a3⟩:=Ob h d
 obtain⟨l4,n4,p4,a4⟩:=Ph h d
 have hw:=h.w
 obtain⟨c,lY⟩:=sk2 Pj
 have hm:bC E 667=[]:=rfl
 refine Ev.bH rfl rfl rfl ?_
 conv=>whnf
 repeat' (first| intro g| apply ca pI| refine st ?_| refine br ?_ ?_<;>intro hc| rfl) <;>conv=>whnf
 rename_i xj _
 obtain⟨g0,Ak⟩: ∃x,x=g:=⟨_,rfl⟩
 rw[←Ak];clear Ak g
 refine aO.by (fun ((i,l,g):Nat×List Event×Nat)=> ⟨[(1,vi d),(2,.ptr 48 xj 0 0),(5,.sl 97 g 0 l.length),(8,.lit 6 [Uc,Ud,Ue,Uf]),(9,vi 4),(10,ar i)],[(48,⟨xj,4,false,false,some [m.v]⟩),(97,⟨g,5,true,false,some (l.map Event.v)⟩)]⟩)
  (fun (i,l,_)=>i≤4∧(i=0→l.length≤0)∧(i=1→l.length≤126)∧(i=2→l.length≤162)∧(i=3→l.length≤174)∧(i=4→l.length≤180)∧ ∀e ∈ l,yS m e) (fun (i,_)=>4 - i) (0,[],g0) su ⟨afU,afU,afU,afU,afU,afU,afU⟩ ?_
 rintro⟨i,l,gl⟩ ⟨hi,q0,q1,q2,q3,q4,hp⟩
 try dsimp only at hi q0 q1 q2 q3 q4 hp
 rcases(by omega:i=0∨i=1∨i=2∨i=3∨i=4) with rfl| rfl| rfl| rfl| rfl
 ·have hl:=q0 rfl
  clear q0 q1 q2 q3 q4
  have e1:V.int .i64 (IntKind.i64.wrap (((0:Nat):Int)+1))=ar 1:=rfl
  have Aw:List.map Event.v l++List.map Event.v l1=List.map Event.v (l++l1):=(agA ..).symm
  conv=>whnf
  repeat' (first| intro g| apply ca a1| refine st ?_| refine br ?_ ?_<;>intro hc| rfl) <;>conv=>whnf
  refine aK.mk (1,l++l1,g) om (ue hp p1 ?_) (by rw[Aw]; (refine⟨?_,?_⟩ <;>repeat' (first| exact True.intro| refine And.intro (e1) ?_| refine ai ?_| refine And.intro ?_ ?_)))
  simp only[List.length_append]
  omega
 ·have hl:=q1 rfl
  clear q0 q1 q2 q3 q4
  have e1:V.int .i64 (IntKind.i64.wrap (((1:Nat):Int)+1))=ar 2:=rfl
  have Aw:List.map Event.v l++List.map Event.v l2=List.map Event.v (l++l2):=(agA ..).symm
  conv=>whnf
  repeat' (first| intro g| apply ca a2| refine st ?_| refine br ?_ ?_<;>intro hc| rfl) <;>conv=>whnf
  refine aK.mk (2,l++l2,g) om (ue hp p2 ?_) (by rw[Aw]; (refine⟨?_,?_⟩ <;>repeat' (first| exact True.intro| refine And.intro (e1) ?_| refine ai ?_| refine And.intro ?_ ?_)))
  simp only[List.length_append]
  omega
 ·have hl:=q2 rfl
  clear q0 q1 q2 q3 q4
  have e1:V.int .i64 (IntKind.i64.wrap (((2:Nat):Int)+1))=ar 3:=rfl
  have Aw:List.map Event.v l++List.map Event.v l3=List.map Event.v (l++l3):=(agA ..).symm
  conv=>whnf
  repeat' (first| intro g| apply ca a3| refine st ?_| refine br ?_ ?_<;>intro hc| rfl) <;>conv=>whnf
  refine aK.mk (3,l++l3,g) om (ue hp p3 ?_) (by rw[Aw]; (refine⟨?_,?_⟩ <;>repeat' (first| exact True.intro| refine And.intro (e1) ?_| refine ai ?_| refine And.intro ?_ ?_)))
  simp only[List.length_append]
  omega
 ·have hl:=q3 rfl
  clear q0 q1 q2 q3 q4
  have e1:V.int .i64 (IntKind.i64.wrap (((3:Nat):Int)+1))=ar 4:=rfl
  have Aw:List.map Event.v l++List.map Event.v l4=List.map Event.v (l++l4):=(agA ..).symm
  conv=>whnf
  repeat' (first| intro g| apply ca a4| refine st ?_| refine br ?_ ?_<;>intro hc| rfl) <;>conv=>whnf
  refine aK.mk (4,l++l4,g) om (ue hp p4 ?_) (by rw[Aw]; (refine⟨?_,?_⟩ <;>repeat' (first| exact True.intro| refine And.intro (e1) ?_| refine ai ?_| refine And.intro ?_ ?_)))
  simp only[List.length_append]
  omega
 ·have hl:=q4 rfl
  clear q0 q1 q2 q3 q4
  obtain⟨l',⟨k1,k3⟩,k2⟩:=AE hm lY (l:=l) ae0
  conv=>whnf
  repeat' (first| intro g| refine nd ⟨rfl,rfl,afU,Event.aV _⟩ ?_| refine nd ⟨rfl,rfl,rfl,afU,Event.aV _⟩ ?_| refine nd ⟨rfl,rfl,Event.aV _⟩ ?_| apply ca k2| refine st ?_| refine br ?_ ?_<;>intro hc| rfl) <;>conv=>whnf
  exact⟨l',ae0,fun e he=>hp e (k3 e he),rfl⟩
theorem BI {m:aG} (h:m.Bd) (d b:Int): ∃ (e:Event) (ok:Bool),Ev E 644 [m.v,vi d,vi b] ⟨.tuple [e.v,.bool ok],[]⟩∧(ok=true→(1≤e.at_∧e.at_≤1024)∧yS m e):=by
 suffices hh: ∃res,Ev E 644 [m.v,vi d,vi b] res∧ ∃ (e:Event) (ok:Bool),(ok=true→(1≤e.at_∧e.at_≤1024)∧yS m e)∧res=⟨.tuple [e.v,.bool ok],[]⟩ by
  obtain⟨_,h1,e,ok,h2,rfl⟩:=hh
  exact⟨e,ok,h1,h2⟩
 obtain⟨l,hl,hp,h1⟩:=Pl h d
 refine Ev.bH rfl rfl rfl ?_
 by_cases h0:l.length=0
 ·conv=>whnf
  repeat' (first| intro g| apply ca h1| refine st ?_| refine br ?_ ?_<;>intro hc| rfl) <;>conv=>whnf
  exact⟨⟨0,0,0,0,0⟩,false,afU,rfl⟩
 obtain⟨x,hx⟩: ∃x,l[0]? =some x:=⟨_,aL ae0⟩
 conv=>whnf
 repeat' (first| ((exfalso;omega)) | intro g| refine wi (av hx rfl) ?_| apply ca h1| refine st ?_| refine br ?_ ?_<;>intro hc| rfl) <;>conv=>whnf
 ·exact⟨⟨0,0,0,0,0⟩,false,afU,rfl⟩
 ·exact⟨⟨0,0,0,0,0⟩,false,afU,rfl⟩
 ·exact⟨⟨x.kind,if x.at_<IntKind.i64.wrap (b+1) then IntKind.i64.wrap (b+1) else x.at_,x.id,x.other,x.n⟩,true,fun _=> ⟨⟨om,om⟩,(hp x (List.mem_of_getElem? hx)).up (by split<;>omega)⟩,rfl⟩
end Go.AM
namespace Go.AM
theorem SA (t a b:Int):Ev E 668 [vi 1,vi t,vi a,vi b] ⟨(Event.mk 1 t a 0 b).v,[]⟩:=by
 refine Ev.aI rfl rfl rfl ?_
 conv=>whnf
 repeat' (first| intro g| refine st ?_| refine br ?_ ?_<;>intro hc| rfl) <;>conv=>whnf
theorem SB (t a b:Int):Ev E 668 [vi 2,vi t,vi a,vi b] ⟨(Event.mk 2 t a b 0).v,[]⟩:=by
 refine Ev.aI rfl rfl rfl ?_
 conv=>whnf
 repeat' (first| intro g| refine st ?_| refine br ?_ ?_<;>intro hc| rfl) <;>conv=>whnf
theorem SC (t a b:Int):Ev E 668 [vi 3,vi t,vi a,vi b] ⟨(Event.mk 3 t a 0 0).v,[]⟩:=by
 refine Ev.aI rfl rfl rfl ?_
 conv=>whnf
 repeat' (first| intro g| refine st ?_| refine br ?_ ?_<;>intro hc| rfl) <;>conv=>whnf
theorem SD (t a b:Int):Ev E 668 [vi 4,vi t,vi a,vi b] ⟨(Event.mk 4 t a b 0).v,[]⟩:=by
 refine Ev.aI rfl rfl rfl ?_
 conv=>whnf
 repeat' (first| intro g| refine st ?_| refine br ?_ ?_<;>intro hc| rfl) <;>conv=>whnf
theorem Pm (t a n:Int):Ev E 659 [(Event.mk 1 t a 0 n).v] ⟨.tuple [Uc,.bool true],[]⟩:=by
 have h1:=SA t a n
 have h2:=C0 (Event.mk 1 t a 0 n)
 have hk: [Uc,Ud,Ue,Uf][(IntKind.i64.wrap ((1:Int) - 1)).toNat]? =some Uc:=rfl
 have hn: (0:Int)≤IntKind.i64.wrap ((1:Int) - 1):=afV
 refine Ev.aI rfl rfl rfl ?_
 conv=>whnf
 repeat' (first| intro g| refine nd ⟨hn,rfl⟩ ?_| refine wi hk ?_| apply ca pI| apply ca h2| apply ca h1| refine st ?_| refine br ?_ ?_<;>intro hc| rfl) <;>conv=>whnf
 simp
theorem Pn (t a b:Int):Ev E 659 [(Event.mk 2 t a b 0).v] ⟨.tuple [Ud,.bool true],[]⟩:=by
 have h1:=SB t a b
 have h2:=qK (Event.mk 2 t a b 0)
 have hk: [Uc,Ud,Ue,Uf][(IntKind.i64.wrap ((2:Int) - 1)).toNat]? =some Ud:=rfl
 have hn: (0:Int)≤IntKind.i64.wrap ((2:Int) - 1):=afV
 refine Ev.aI rfl rfl rfl ?_
 conv=>whnf
 repeat' (first| intro g| refine nd ⟨hn,rfl⟩ ?_| refine wi hk ?_| apply ca pI| apply ca h2| apply ca h1| refine st ?_| refine br ?_ ?_<;>intro hc| rfl) <;>conv=>whnf
 simp
theorem Po (t a:Int):Ev E 659 [(Event.mk 3 t a 0 0).v] ⟨.tuple [Ue,.bool true],[]⟩:=by
 have h1:=SC t a 0
 have h2:=C1 (Event.mk 3 t a 0 0)
 have hk: [Uc,Ud,Ue,Uf][(IntKind.i64.wrap ((3:Int) - 1)).toNat]? =some Ue:=rfl
 have hn: (0:Int)≤IntKind.i64.wrap ((3:Int) - 1):=afV
 refine Ev.aI rfl rfl rfl ?_
 conv=>whnf
 repeat' (first| intro g| refine nd ⟨hn,rfl⟩ ?_| refine wi hk ?_| apply ca pI| apply ca h2| apply ca h1| refine st ?_| refine br ?_ ?_<;>intro hc| rfl) <;>conv=>whnf
 simp
theorem Pp (t a b:Int):Ev E 659 [(Event.mk 4 t a b 0).v] ⟨.tuple [Uf,.bool true],[]⟩:=by
 have h1:=SD t a b
 have h2:=qK (Event.mk 4 t a b 0)
 have hk: [Uc,Ud,Ue,Uf][(IntKind.i64.wrap ((4:Int) - 1)).toNat]? =some Uf:=rfl
 have hn: (0:Int)≤IntKind.i64.wrap ((4:Int) - 1):=afV
 refine Ev.aI rfl rfl rfl ?_
 conv=>whnf
 repeat' (first| intro g| refine nd ⟨hn,rfl⟩ ?_| refine wi hk ?_| apply ca pI| apply ca h2| apply ca h1| refine st ?_| refine br ?_ ?_<;>intro hc| rfl) <;>conv=>whnf
 simp
theorem Pq {m:aG} {a c:Int} (b:Int) (h1:Ev E 676 [m.v,vi a] ⟨vi c,[]⟩):Ev E 675 [m.v,vi a,vi b] ⟨vi c,[]⟩:=by
 refine Ev.aI rfl rfl rfl ?_
 conv=>whnf
 repeat' (first| intro g| apply ca h1| refine st ?_| refine br ?_ ?_<;>intro hc| rfl) <;>conv=>whnf
theorem Lx {m:aG} {a c:Int} (b:Int) (h1:Ev E 678 [m.v,vi a] ⟨vi c,[]⟩):Ev E 677 [m.v,vi a,vi b] ⟨vi c,[]⟩:=by
 refine Ev.aI rfl rfl rfl ?_
 conv=>whnf
 repeat' (first| intro g| apply ca h1| refine st ?_| refine br ?_ ?_<;>intro hc| rfl) <;>conv=>whnf
theorem H0 {m:aG} (h:m.Bd) {a:Int} (b:Int) (h1:Ev E 676 [m.v,vi a] ⟨vi 0,[]⟩):wB 679 [m.v,vi a,vi b]:=by
 obtain⟨v,M,h1,h2,h3⟩:=KX h h1
 have hm:bC E 680=[]:=rfl
 have hp:V.ak [m.v,vi a]=true:=rfl
 refine .mk (Ev.bH rfl rfl rfl ?_)
 conv=>whnf
 repeat' (first| refine jY hm hp h1 h2 ?_| intro g| refine st ?_| refine br ?_ ?_<;>intro hc| rfl) <;>conv=>whnf
 exact⟨_,M,rfl,fun _ _=>rfl,h3⟩
theorem Pr {m:aG} {e:Event} (h:yS m e) (ht:e.at_≤1024):Ev E 658 [m.v,e.v] ⟨vi 0,[]⟩:=by
 cases h with
 | @drop t a n c h1 h2 h3 h4=>
   dsimp only at ht
   have g1:=Pm t a n
   have g2:=C0 (Event.mk 1 t a 0 n)
   refine Ev.aI rfl rfl rfl ?_
   conv=>whnf
   repeat' (first| ((exfalso;omega)) | intro g| apply ca g1| apply ca g2| apply ca h1| apply ca h2| refine st ?_| refine br ?_ ?_<;>intro hc| rfl) <;>conv=>whnf
 | @N9 t a b c h1 h2 h3 h4=>
   dsimp only at ht
   have g1:=Pn t a b
   have g2:=qK (Event.mk 2 t a b 0)
   refine Ev.aI rfl rfl rfl ?_
   conv=>whnf
   repeat' (first| ((exfalso;omega)) | intro g| apply ca g1| apply ca g2| apply ca h1| apply ca h2| refine st ?_| refine br ?_ ?_<;>intro hc| rfl) <;>conv=>whnf
 | @thin t a c h1 h2 h3 h4=>
   dsimp only at ht
   have g1:=Po t a
   have g2:=C1 (Event.mk 3 t a 0 0)
   have g3:=Pq 0 h1
   have g4:=Lx 0 h2
   refine Ev.aI rfl rfl rfl ?_
   conv=>whnf
   repeat' (first| ((exfalso;omega)) | intro g| apply ca g1| apply ca g2| apply ca g3| apply ca g4| refine st ?_| refine br ?_ ?_<;>intro hc| rfl) <;>conv=>whnf
 | @yT t a b c h1 h2 h3 h4=>
   dsimp only at ht
   have g1:=Pp t a b
   have g2:=qK (Event.mk 4 t a b 0)
   refine Ev.aI rfl rfl rfl ?_
   conv=>whnf
   repeat' (first| ((exfalso;omega)) | intro g| apply ca g1| apply ca g2| apply ca h1| apply ca h2| refine st ?_| refine br ?_ ?_<;>intro hc| rfl) <;>conv=>whnf
def C2 (f:Nat) (args:List V):Prop:= ∃M:aG,Ev E f args ⟨.tuple [M.v,vi 0],[]⟩∧M.Bd
theorem C2.mk {f:Nat} {args:List V} (h: ∃res,Ev E f args res∧ ∃M:aG,res=⟨.tuple [M.v,vi 0],[]⟩∧M.Bd):C2 f args:=by
 obtain⟨_,h1,M,rfl,h3⟩:=h
 exact⟨M,h1,h3⟩
theorem H2 {m:aG} (hm:m.Bd) {e:Event} (h:yS m e) (ht:e.at_≤1024):C2 645 [m.v,e.v]:=by
 have hc:=Pr h ht
 cases h with
 | @drop t a n c h1 h2 h3 h4=>
   obtain⟨v,M,k1,k2,k3⟩:=Ls hm h1
   have g1:=Pm t a n
   have g2:=C0 (Event.mk 1 t a 0 n)
   have VU:bC E 524=[]:=rfl
   have hp:V.ak [m.v,vi a,vi n]=true:=rfl
   refine .mk (Ev.bH rfl rfl rfl ?_)
   conv=>whnf
   repeat' (first| refine jY VU hp k1 k2 ?_| intro g| apply ca hc| apply ca g1| apply ca g2| refine st ?_| refine br ?_ ?_<;>intro hc| rfl) <;>conv=>whnf
   exact⟨M,rfl,k3⟩
 | @N9 t a b c h1 h2 h3 h4=>
   obtain⟨v,M,k1,k2,k3⟩:=Lt hm (CS ((JJ hm.small a b).Z1 h1))
   have g1:=Pn t a b
   have g2:=qK (Event.mk 2 t a b 0)
   have VU:bC E 485=[]:=rfl
   have hp:V.ak [m.v,vi a,vi b]=true:=rfl
   refine .mk (Ev.bH rfl rfl rfl ?_)
   conv=>whnf
   repeat' (first| refine jY VU hp k1 k2 ?_| intro g| apply ca hc| apply ca g1| apply ca g2| refine st ?_| refine br ?_ ?_<;>intro hc| rfl) <;>conv=>whnf
   exact⟨M,rfl,k3⟩
 | @thin t a c h1 h2 h3 h4=>
   obtain⟨v,M,k1,k2,k3⟩:=H0 hm 0 h1
   have g1:=Po t a
   have g2:=C1 (Event.mk 3 t a 0 0)
   have VU:bC E 679=[]:=rfl
   have hp:V.ak [m.v,vi a,vi 0]=true:=rfl
   refine .mk (Ev.bH rfl rfl rfl ?_)
   conv=>whnf
   repeat' (first| refine jY VU hp k1 k2 ?_| intro g| apply ca hc| apply ca g1| apply ca g2| refine st ?_| refine br ?_ ?_<;>intro hc| rfl) <;>conv=>whnf
   exact⟨M,rfl,k3⟩
 | @yT t a b c h1 h2 h3 h4=>
   obtain⟨v,M,k1,k2,k3⟩:=Lu hm (CS ((CI (by have:=hm.p;omega) a b).Z1 h1))
   have g1:=Pp t a b
   have g2:=qK (Event.mk 4 t a b 0)
   have VU:bC E 7=[]:=rfl
   have hp:V.ak [m.v,vi a,vi b]=true:=rfl
   refine .mk (Ev.bH rfl rfl rfl ?_)
   conv=>whnf
   repeat' (first| refine jY VU hp k1 k2 ?_| intro g| apply ca hc| apply ca g1| apply ca g2| refine st ?_| refine br ?_ ?_<;>intro hc| rfl) <;>conv=>whnf
   exact⟨M,rfl,k3⟩
end Go.AM
