/- Texts of the proof. -/
import Derived.Test.YtdldmebldkgcnaaGreatGag
import Derived.KernelRfl
set_option maxRecDepth 20000
set_option maxHeartbeats 4000000
set_option linter.unusedSimpArgs false
set_option linter.unusedVariables false
namespace Go.AM
theorem zy {i j:Nat} (h:i+j< 2000000):IntKind.i64.wrap ((IntKind.u64.wrap (IntKind.i64.wrap ((i:Int)+(j:Int)))).fdiv (2 ^ min (Int.toNat 1) IntKind.u64.bits))=(((i+j) / 2:Nat):Int):=by
 have e1:IntKind.i64.wrap ((i:Int)+(j:Int))=((i+j:Nat):Int):=wt
 have e2:IntKind.u64.wrap ((i+j:Nat):Int)=((i+j:Nat):Int):=by
  simp[IntKind.wrap,IntKind.bits,IntKind.signed];omega
 have e3: (((i+j:Nat):Int)).fdiv (2 ^ min (Int.toNat 1) IntKind.u64.bits)=(((i+j) / 2:Nat):Int):=by
  have: (2 ^ min (Int.toNat 1) IntKind.u64.bits:Int)=2:=by simp[IntKind.bits]
  rw[this,akG _ abV]
  omega
 rw[e1,e2,e3]
 exact wrap64 abV abV
def HJ (f:Nat) (l:List Event) (a m b:Nat):Prop:= ∃l':List Event,l'.length=l.length∧Ev E 692 [.msl 5 (l.map Event.v) 0 l.length,av a,av m,av b,.fn f []] ⟨.tuple [],[(0,l'.map Event.v)]⟩
section
variable {c:Event→Event→Int} {f:Nat} (hm:bz E f=[]) (mQ: ∀a b:Event,Ev E f [a.v,b.v] ⟨vi (c a b),[]⟩)
include hm mQ
theorem ag9 {l:List Event} (hlen:l.length< 1000000) {a m b:Nat} (ha:m=a+1) (hb:m<b) (lf:b≤l.length):HJ f l a m b:=by
 have key:=Ev.bD (R:=fun r=> ∃l':List Event,l'.length=l.length∧r=⟨.tuple [],[(0,l'.map Event.v)]⟩) Qy (Qz [.msl 5 (l.map Event.v) 0 l.length,av a,av m,av b,.fn f []]) rfl ?_
 ·obtain⟨res,h1,l',h2,rfl⟩:=key
  exact⟨l',h2,h1⟩
 have w0:IntKind.i64.wrap ((m:Int) - (a:Int))=1:=wt
 conv=>whnf
 repeat' (first| contradiction| intro g| refine st ?_| refine br ?_ ?_<;>intro hc| rfl) <;>conv=>whnf
 refine aL.by (fun ((i,j):Nat×Nat)=> ⟨[(0,.sl 0 0 0 l.length),(1,av a),(2,av m),(3,av b),(4,.fn f []),(10,av i),(11,av j)],[(0,⟨0,5,true,false,some (l.map Event.v)⟩)]⟩)
  (fun p=>m≤p.1∧p.1≤p.2∧p.2≤b) (fun p=>p.2 - p.1) (m,b) su ⟨abW,om,abW⟩ ?_
 rintro⟨i,j⟩ ⟨h1,h2,h3⟩
 dsimp only at h1 h2 h3
 by_cases bl:i<j
 ·obtain⟨x,hx⟩: ∃x,l[(i+j) / 2]? =some x:=⟨_,aH abV⟩
  obtain⟨y,hy⟩: ∃x,l[a]? =some x:=⟨_,aH abV⟩
  have hw:=zy (i:=i) (j:=j) abV
  have hs:IntKind.i64.wrap (IntKind.i64.wrap ((IntKind.u64.wrap (IntKind.i64.wrap ((i:Int)+(j:Int)))).fdiv (2 ^ min (Int.toNat 1) IntKind.u64.bits))+1)=(((i+j) / 2+1:Nat):Int):=by
   rw[hw];exact wt
  conv=>whnf
  repeat' (first| (refine fN.mk ⟨by rw[hw];omega,by rw[hw];omega,rfl,rfl⟩ ?_) | intro g| refine bZ.mk _ (aq hx hw) ?_| refine bZ.mk _ (aq hy rfl) ?_| refine sf (mQ _ _) ?_| refine st ?_| refine br ?_ ?_<;>intro hc| rfl) <;>conv=>whnf
  ·exact aK.mk ((i+j) / 2+1,j) om ⟨om,om,h3⟩ (by(refine⟨?_,?_⟩ <;>repeat' (first| exact True.intro| refine And.intro (congrArg vi hs) ?_| refine ai ?_| refine And.intro ?_ ?_)))
  ·exact aK.mk (i,(i+j) / 2) om ⟨h1,om,om⟩ (by(refine⟨?_,?_⟩ <;>repeat' (first| exact True.intro| refine And.intro (congrArg vi hw) ?_| refine ai ?_| refine And.intro ?_ ?_)))
 obtain rfl:i=j:=abV
 clear bl h2
 have wi:IntKind.i64.wrap ((i:Int) - 1)=((i - 1:Nat):Int):=wt
 conv=>whnf
 repeat' (first| intro g| refine st ?_| refine br ?_ ?_<;>intro hc| rfl) <;>conv=>whnf
 refine aL.by (fun ((k,L):Nat×List Event)=> ⟨[(0,.sl 0 0 0 l.length),(10,av i),(13,av k)],[(0,⟨0,5,true,false,some (L.map Event.v)⟩)]⟩)
  (fun p=>a≤p.1∧p.1≤i - 1∧p.2.length=l.length) (fun p=>i - 1 - p.1) (a,l) su ⟨abW,om,rfl⟩ ?_
 rintro⟨k,L⟩ ⟨k1,k2,hL⟩
 dsimp only at k1 k2 hL
 by_cases bl:k<i - 1
 ·obtain⟨x,hx⟩: ∃x,L[k]? =some x:=⟨_,aH abV⟩
  obtain⟨y,hy⟩: ∃x,L[k+1]? =some x:=⟨_,aH abV⟩
  have wk:IntKind.i64.wrap ((k:Int)+1)=((k+1:Nat):Int):=wt
  have nk:0≤IntKind.i64.wrap ((k:Int)+1):=by rw[wk];omega
  obtain⟨z,hz⟩:=Zj (ia:=(k:Int)) rfl wk y (L:=L) abV
  have e2:=Zi (L:=L) (ia:=(k:Int)) rfl wk x y
  conv=>whnf
  repeat' (first| intro g| refine bZ.mk _ (aq hx rfl) ?_| refine bZ.mk _ (aq hy wk) ?_| refine bZ.mk _ hz ?_| refine st ?_| refine br ?_ ?_<;>intro hc| rfl) <;>conv=>whnf
  exact aK.mk (k+1,(L.set k y).set (k+1) x) om ⟨om,om,by simp[hL]⟩ (by(refine⟨?_,?_⟩ <;>repeat' (first| exact True.intro| refine And.intro (e2) ?_| refine ai ?_| refine And.intro ?_ ?_)))
 ·conv=>whnf
  repeat' (first| ((exfalso;omega)) | intro g| refine st ?_| refine br ?_ ?_<;>intro hc| rfl) <;>conv=>whnf
  exact⟨L,hL,rfl⟩
theorem aha {l:List Event} (hlen:l.length< 1000000) {a m b:Nat} (ha:a+1 <m) (hb:b=m+1) (lf:b≤l.length):HJ f l a m b:=by
 have key:=Ev.bD (R:=fun r=> ∃l':List Event,l'.length=l.length∧r=⟨.tuple [],[(0,l'.map Event.v)]⟩) Qy (Qz [.msl 5 (l.map Event.v) 0 l.length,av a,av m,av b,.fn f []]) rfl ?_
 ·obtain⟨res,h1,l',h2,rfl⟩:=key
  exact⟨l',h2,h1⟩
 have w0: ¬IntKind.i64.wrap ((m:Int) - (a:Int))=1:=by rw[wrap64 abV abV];omega
 have w1:IntKind.i64.wrap ((b:Int) - (m:Int))=1:=wt
 conv=>whnf
 repeat' (first| contradiction| intro g| refine st ?_| refine br ?_ ?_<;>intro hc| rfl) <;>conv=>whnf
 refine aL.by (fun ((i,j):Nat×Nat)=> ⟨[(0,.sl 0 0 0 l.length),(1,av a),(2,av m),(3,av b),(4,.fn f []),(14,av i),(15,av j)],[(0,⟨0,5,true,false,some (l.map Event.v)⟩)]⟩)
  (fun p=>a≤p.1∧p.1≤p.2∧p.2≤m) (fun p=>p.2 - p.1) (a,m) su ⟨abW,om,abW⟩ ?_
 rintro⟨i,j⟩ ⟨h1,h2,h3⟩
 dsimp only at h1 h2 h3
 by_cases bl:i<j
 ·obtain⟨x,hx⟩: ∃x,l[(i+j) / 2]? =some x:=⟨_,aH abV⟩
  obtain⟨y,hy⟩: ∃x,l[m]? =some x:=⟨_,aH abV⟩
  have hw:=zy (i:=i) (j:=j) abV
  have hs:IntKind.i64.wrap (IntKind.i64.wrap ((IntKind.u64.wrap (IntKind.i64.wrap ((i:Int)+(j:Int)))).fdiv (2 ^ min (Int.toNat 1) IntKind.u64.bits))+1)=(((i+j) / 2+1:Nat):Int):=by
   rw[hw];exact wt
  conv=>whnf
  repeat' (first| (refine fN.mk ⟨by rw[hw];omega,by rw[hw];omega,rfl,rfl⟩ ?_) | intro g| refine bZ.mk _ (aq hx hw) ?_| refine bZ.mk _ (aq hy rfl) ?_| refine sf (mQ _ _) ?_| refine st ?_| refine br ?_ ?_<;>intro hc| rfl) <;>conv=>whnf
  ·exact aK.mk ((i+j) / 2+1,j) om ⟨om,om,h3⟩ (by(refine⟨?_,?_⟩ <;>repeat' (first| exact True.intro| refine And.intro (congrArg vi hs) ?_| refine ai ?_| refine And.intro ?_ ?_)))
  ·exact aK.mk (i,(i+j) / 2) om ⟨h1,om,om⟩ (by(refine⟨?_,?_⟩ <;>repeat' (first| exact True.intro| refine And.intro (congrArg vi hw) ?_| refine ai ?_| refine And.intro ?_ ?_)))
 obtain rfl:i=j:=abV
 clear bl h2
 conv=>whnf
 repeat' (first| intro g| refine st ?_| refine br ?_ ?_<;>intro hc| rfl) <;>conv=>whnf
 refine aL.by (fun ((k,L):Nat×List Event)=> ⟨[(0,.sl 0 0 0 l.length),(14,av i),(17,av k)],[(0,⟨0,5,true,false,some (L.map Event.v)⟩)]⟩)
  (fun p=>i≤p.1∧p.1≤m∧p.2.length=l.length) (fun p=>p.1 - i) (m,l) su ⟨om,abW,rfl⟩ ?_
 rintro⟨k,L⟩ ⟨k1,k2,hL⟩
 dsimp only at k1 k2 hL
 by_cases bl:i<k
 ·obtain⟨x,hx⟩: ∃x,L[k]? =some x:=⟨_,aH abV⟩
  obtain⟨y,hy⟩: ∃x,L[k - 1]? =some x:=⟨_,aH abV⟩
  have wk:IntKind.i64.wrap ((k:Int) - 1)=((k - 1:Nat):Int):=wt
  have nk:0≤IntKind.i64.wrap ((k:Int) - 1):=by rw[wk];omega
  obtain⟨z,hz⟩:=Zj (ia:=(k:Int)) rfl wk y (L:=L) abV
  have e2:=Zi (L:=L) (ia:=(k:Int)) rfl wk x y
  conv=>whnf
  repeat' (first| intro g| refine bZ.mk _ (aq hx rfl) ?_| refine bZ.mk _ (aq hy wk) ?_| refine bZ.mk _ hz ?_| refine st ?_| refine br ?_ ?_<;>intro hc| rfl) <;>conv=>whnf
  exact aK.mk (k - 1,(L.set k y).set (k - 1) x) om ⟨om,om,by simp[hL]⟩ (by(refine⟨?_,?_⟩ <;>repeat' (first| exact True.intro| refine And.intro (e2) ?_| refine And.intro (congrArg vi wk) ?_| refine ai ?_| refine And.intro ?_ ?_)))
 ·conv=>whnf
  repeat' (first| ((exfalso;omega)) | intro g| refine st ?_| refine br ?_ ?_<;>intro hc| rfl) <;>conv=>whnf
  exact⟨L,hL,rfl⟩
theorem ahb {l:List Event} (hlen:l.length< 1000000) {a m b:Nat} (ha:a+1 <m) (hb:m+1 <b) (lf:b≤l.length)
  (ih: ∀ (L:List Event) (x y z:Nat),L.length=l.length→z - x<b - a→x<y→y<z→z≤L.length→HJ f L x y z):HJ f l a m b:=by
 have key:=Ev.Qt (R:=fun r=> ∃l':List Event,l'.length=l.length∧r=⟨.tuple [],[(0,l'.map Event.v)]⟩) Qy (Qz [.msl 5 (l.map Event.v) 0 l.length,av a,av m,av b,.fn f []]) rfl ?_
 ·obtain⟨res,h1,l',h2,rfl⟩:=key
  exact⟨l',h2,h1⟩
 obtain⟨mid,hd⟩: ∃x,(a+b) / 2=x:=⟨_,rfl⟩
 have Xj:a<mid:=abV
 have PM:mid<b:=abV
 refine WS.cut 7 (fun ((s,r):Nat×Nat)=> ⟨[(0,.sl 0 0 0 l.length),(1,av a),(2,av m),(3,av b),(4,.fn f []),(18,av mid),(19,av (mid+m)),(20,av s),(21,av r),(22,av (mid+m - 1))],[(0,⟨0,5,true,false,some (l.map Event.v)⟩)]⟩)
   (fun p=>a≤p.1∧mid+m≤b+p.1∧p.1≤p.2∧p.2≤m∧p.2≤mid) ?_ ?_
 ·have w0: ¬IntKind.i64.wrap ((m:Int) - (a:Int))=1:=by rw[wrap64 abV abV];omega
  have w1: ¬IntKind.i64.wrap ((b:Int) - (m:Int))=1:=by rw[wrap64 abV abV];omega
  have Og:=zy (i:=a) (j:=b) abV
  rw[hd] at Og
  have wn:IntKind.i64.wrap (((mid:Nat):Int)+(m:Int))=((mid+m:Nat):Int):=wt
  have wnb:IntKind.i64.wrap (((mid+m:Nat):Int) - (b:Int))=((mid+m:Nat):Int) - (b:Int):=wrap64 abV abV
  conv=>whnf
  repeat' (first| contradiction| intro g| refine st ?_| refine br ?_ ?_<;>intro hc| rfl) <;>conv=>whnf
  all_goals
   have e18:=congrArg vi Og
   have e19:vi (IntKind.i64.wrap (IntKind.i64.wrap ((IntKind.u64.wrap (IntKind.i64.wrap ((a:Int)+(b:Int)))).fdiv (2 ^ min (Int.toNat 1) IntKind.u64.bits))+(m:Int)))=av (mid+m):=by rw[Og,wn]
   have e22:vi (IntKind.i64.wrap (IntKind.i64.wrap (IntKind.i64.wrap ((IntKind.u64.wrap (IntKind.i64.wrap ((a:Int)+(b:Int)))).fdiv (2 ^ min (Int.toNat 1) IntKind.u64.bits))+(m:Int)) - 1))=av (mid+m - 1):=by
    rw[Og,wn,wrap64 (n:=((mid+m:Nat):Int) - 1) abV abV]
    exact congrArg vi abV
   have e20:b≤mid+m→vi (IntKind.i64.wrap (IntKind.i64.wrap (IntKind.i64.wrap ((IntKind.u64.wrap (IntKind.i64.wrap ((a:Int)+(b:Int)))).fdiv (2 ^ min (Int.toNat 1) IntKind.u64.bits))+(m:Int)) - (b:Int)))=av (mid+m - b):=fun h=>by
    rw[Og,wn,wnb]
    exact congrArg vi abV
   rw[Og] at hc
  ·have hle:b≤mid+m:=abV
   have e20:=e20 hle
   exact oX.mk (mid+m - b,mid) ⟨om,om,om,om,om⟩ (by(refine⟨?_,?_⟩ <;>repeat' (first| exact True.intro| refine And.intro (e18) ?_| refine And.intro (e19) ?_| refine And.intro (e22) ?_| refine And.intro (e20) ?_| refine ai ?_| refine And.intro ?_ ?_)))
  ·exact oX.mk (a,m) ⟨om,om,om,om,om⟩ (by(refine⟨?_,?_⟩ <;>repeat' (first| exact True.intro| refine And.intro (e18) ?_| refine And.intro (e19) ?_| refine And.intro (e22) ?_| refine ai ?_| refine And.intro ?_ ?_)))
 rintro⟨s0,r0⟩ ⟨p1,p2,p3,p4,p5⟩
 dsimp only at p1 p2 p3 p4 p5
 refine WS.cut 1 (fun s:Nat=> ⟨[(0,.sl 0 0 0 l.length),(1,av a),(2,av m),(3,av b),(4,.fn f []),(18,av mid),(19,av (mid+m)),(20,av s)],[(0,⟨0,5,true,false,some (l.map Event.v)⟩)]⟩)
   (fun s=>a≤s∧mid+m≤b+s∧s≤m∧s≤mid) ?_ ?_
 ·conv=>whnf
  repeat' (first| intro g| refine st ?_| refine br ?_ ?_<;>intro hc| rfl) <;>conv=>whnf
  refine aL.by (fun ((s,r):Nat×Nat)=> ⟨[(0,.sl 0 0 0 l.length),(1,av a),(2,av m),(3,av b),(4,.fn f []),(18,av mid),(19,av (mid+m)),(20,av s),(21,av r),(22,av (mid+m - 1))],[(0,⟨0,5,true,false,some (l.map Event.v)⟩)]⟩)
   (fun p=>a≤p.1∧mid+m≤b+p.1∧p.1≤p.2∧p.2≤m∧p.2≤mid) (fun p=>p.2 - p.1) (s0,r0) su ⟨p1,p2,p3,p4,p5⟩ ?_
  clear p1 p2 p3 p4 p5
  rintro⟨s,r⟩ ⟨h1,h2,h3,h4,h5⟩
  dsimp only at h1 h2 h3 h4 h5
  by_cases bl:s<r
  ·obtain⟨x,hx⟩: ∃x,l[(s+r) / 2]? =some x:=⟨_,aH abV⟩
   obtain⟨y,hy⟩: ∃x,l[mid+m - 1 - (s+r) / 2]? =some x:=⟨_,aH abV⟩
   have hw:=zy (i:=s) (j:=r) abV
   have hs:IntKind.i64.wrap (IntKind.i64.wrap ((IntKind.u64.wrap (IntKind.i64.wrap ((s:Int)+(r:Int)))).fdiv (2 ^ min (Int.toNat 1) IntKind.u64.bits))+1)=(((s+r) / 2+1:Nat):Int):=by
    rw[hw];exact wt
   have hp:IntKind.i64.wrap (((mid+m - 1:Nat):Int) - IntKind.i64.wrap ((IntKind.u64.wrap (IntKind.i64.wrap ((s:Int)+(r:Int)))).fdiv (2 ^ min (Int.toNat 1) IntKind.u64.bits)))=((mid+m - 1 - (s+r) / 2:Nat):Int):=by
    rw[hw];exact wt
   have n1:0≤IntKind.i64.wrap ((IntKind.u64.wrap (IntKind.i64.wrap ((s:Int)+(r:Int)))).fdiv (2 ^ min (Int.toNat 1) IntKind.u64.bits))∧IntKind.i64.wrap ((IntKind.u64.wrap (IntKind.i64.wrap ((s:Int)+(r:Int)))).fdiv (2 ^ min (Int.toNat 1) IntKind.u64.bits)) < (l.length:Int):=by rw[hw];omega
   have n2:0≤IntKind.i64.wrap (((mid+m - 1:Nat):Int) - IntKind.i64.wrap ((IntKind.u64.wrap (IntKind.i64.wrap ((s:Int)+(r:Int)))).fdiv (2 ^ min (Int.toNat 1) IntKind.u64.bits)))∧IntKind.i64.wrap (((mid+m - 1:Nat):Int) - IntKind.i64.wrap ((IntKind.u64.wrap (IntKind.i64.wrap ((s:Int)+(r:Int)))).fdiv (2 ^ min (Int.toNat 1) IntKind.u64.bits))) < (l.length:Int):=by rw[hp];omega
   conv=>whnf
   repeat' (first| first| refine fN.mk ⟨n1.1,n1.2,rfl,rfl⟩ ?_| refine fN.mk ⟨n2.1,n2.2,rfl,rfl⟩ ?_| intro g| refine bZ.mk _ (aq hy hp) ?_| refine bZ.mk _ (aq hx hw) ?_| refine sf (mQ _ _) ?_| refine st ?_| refine br ?_ ?_<;>intro hc| rfl) <;>conv=>whnf
   ·exact aK.mk ((s+r) / 2+1,r) om ⟨om,om,om,h4,h5⟩ (by(refine⟨?_,?_⟩ <;>repeat' (first| exact True.intro| refine And.intro (congrArg vi hs) ?_| refine ai ?_| refine And.intro ?_ ?_)))
   ·exact aK.mk (s,(s+r) / 2) om ⟨h1,h2,om,om,om⟩ (by(refine⟨?_,?_⟩ <;>repeat' (first| exact True.intro| refine And.intro (congrArg vi hw) ?_| refine ai ?_| refine And.intro ?_ ?_)))
  obtain rfl:s=r:=abV
  conv=>whnf
  repeat' (first| intro g| refine st ?_| refine br ?_ ?_<;>intro hc| rfl) <;>conv=>whnf
  exact oX.mk s ⟨h1,h2,h4,h5⟩ su
 clear p1 p2 p3 p4 p5
 rintro s ⟨h1,h2,h4,h5⟩
 have we:IntKind.i64.wrap (((mid+m:Nat):Int) - (s:Int))=((mid+m - s:Nat):Int):=wt
 refine WS.of ?_
 by_cases hA:s<m∧s<mid
 ·by_cases hB:a<s∧s<mid
  ·by_cases hC:s<m∧mid+m<b+s
   ·obtain⟨l1,k1,c1⟩:=zx (l:=l) hlen (a:=s) (m:=m) (b:=mid+m - s) (f:=f) abV abV abV
    rw[ju we] at c1
    obtain⟨l2,k2,c2⟩:=ih l1 a s mid abV abV abV abV abV
    rw[show l1.length=l.length from by omega] at c2
    obtain⟨l3,k3,c3⟩:=ih l2 mid (mid+m - s) b abV abV abV abV abV
    rw[show l2.length=l.length from by omega,ju we] at c3
    conv=>whnf
    repeat' (first| ((exfalso;omega)) | intro g| refine nd ⟨rfl,rfl,rfl,by simp;omega,Event.aN _⟩ ?_| refine nd ⟨rfl,rfl,Event.aN _⟩ ?_| apply ca c1| apply ca c2| apply ca c3| refine st ?_| refine br ?_ ?_<;>intro hc| rfl) <;>conv=>whnf
    all_goals exact⟨l3,abV,rfl⟩
   ·obtain⟨l1,k1,c1⟩:=zx (l:=l) hlen (a:=s) (m:=m) (b:=mid+m - s) (f:=f) abV abV abV
    rw[ju we] at c1
    obtain⟨l2,k2,c2⟩:=ih l1 a s mid abV abV abV abV abV
    rw[show l1.length=l.length from by omega] at c2
    conv=>whnf
    repeat' (first| ((exfalso;omega)) | intro g| refine nd ⟨rfl,rfl,rfl,by simp;omega,Event.aN _⟩ ?_| refine nd ⟨rfl,rfl,Event.aN _⟩ ?_| apply ca c1| apply ca c2| refine st ?_| refine br ?_ ?_<;>intro hc| rfl) <;>conv=>whnf
    all_goals exact⟨l2,abV,rfl⟩
  ·by_cases hC:s<m∧mid+m<b+s
   ·obtain⟨l1,k1,c1⟩:=zx (l:=l) hlen (a:=s) (m:=m) (b:=mid+m - s) (f:=f) abV abV abV
    rw[ju we] at c1
    obtain⟨l3,k3,c3⟩:=ih l1 mid (mid+m - s) b abV abV abV abV abV
    rw[show l1.length=l.length from by omega,ju we] at c3
    conv=>whnf
    repeat' (first| ((exfalso;omega)) | intro g| refine nd ⟨rfl,rfl,rfl,by simp;omega,Event.aN _⟩ ?_| refine nd ⟨rfl,rfl,Event.aN _⟩ ?_| apply ca c1| apply ca c3| refine st ?_| refine br ?_ ?_<;>intro hc| rfl) <;>conv=>whnf
    all_goals exact⟨l3,abV,rfl⟩
   ·obtain⟨l1,k1,c1⟩:=zx (l:=l) hlen (a:=s) (m:=m) (b:=mid+m - s) (f:=f) abV abV abV
    rw[ju we] at c1
    conv=>whnf
    repeat' (first| ((exfalso;omega)) | intro g| refine nd ⟨rfl,rfl,rfl,by simp;omega,Event.aN _⟩ ?_| refine nd ⟨rfl,rfl,Event.aN _⟩ ?_| apply ca c1| refine st ?_| refine br ?_ ?_<;>intro hc| rfl) <;>conv=>whnf
    all_goals exact⟨l1,abV,rfl⟩
 ·by_cases hB:a<s∧s<mid
  ·by_cases hC:s<m∧mid+m<b+s
   ·obtain⟨l2,k2,c2⟩:=ih l a s mid abV abV abV abV abV
    obtain⟨l3,k3,c3⟩:=ih l2 mid (mid+m - s) b abV abV abV abV abV
    rw[show l2.length=l.length from by omega,ju we] at c3
    conv=>whnf
    repeat' (first| ((exfalso;omega)) | intro g| refine nd ⟨rfl,rfl,rfl,by simp;omega,Event.aN _⟩ ?_| refine nd ⟨rfl,rfl,Event.aN _⟩ ?_| apply ca c2| apply ca c3| refine st ?_| refine br ?_ ?_<;>intro hc| rfl) <;>conv=>whnf
    all_goals exact⟨l3,abV,rfl⟩
   ·obtain⟨l2,k2,c2⟩:=ih l a s mid abV abV abV abV abV
    conv=>whnf
    repeat' (first| ((exfalso;omega)) | intro g| refine nd ⟨rfl,rfl,rfl,by simp;omega,Event.aN _⟩ ?_| refine nd ⟨rfl,rfl,Event.aN _⟩ ?_| apply ca c2| refine st ?_| refine br ?_ ?_<;>intro hc| rfl) <;>conv=>whnf
    all_goals exact⟨l2,abV,rfl⟩
  ·by_cases hC:s<m∧mid+m<b+s
   ·obtain⟨l3,k3,c3⟩:=ih l mid (mid+m - s) b abV abV abV abV abV
    rw[ju we] at c3
    conv=>whnf
    repeat' (first| ((exfalso;omega)) | intro g| refine nd ⟨rfl,rfl,rfl,by simp;omega,Event.aN _⟩ ?_| refine nd ⟨rfl,rfl,Event.aN _⟩ ?_| apply ca c3| refine st ?_| refine br ?_ ?_<;>intro hc| rfl) <;>conv=>whnf
    all_goals exact⟨l3,abV,rfl⟩
   ·conv=>whnf
    repeat' (first| ((exfalso;omega)) | intro g| refine nd ⟨rfl,rfl,rfl,by simp;omega,Event.aN _⟩ ?_| refine nd ⟨rfl,rfl,Event.aN _⟩ ?_| refine st ?_| refine br ?_ ?_<;>intro hc| rfl) <;>conv=>whnf
    all_goals exact⟨l,abV,rfl⟩
end
end Go.AM
namespace Go.AM
section
variable {c:Event→Event→Int} {f:Nat} (hm:bz E f=[]) (mQ: ∀a b:Event,Ev E f [a.v,b.v] ⟨vi (c a b),[]⟩)
include hm mQ
theorem KE: ∀ (N:Nat) {l:List Event} {a m b:Nat},b - a≤N→l.length< 1000000→a<m→m<b→b≤l.length→HJ f l a m b
 | 0,l,a,m,b,hN,_,h1,h2,_=>abV
 | N+1,l,a,m,b,hN,hl,h1,h2,h3=>by
   by_cases e1:m=a+1
   ·exact ag9 hm mQ hl e1 h2 h3
   by_cases e2:b=m+1
   ·exact aha hm mQ hl abV e2 h3
   ·exact ahb hm mQ hl abV abV h3 fun L x y z hL bl k1 k2 k3=>KE N abV abV k1 k2 k3
theorem Oi {l:List Event} (hlen:l.length< 1000000): ∃l':List Event,l'.length=l.length∧Ev E 682 [.msl 5 (l.map Event.v) 0 l.length,av l.length,.fn f []] ⟨.tuple [],[(0,l'.map Event.v)]⟩:=by
 have key:=Ev.Qt (R:=fun r=> ∃l':List Event,l'.length=l.length∧r=⟨.tuple [],[(0,l'.map Event.v)]⟩) ab3 (ab4 [.msl 5 (l.map Event.v) 0 l.length,av l.length,.fn f []]) rfl ?_
 ·obtain⟨res,h1,l',h2,rfl⟩:=key
  exact⟨l',h2,h1⟩
 refine WS.cut 4 (fun L:List Event=> ⟨[(0,.sl 0 0 0 l.length),(1,av l.length),(2,.fn f []),(6,av 20)],[(0,⟨0,5,true,false,some (L.map Event.v)⟩)]⟩) (fun L=>L.length=l.length) ?_ ?_
 ·conv=>whnf
  repeat' (first| intro g| refine st ?_| refine br ?_ ?_<;>intro hc| rfl) <;>conv=>whnf
  refine aL.by (fun ((a,L):Nat×List Event)=> ⟨[(0,.sl 0 0 0 l.length),(1,av l.length),(2,.fn f []),(6,av 20),(7,av a),(8,av (a+20))],[(0,⟨0,5,true,false,some (L.map Event.v)⟩)]⟩)
   (fun p=>p.1≤l.length∧p.2.length=l.length) (fun p=>l.length - p.1) (0,l) su ⟨abW,rfl⟩ ?_
  rintro⟨a,L⟩ ⟨ha,hL⟩
  dsimp only at ha hL
  by_cases bl:a+20≤l.length
  ·obtain⟨l1,k1,_,c1⟩:=vk hm mQ (l0:=L) abV (a:=a) (b:=a+20) abV abV
   rw[hL] at c1
   have ws:IntKind.i64.wrap (((a+20:Nat):Int)+20)=((a+20+20:Nat):Int):=wt
   conv=>whnf
   repeat' (first| ((exfalso;omega)) | intro g| refine nd ⟨rfl,rfl,rfl,by simp;omega,Event.aN _⟩ ?_| refine nd ⟨rfl,rfl,Event.aN _⟩ ?_| apply ca c1| refine st ?_| refine br ?_ ?_<;>intro hc| rfl) <;>conv=>whnf
   exact aK.mk (a+20,l1) om ⟨bl,om⟩ (by(refine⟨?_,?_⟩ <;>repeat' (first| exact True.intro| refine And.intro (congrArg vi ws) ?_| refine ai ?_| refine And.intro ?_ ?_)))
  ·obtain⟨l1,k1,_,c1⟩:=vk hm mQ (l0:=L) abV (a:=a) (b:=l.length) abV abV
   rw[hL] at c1
   conv=>whnf
   repeat' (first| ((exfalso;omega)) | intro g| refine nd ⟨rfl,rfl,rfl,by simp;omega,Event.aN _⟩ ?_| refine nd ⟨rfl,rfl,Event.aN _⟩ ?_| apply ca c1| refine st ?_| refine br ?_ ?_<;>intro hc| rfl) <;>conv=>whnf
   exact oX.mk l1 abV su
 intro L0 hL0
 refine WS.of ?_
 conv=>whnf
 repeat' (first| intro g| refine st ?_| refine br ?_ ?_<;>intro hc| rfl) <;>conv=>whnf
 refine aL.by (fun ((bs,L):Nat×List Event)=> ⟨[(0,.sl 0 0 0 l.length),(1,av l.length),(2,.fn f []),(6,av bs)],[(0,⟨0,5,true,false,some (L.map Event.v)⟩)]⟩)
  (fun p=>0 <p.1∧p.1≤2000000∧p.2.length=l.length) (fun p=>l.length - p.1) (20,L0) su ⟨om,om,hL0⟩ ?_
 clear hL0 L0
 rintro⟨bs,L⟩ ⟨h0,h1,hL⟩
 dsimp only at h0 h1 hL
 by_cases bl:bs<l.length
 case neg=>
  conv=>whnf
  repeat' (first| intro g| refine st ?_| refine br ?_ ?_<;>intro hc| rfl) <;>conv=>whnf
  all_goals exact⟨L,hL,rfl⟩
 have w2:IntKind.i64.wrap (2*(bs:Int))=((bs+bs:Nat):Int):=wt
 have w2':IntKind.i64.wrap ((bs:Int)*2)=((bs+bs:Nat):Int):=wt
 conv=>whnf
 repeat' (first| intro g| refine st ?_| refine br ?_ ?_<;>intro hc| rfl) <;>conv=>whnf
 refine aL.by (fun ((a,L):Nat×List Event)=> ⟨[(0,.sl 0 0 0 l.length),(1,av l.length),(2,.fn f []),(6,av bs),(7,av a),(8,av (a+(bs+bs)))],[(0,⟨0,5,true,false,some (L.map Event.v)⟩)]⟩)
  (fun p=>p.1≤l.length∧p.2.length=l.length) (fun p=>l.length - p.1) (0,L) (by(refine⟨?_,?_⟩ <;>repeat' (first| exact True.intro| refine And.intro ((congrArg vi w2).trans (congrArg av (ajF (bs+bs)).symm)) ?_| refine ai ?_| refine And.intro ?_ ?_))) ⟨abW,hL⟩ ?_
 clear hL
 rintro⟨a,L2⟩ ⟨ha,hL⟩
 dsimp only at ha hL
 have wa:IntKind.i64.wrap ((a:Int)+(bs:Int))=((a+bs:Nat):Int):=wt
 by_cases kJ:a+(bs+bs)≤l.length
 ·obtain⟨l1,k1,c1⟩:=KE hm mQ (bs+bs) (l:=L2) (a:=a) (m:=a+bs) (b:=a+(bs+bs)) abV abV abV abV abV
  rw[hL,ju wa] at c1
  have wb:IntKind.i64.wrap (((a+(bs+bs):Nat):Int)+IntKind.i64.wrap (2*(bs:Int)))=((a+(bs+bs)+(bs+bs):Nat):Int):=by
   rw[w2];exact wt
  conv=>whnf
  repeat' (first| ((exfalso;omega)) | intro g| refine nd ⟨rfl,rfl,rfl,by simp;omega,Event.aN _⟩ ?_| refine nd ⟨rfl,rfl,Event.aN _⟩ ?_| apply ca c1| refine st ?_| refine br ?_ ?_<;>intro hc| rfl) <;>conv=>whnf
  exact aK.mk (a+(bs+bs),l1) om ⟨kJ,om⟩ (by(refine⟨?_,?_⟩ <;>repeat' (first| exact True.intro| refine And.intro (congrArg vi wb) ?_| refine ai ?_| refine And.intro ?_ ?_)))
 ·by_cases PM:a+bs<l.length
  ·obtain⟨l1,k1,c1⟩:=KE hm mQ (l.length - a) (l:=L2) (a:=a) (m:=a+bs) (b:=l.length) abV abV abV abV abV
   rw[hL,ju wa] at c1
   conv=>whnf
   repeat' (first| ((exfalso;omega)) | intro g| refine nd ⟨rfl,rfl,rfl,by simp;omega,Event.aN _⟩ ?_| refine nd ⟨rfl,rfl,Event.aN _⟩ ?_| apply ca c1| refine st ?_| refine br ?_ ?_<;>intro hc| rfl) <;>conv=>whnf
   exact aK.mk (bs+bs,l1) om ⟨om,om,om⟩ (by(refine⟨?_,?_⟩ <;>repeat' (first| exact True.intro| refine And.intro (congrArg vi w2') ?_| refine ai ?_| refine And.intro ?_ ?_)))
  ·conv=>whnf
   repeat' (first| ((exfalso;omega)) | intro g| refine st ?_| refine br ?_ ?_<;>intro hc| rfl) <;>conv=>whnf
   exact aK.mk (bs+bs,L2) om ⟨om,om,om⟩ (by(refine⟨?_,?_⟩ <;>repeat' (first| exact True.intro| refine And.intro (congrArg vi w2') ?_| refine ai ?_| refine And.intro ?_ ?_)))
theorem CE {l:List Event} (hlen:l.length< 1000000): ∃l':List Event,l'.length=l.length∧Ev E 666 [.msl 5 (l.map Event.v) 0 l.length,.fn f []] ⟨.tuple [],[(0,l'.map Event.v)]⟩:=by
 obtain⟨l',h1,h2⟩:=Oi hm mQ hlen
 refine⟨l',h1,?_⟩
 refine Ev.aD rfl rfl rfl ?_
 conv=>whnf
 repeat' (first| intro g| refine nd ⟨rfl,rfl,rfl,abW,Event.aN _⟩ ?_| refine nd ⟨rfl,rfl,Event.aN _⟩ ?_| apply ca h2| refine st ?_| refine br ?_ ?_<;>intro hc| rfl) <;>conv=>whnf
end
end Go.AM
namespace Go.AM
def kd (s:Ah) (a b c d e:Nat):V:= .agg [.str s,.fn a [],.fn b [],.fn c [],.fn d [],.fn e []]
def VG:V:=kd [100,114,111,112] 672 526 527 524 529
def VH:V:=kd [102,117,115,101] 673 487 489 485 492
def VI:V:=kd [116,104,105,110] 674 675 677 679 681
def VJ:V:=kd [103,97,116,104,101,114] 673 8 12 7 9
def kd0:V:= .agg [.str [],.nilfn,.nilfn,.nilfn,.nilfn,.nilfn]
theorem qE:Ev E 665 [] ⟨.own 6 [VG,VH,VI,VJ],[]⟩:=⟨100,aiQ⟩
theorem Fg (e:Event):Ev E 672 [e.v] ⟨vi e.n,[]⟩:=by
 refine Ev.aD rfl rfl rfl ?_
 exact aiN
theorem rY (e:Event):Ev E 673 [e.v] ⟨vi e.other,[]⟩:=by
 refine Ev.aD rfl rfl rfl ?_
 exact aiN
theorem Fh (e:Event):Ev E 674 [e.v] ⟨vi 0,[]⟩:=by
 refine Ev.aD rfl rfl rfl ?_
 exact aiN
theorem rZ (k t a b:Int): ∃e:Event,Ev E 668 [vi k,vi t,vi a,vi b] ⟨e.v,[]⟩:=by
 refine a8 (g:=Event.v) (Ev.bD rfl rfl rfl ?_)
 conv=>whnf
 repeat' (first| intro g| refine st ?_| refine br ?_ ?_<;>intro hc| rfl) <;>conv=>whnf
 all_goals first| exact⟨⟨k,t,a,0,b⟩,rfl⟩ | exact⟨⟨k,t,a,b,0⟩,rfl⟩ | exact⟨⟨k,t,a,0,0⟩,rfl⟩
theorem Oj {m:aI} (h:m.Bd) (a b:Int): ∃c:Int,Ev E 675 [m.v,vi a,vi b] ⟨vi c,[]⟩:=by
 obtain⟨c,h1⟩:=Hf h a
 refine a8 (g:=vi) (Ev.bD rfl rfl rfl ?_)
 conv=>whnf
 repeat' (first| intro g| apply ca h1| refine st ?_| refine br ?_ ?_<;>intro hc| rfl) <;>conv=>whnf
 exact⟨_,rfl⟩
theorem KF {m:aI} (h:m.Bd) (a b:Int): ∃c:Int,Ev E 677 [m.v,vi a,vi b] ⟨vi c,[]⟩:=by
 obtain⟨c,h1⟩:=Dv h a
 refine a8 (g:=vi) (Ev.bD rfl rfl rfl ?_)
 conv=>whnf
 repeat' (first| intro g| apply ca h1| refine st ?_| refine br ?_ ?_<;>intro hc| rfl) <;>conv=>whnf
 exact⟨_,rfl⟩
theorem HK {m:aI} (h:m.Bd) (a b:Int):vp 679 [m.v,vi a,vi b]:=by
 obtain⟨v,M,c,h1,h2,h3⟩:=Kg h a
 have hm:bz E 680=[]:=rfl
 have hp:V.al [m.v,vi a]=true:=rfl
 refine .mk (Ev.bD rfl rfl rfl ?_)
 conv=>whnf
 repeat' (first| refine kB hm hp h1 h2 ?_| intro g| refine st ?_| refine br ?_ ?_<;>intro hc| rfl) <;>conv=>whnf
 exact⟨_,M,c,rfl,fun _ _=>rfl,h3⟩
theorem Zk {e:Event} (h:e.kind< 1∨4 <e.kind):Ev E 659 [e.v] ⟨.tuple [kd0,.bool false],[]⟩:=by
 refine Ev.aD rfl rfl rfl ?_
 exact dr1
theorem acQ {e:Event} (h:e.kind=1): ∃b:Bool,Ev E 659 [e.v] ⟨.tuple [VG,.bool b],[]⟩:=by
 obtain⟨e',h1⟩:=rZ e.kind e.at_ e.id e.n
 have h2:=Fg e
 have wk:IntKind.i64.wrap (e.kind - 1)=0:=by rw[h];rfl
 have nk:0≤IntKind.i64.wrap (e.kind - 1):=by rw[wk];decide
 have hk: [VG,VH,VI,VJ][(IntKind.i64.wrap (e.kind - 1)).toNat]? =some VG:=by rw[wk];rfl
 refine a8 (g:=fun b:Bool=> .tuple [VG,.bool b]) (Ev.bD rfl rfl rfl ?_)
 conv=>whnf
 repeat' (first| ((exfalso;omega)) | intro g| refine wi hk ?_| apply ca qE| apply ca h2| apply ca h1| refine st ?_| refine br ?_ ?_<;>intro hc| rfl) <;>conv=>whnf
 exact⟨_,rfl⟩
theorem acR {e:Event} (h:e.kind=2): ∃b:Bool,Ev E 659 [e.v] ⟨.tuple [VH,.bool b],[]⟩:=by
 obtain⟨e',h1⟩:=rZ e.kind e.at_ e.id e.other
 have h2:=rY e
 have wk:IntKind.i64.wrap (e.kind - 1)=1:=by rw[h];rfl
 have nk:0≤IntKind.i64.wrap (e.kind - 1):=by rw[wk];decide
 have hk: [VG,VH,VI,VJ][(IntKind.i64.wrap (e.kind - 1)).toNat]? =some VH:=by rw[wk];rfl
 refine a8 (g:=fun b:Bool=> .tuple [VH,.bool b]) (Ev.bD rfl rfl rfl ?_)
 conv=>whnf
 repeat' (first| ((exfalso;omega)) | intro g| refine wi hk ?_| apply ca qE| apply ca h2| apply ca h1| refine st ?_| refine br ?_ ?_<;>intro hc| rfl) <;>conv=>whnf
 exact⟨_,rfl⟩
theorem acS {e:Event} (h:e.kind=3): ∃b:Bool,Ev E 659 [e.v] ⟨.tuple [VI,.bool b],[]⟩:=by
 obtain⟨e',h1⟩:=rZ e.kind e.at_ e.id 0
 have h2:=Fh e
 have wk:IntKind.i64.wrap (e.kind - 1)=2:=by rw[h];rfl
 have nk:0≤IntKind.i64.wrap (e.kind - 1):=by rw[wk];decide
 have hk: [VG,VH,VI,VJ][(IntKind.i64.wrap (e.kind - 1)).toNat]? =some VI:=by rw[wk];rfl
 refine a8 (g:=fun b:Bool=> .tuple [VI,.bool b]) (Ev.bD rfl rfl rfl ?_)
 conv=>whnf
 repeat' (first| ((exfalso;omega)) | intro g| refine wi hk ?_| apply ca qE| apply ca h2| apply ca h1| refine st ?_| refine br ?_ ?_<;>intro hc| rfl) <;>conv=>whnf
 exact⟨_,rfl⟩
theorem acT {e:Event} (h:e.kind=4): ∃b:Bool,Ev E 659 [e.v] ⟨.tuple [VJ,.bool b],[]⟩:=by
 obtain⟨e',h1⟩:=rZ e.kind e.at_ e.id e.other
 have h2:=rY e
 have wk:IntKind.i64.wrap (e.kind - 1)=3:=by rw[h];rfl
 have nk:0≤IntKind.i64.wrap (e.kind - 1):=by rw[wk];decide
 have hk: [VG,VH,VI,VJ][(IntKind.i64.wrap (e.kind - 1)).toNat]? =some VJ:=by rw[wk];rfl
 refine a8 (g:=fun b:Bool=> .tuple [VJ,.bool b]) (Ev.bD rfl rfl rfl ?_)
 conv=>whnf
 repeat' (first| ((exfalso;omega)) | intro g| refine wi hk ?_| apply ca qE| apply ca h2| apply ca h1| refine st ?_| refine br ?_ ?_<;>intro hc| rfl) <;>conv=>whnf
 exact⟨_,rfl⟩
end Go.AM
namespace Go.AM
theorem HL (m:aI) {e:Event} (h:e.kind< 1∨4 <e.kind):Ev E 658 [m.v,e.v] ⟨vi 20,[]⟩:=by
 have h1:=Zk h
 refine Ev.aD rfl rfl rfl ?_
 exact aiN
theorem Zl {m:aI} (h:m.Bd) {e:Event} (hk:e.kind=1): ∃c:Int,Ev E 658 [m.v,e.v] ⟨vi c,[]⟩:=by
 obtain⟨b,h1⟩:=acQ hk
 have h2:=Fg e
 obtain⟨c,iF⟩:=Dr.Mn h.fit e.id e.n
 obtain⟨x,hx⟩:=Dr.Hx h.fit e.id e.n
 refine a8 (g:=vi) (Ev.bD rfl rfl rfl ?_)
 cases b
 ·conv=>whnf
  repeat' (first| contradiction| intro g| apply ca h1| apply ca h2| apply ca iF| apply ca hx| refine st ?_| refine br ?_ ?_<;>intro hc| rfl) <;>conv=>whnf
  all_goals exact⟨_,rfl⟩
 ·conv=>whnf
  repeat' (first| contradiction| intro g| apply ca h1| apply ca h2| apply ca iF| apply ca hx| refine st ?_| refine br ?_ ?_<;>intro hc| rfl) <;>conv=>whnf
  all_goals exact⟨_,rfl⟩
theorem Zm {m:aI} (h:m.Bd) {e:Event} (hk:e.kind=2): ∃c:Int,Ev E 658 [m.v,e.v] ⟨vi c,[]⟩:=by
 obtain⟨b,h1⟩:=acR hk
 have h2:=rY e
 have iF:=Vv h.small e.id e.other
 obtain⟨c,VK⟩: ∃x,tM m e.id e.other=x:=⟨_,rfl⟩
 rw[VK] at iF
 have hx:=RY h.small e.id e.other
 generalize DJ m e.id=x at hx
 refine a8 (g:=vi) (Ev.bD rfl rfl rfl ?_)
 cases b
 ·conv=>whnf
  repeat' (first| contradiction| intro g| apply ca h1| apply ca h2| apply ca iF| apply ca hx| refine st ?_| refine br ?_ ?_<;>intro hc| rfl) <;>conv=>whnf
  all_goals exact⟨_,rfl⟩
 ·conv=>whnf
  repeat' (first| contradiction| intro g| apply ca h1| apply ca h2| apply ca iF| apply ca hx| refine st ?_| refine br ?_ ?_<;>intro hc| rfl) <;>conv=>whnf
  all_goals exact⟨_,rfl⟩
theorem Zn {m:aI} (h:m.Bd) {e:Event} (hk:e.kind=3): ∃c:Int,Ev E 658 [m.v,e.v] ⟨vi c,[]⟩:=by
 obtain⟨b,h1⟩:=acS hk
 have h2:=Fh e
 obtain⟨c,iF⟩:=Oj h e.id 0
 obtain⟨x,hx⟩:=KF h e.id 0
 refine a8 (g:=vi) (Ev.bD rfl rfl rfl ?_)
 cases b
 ·conv=>whnf
  repeat' (first| contradiction| intro g| apply ca h1| apply ca h2| apply ca iF| apply ca hx| refine st ?_| refine br ?_ ?_<;>intro hc| rfl) <;>conv=>whnf
  all_goals exact⟨_,rfl⟩
 ·conv=>whnf
  repeat' (first| contradiction| intro g| apply ca h1| apply ca h2| apply ca iF| apply ca hx| refine st ?_| refine br ?_ ?_<;>intro hc| rfl) <;>conv=>whnf
  all_goals exact⟨_,rfl⟩
theorem Zo {m:aI} (h:m.Bd) {e:Event} (hk:e.kind=4): ∃c:Int,Ev E 658 [m.v,e.v] ⟨vi c,[]⟩:=by
 obtain⟨b,h1⟩:=acT hk
 have h2:=rY e
 have xf:m.az.length< 1000000:=by have:=h.p;omega
 have iF:=JT xf e.id e.other
 generalize qj m.az e.id e.other=c at iF
 have hx:=zp xf e.id e.other
 generalize mZ m.az e.id e.other=x at hx
 refine a8 (g:=vi) (Ev.bD rfl rfl rfl ?_)
 cases b
 ·conv=>whnf
  repeat' (first| contradiction| intro g| apply ca h1| apply ca h2| apply ca iF| apply ca hx| refine st ?_| refine br ?_ ?_<;>intro hc| rfl) <;>conv=>whnf
  all_goals exact⟨_,rfl⟩
 ·conv=>whnf
  repeat' (first| contradiction| intro g| apply ca h1| apply ca h2| apply ca iF| apply ca hx| refine st ?_| refine br ?_ ?_<;>intro hc| rfl) <;>conv=>whnf
  all_goals exact⟨_,rfl⟩
theorem R9 {m:aI} (h:m.Bd) (e:Event): ∃c:Int,Ev E 658 [m.v,e.v] ⟨vi c,[]⟩:=by
 by_cases hb:e.kind< 1∨4 <e.kind
 ·exact⟨20,HL m hb⟩
 rcases(by omega:e.kind=1∨e.kind=2∨e.kind=3∨e.kind=4) with hk| hk| hk| hk
 ·exact Zl h hk
 ·exact Zm h hk
 ·exact Zn h hk
 ·exact Zo h hk
def ng (f:Nat) (args:List V):Prop:= ∃ (M:aI) (c:Int),Ev E f args ⟨.tuple [M.v,vi c],[]⟩∧M.Bd
theorem ng.mk {f:Nat} {args:List V} (h: ∃res,Ev E f args res∧ ∃ (M:aI) (c:Int),res=⟨.tuple [M.v,vi c],[]⟩∧M.Bd):ng f args:=by
 obtain⟨_,h1,M,c,rfl,h3⟩:=h
 exact⟨M,c,h1,h3⟩
theorem AU {m:aI} {e:Event} {c:Int} (hz: ¬c=0) (iF:Ev E 658 [m.v,e.v] ⟨vi c,[]⟩):ng 645 [m.v,e.v]:=by
 refine .mk (Ev.bD rfl rfl rfl ?_)
 conv=>whnf
 repeat' (first| contradiction| intro g| apply ca iF| refine st ?_| refine br ?_ ?_<;>intro hc| rfl) <;>conv=>whnf
 exact⟨aI.zero,c,rfl,vn⟩
theorem Sa {m:aI} (h:m.Bd) {e:Event} (hk:e.kind=1) (iF:Ev E 658 [m.v,e.v] ⟨vi 0,[]⟩):ng 645 [m.v,e.v]:=by
 obtain⟨b,h1⟩:=acQ hk
 have h2:=Fg e
 obtain⟨v,M,c,h3,h4,h5⟩:=KB h e.id e.n
 have hm:bz E 524=[]:=rfl
 have hp:V.al [m.v,vi e.id,vi e.n]=true:=rfl
 refine .mk (Ev.bD rfl rfl rfl ?_)
 conv=>whnf
 repeat' (first| refine kB hm hp h3 h4 ?_| intro g| apply ca iF| apply ca h1| apply ca h2| refine st ?_| refine br ?_ ?_<;>intro hc| rfl) <;>conv=>whnf
 exact⟨M,c,rfl,h5⟩
theorem Sb {m:aI} (h:m.Bd) {e:Event} (hk:e.kind=2) (iF:Ev E 658 [m.v,e.v] ⟨vi 0,[]⟩):ng 645 [m.v,e.v]:=by
 obtain⟨b,h1⟩:=acR hk
 have h2:=rY e
 obtain⟨v,M,c,h3,h4,h5⟩:=KC h e.id e.other
 have hm:bz E 485=[]:=rfl
 have hp:V.al [m.v,vi e.id,vi e.other]=true:=rfl
 refine .mk (Ev.bD rfl rfl rfl ?_)
 conv=>whnf
 repeat' (first| refine kB hm hp h3 h4 ?_| intro g| apply ca iF| apply ca h1| apply ca h2| refine st ?_| refine br ?_ ?_<;>intro hc| rfl) <;>conv=>whnf
 exact⟨M,c,rfl,h5⟩
theorem Sc {m:aI} (h:m.Bd) {e:Event} (hk:e.kind=3) (iF:Ev E 658 [m.v,e.v] ⟨vi 0,[]⟩):ng 645 [m.v,e.v]:=by
 obtain⟨b,h1⟩:=acS hk
 have h2:=Fh e
 obtain⟨v,M,c,h3,h4,h5⟩:=HK h e.id 0
 have hm:bz E 679=[]:=rfl
 have hp:V.al [m.v,vi e.id,vi 0]=true:=rfl
 refine .mk (Ev.bD rfl rfl rfl ?_)
 conv=>whnf
 repeat' (first| refine kB hm hp h3 h4 ?_| intro g| apply ca iF| apply ca h1| apply ca h2| refine st ?_| refine br ?_ ?_<;>intro hc| rfl) <;>conv=>whnf
 exact⟨M,c,rfl,h5⟩
theorem Sd {m:aI} (h:m.Bd) {e:Event} (hk:e.kind=4) (iF:Ev E 658 [m.v,e.v] ⟨vi 0,[]⟩):ng 645 [m.v,e.v]:=by
 obtain⟨b,h1⟩:=acT hk
 have h2:=rY e
 obtain⟨v,M,c,h3,h4,h5⟩:=KD h e.id e.other
 have hm:bz E 7=[]:=rfl
 have hp:V.al [m.v,vi e.id,vi e.other]=true:=rfl
 refine .mk (Ev.bD rfl rfl rfl ?_)
 conv=>whnf
 repeat' (first| refine kB hm hp h3 h4 ?_| intro g| apply ca iF| apply ca h1| apply ca h2| refine st ?_| refine br ?_ ?_<;>intro hc| rfl) <;>conv=>whnf
 exact⟨M,c,rfl,h5⟩
theorem HM {m:aI} (h:m.Bd) (e:Event):ng 645 [m.v,e.v]:=by
 by_cases hb:e.kind< 1∨4 <e.kind
 ·exact AU aiO (HL m hb)
 obtain⟨c,hc⟩:=R9 h e
 by_cases hz:c=0
 case neg=>exact AU hz hc
 subst hz
 rcases(by omega:e.kind=1∨e.kind=2∨e.kind=3∨e.kind=4) with hk| hk| hk| hk
 ·exact Sa h hk hc
 ·exact Sb h hk hc
 ·exact Sc h hk hc
 ·exact Sd h hk hc
theorem Zp (l:List Int) (hl:l.length< 1000000): ∃r:Int,Ev E 22 [.lit 1 (l.map vi)] ⟨vi r,[]⟩:=a8 (g:=vi) (Ev.bD rfl rfl rfl (by
 conv=>whnf
 repeat' (first| intro g| refine st ?_| refine br ?_ ?_<;>intro hc| rfl) <;>conv=>whnf
 refine aL.by (fun i:Nat=> ⟨[(3,vi 0),(6,.lit 1 (l.map vi)),(7,av l.length),(8,av i)],[]⟩) (fun i=>i≤l.length) (fun i=>l.length - i) 0 su abV ?_
 intro i hi
 by_cases bl:i<l.length
 ·obtain⟨x,hx⟩: ∃x,l[i]? =some x:=⟨_,aH bl⟩
  conv=>whnf
  repeat' (first| intro g| refine wi (aq hx rfl) ?_| refine st ?_| refine br ?_ ?_<;>intro hc| rfl) <;>conv=>whnf
  ·exact⟨_,rfl⟩
  ·exact aK.mk (i+1) om abV su
 ·conv=>whnf
  repeat' (first| intro g| refine st ?_| refine br ?_ ?_<;>intro hc| rfl) <;>conv=>whnf
  exact⟨_,rfl⟩))
theorem Se (a b:Event): ∃r:Int,Ev E 667 [a.v,b.v] ⟨vi r,[]⟩:=by
 have h1:=dK a.at_ b.at_
 have h2:=dK a.kind b.kind
 have h3:=dK a.id b.id
 have h4:=dK a.other b.other
 have h5:=dK a.n b.n
 obtain⟨r,h6⟩:=Zp [kM a.at_ b.at_,kM a.kind b.kind,kM a.id b.id,kM a.other b.other,kM a.n b.n] abW
 refine a8 (g:=vi) (Ev.bD rfl rfl rfl ?_)
 conv=>whnf
 repeat' (first| intro g| apply ca h1| apply ca h2| apply ca h3| apply ca h4| apply ca h5| apply ca h6| refine st ?_| refine br ?_ ?_<;>intro hc| rfl) <;>conv=>whnf
 exact⟨_,rfl⟩
theorem Sg {m:aI} (h:m.Bd) (d:Int): ∃l:List Event,l.length≤180∧Ev E 657 [m.v,vi d] ⟨.own 5 (l.map Event.v),[]⟩:=by
 suffices hh: ∃res,Ev E 657 [m.v,vi d] res∧ ∃l:List Event,l.length≤180∧res=⟨.own 5 (l.map Event.v),[]⟩ by
  obtain⟨_,h1,l,h2,rfl⟩:=hh
  exact⟨l,h2,h1⟩
 obtain⟨l1,n1,a1⟩:=R4 h d
 obtain⟨l2,n2,a2⟩:=R7 h d
 obtain⟨l3,n3,a3⟩:=Rh h d
 obtain⟨l4,n4,a4⟩:=R8 h d
 have hw:=h.w
 obtain⟨c,mQ⟩:=sk2 Se
 have hm:bz E 667=[]:=rfl
 refine Ev.bD rfl rfl rfl ?_
 conv=>whnf
 repeat' (first| intro g| apply ca qE| refine st ?_| refine br ?_ ?_<;>intro hc| rfl) <;>conv=>whnf
 rename_i yZ _
 obtain⟨g0,Ck⟩: ∃x,x=g:=⟨_,rfl⟩
 rw[←Ck];clear Ck g
 refine aL.by (fun ((i,l,g):Nat×List Event×Nat)=> ⟨[(1,vi d),(2,.ptr 48 yZ 0 0),(5,.sl 97 g 0 l.length),(8,.lit 6 [VG,VH,VI,VJ]),(9,vi 4),(10,av i)],[(48,⟨yZ,4,false,false,some [m.v]⟩),(97,⟨g,5,true,false,some (l.map Event.v)⟩)]⟩)
  (fun (i,l,_)=>i≤4∧(i=0→l.length≤0)∧(i=1→l.length≤126)∧(i=2→l.length≤162)∧(i=3→l.length≤174)∧(i=4→l.length≤180)) (fun (i,_)=>4 - i) (0,[],g0) su ⟨abW,abW,abW,abW,abW,abW⟩ ?_
 rintro⟨i,l,gl⟩ ⟨hi,q0,q1,q2,q3,q4⟩
 try dsimp only at hi q0 q1 q2 q3 q4
 rcases(by omega:i=0∨i=1∨i=2∨i=3∨i=4) with rfl| rfl| rfl| rfl| rfl
 ·have hl:=q0 rfl
  clear q0 q1 q2 q3 q4
  have e1:V.int .i64 (IntKind.i64.wrap (((0:Nat):Int)+1))=av 1:=rfl
  have Cx:List.map Event.v l++List.map Event.v l1=List.map Event.v (l++l1):=(ajk ..).symm
  conv=>whnf
  repeat' (first| intro g| apply ca a1| refine st ?_| refine br ?_ ?_<;>intro hc| rfl) <;>conv=>whnf
  refine aK.mk (1,l++l1,g) om ?_ (by rw[Cx]; (refine⟨?_,?_⟩ <;>repeat' (first| exact True.intro| refine And.intro (e1) ?_| refine ai ?_| refine And.intro ?_ ?_)))
  simp only[List.length_append]
  omega
 ·have hl:=q1 rfl
  clear q0 q1 q2 q3 q4
  have e1:V.int .i64 (IntKind.i64.wrap (((1:Nat):Int)+1))=av 2:=rfl
  have Cx:List.map Event.v l++List.map Event.v l2=List.map Event.v (l++l2):=(ajk ..).symm
  conv=>whnf
  repeat' (first| intro g| apply ca a2| refine st ?_| refine br ?_ ?_<;>intro hc| rfl) <;>conv=>whnf
  refine aK.mk (2,l++l2,g) om ?_ (by rw[Cx]; (refine⟨?_,?_⟩ <;>repeat' (first| exact True.intro| refine And.intro (e1) ?_| refine ai ?_| refine And.intro ?_ ?_)))
  simp only[List.length_append]
  omega
 ·have hl:=q2 rfl
  clear q0 q1 q2 q3 q4
  have e1:V.int .i64 (IntKind.i64.wrap (((2:Nat):Int)+1))=av 3:=rfl
  have Cx:List.map Event.v l++List.map Event.v l3=List.map Event.v (l++l3):=(ajk ..).symm
  conv=>whnf
  repeat' (first| intro g| apply ca a3| refine st ?_| refine br ?_ ?_<;>intro hc| rfl) <;>conv=>whnf
  refine aK.mk (3,l++l3,g) om ?_ (by rw[Cx]; (refine⟨?_,?_⟩ <;>repeat' (first| exact True.intro| refine And.intro (e1) ?_| refine ai ?_| refine And.intro ?_ ?_)))
  simp only[List.length_append]
  omega
 ·have hl:=q3 rfl
  clear q0 q1 q2 q3 q4
  have e1:V.int .i64 (IntKind.i64.wrap (((3:Nat):Int)+1))=av 4:=rfl
  have Cx:List.map Event.v l++List.map Event.v l4=List.map Event.v (l++l4):=(ajk ..).symm
  conv=>whnf
  repeat' (first| intro g| apply ca a4| refine st ?_| refine br ?_ ?_<;>intro hc| rfl) <;>conv=>whnf
  refine aK.mk (4,l++l4,g) om ?_ (by rw[Cx]; (refine⟨?_,?_⟩ <;>repeat' (first| exact True.intro| refine And.intro (e1) ?_| refine ai ?_| refine And.intro ?_ ?_)))
  simp only[List.length_append]
  omega
 ·have hl:=q4 rfl
  clear q0 q1 q2 q3 q4
  obtain⟨l',k1,k2⟩:=CE hm mQ (l:=l) abV
  conv=>whnf
  repeat' (first| intro g| refine nd ⟨rfl,rfl,abW,Event.aN _⟩ ?_| refine nd ⟨rfl,rfl,rfl,abW,Event.aN _⟩ ?_| refine nd ⟨rfl,rfl,Event.aN _⟩ ?_| apply ca k2| refine st ?_| refine br ?_ ?_<;>intro hc| rfl) <;>conv=>whnf
  exact⟨l',abV,rfl⟩
theorem Ol {m:aI} (h:m.Bd) (d b:Int): ∃ (e:Event) (ok:Bool),Ev E 644 [m.v,vi d,vi b] ⟨.tuple [e.v,.bool ok],[]⟩∧(ok=true→1≤e.at_∧e.at_≤1024):=by
 suffices hh: ∃res,Ev E 644 [m.v,vi d,vi b] res∧ ∃ (e:Event) (ok:Bool),(ok=true→1≤e.at_∧e.at_≤1024)∧res=⟨.tuple [e.v,.bool ok],[]⟩ by
  obtain⟨_,h1,e,ok,h2,rfl⟩:=hh
  exact⟨e,ok,h1,h2⟩
 obtain⟨l,hl,h1⟩:=Sg h d
 refine Ev.bD rfl rfl rfl ?_
 by_cases h0:l.length=0
 ·conv=>whnf
  repeat' (first| intro g| apply ca h1| refine st ?_| refine br ?_ ?_<;>intro hc| rfl) <;>conv=>whnf
  exact⟨⟨0,0,0,0,0⟩,false,abW,rfl⟩
 obtain⟨x,hx⟩: ∃x,l[0]? =some x:=⟨_,aH abV⟩
 conv=>whnf
 repeat' (first| ((exfalso;omega)) | intro g| refine wi (aq hx rfl) ?_| apply ca h1| refine st ?_| refine br ?_ ?_<;>intro hc| rfl) <;>conv=>whnf
 ·exact⟨⟨0,0,0,0,0⟩,false,abW,rfl⟩
 ·exact⟨⟨0,0,0,0,0⟩,false,abW,rfl⟩
 ·exact⟨⟨x.kind,if x.at_<IntKind.i64.wrap (b+1) then IntKind.i64.wrap (b+1) else x.at_,x.id,x.other,x.n⟩,true,fun _=> ⟨om,om⟩,rfl⟩
end Go.AM
namespace Go.AM
structure dn where
 bG:Int
 evs:List Event
def dn.v (h:dn):V:= .agg [vi h.bG,.lit 5 (h.evs.map Event.v)]
structure dj where
 id:Int
 x:Int
 y:Int
 r:Int
 text:Ah
 iG:Int
 deriving DecidableEq
def dj.v (l:dj):V:= .agg [vi l.id,vi l.x,vi l.y,vi l.r,.str l.text,vi l.iG]
theorem dn.aN (l:List dn):V.al (l.map dn.v)=true:=AM.aN (fun _=>rfl) l
theorem dj.aN (l:List dj):V.al (l.map dj.v)=true:=AM.aN (fun _=>rfl) l
def Zq (s:Ah):Int:=gC (3+gC (2*(s.length:Int)))
def qF (x y:Int):Bool:=decide (-16384≤x∧x≤16384) &&decide (-16384≤y∧y≤16384)
def tQ (r:Int):Int:=max 0 (min r 1000)
def fp (a b:dj):Int:=tQ a.r+tQ b.r
theorem pf (r:Int):0≤tQ r∧tQ r≤1000:=by unfold tQ;omega
theorem xj (a b:dj):0≤fp a b∧fp a b≤2000:=by
 have:=pf a.r;have:=pf b.r
 unfold fp;omega
theorem AV (a b:dj):fp a b=fp b a:=by unfold fp;omega
def CG (a b:dj):Bool:=qF a.x a.y &&qF b.x b.y
theorem HN (a b:dj):CG a b=CG b a:=by unfold CG;exact Bool.and_comm _ _
def Gk (a b:dj):Int:=(a.x - b.x)*(a.x - b.x)+(a.y - b.y)*(a.y - b.y)
theorem Si (a b:Int): (a - b)*(a - b)=(b - a)*(b - a):=by
 rw[show b - a= -(a - b) by omega,Int.neg_mul_neg]
theorem HO (a b:dj):Gk a b=Gk b a:=by unfold Gk;rw[Si a.x,Si a.y]
theorem Fi {x:Int} (h: -32768≤x) (k:x≤32768):0≤x*x∧x*x≤1073741824:=by
 rcases Int.le_total 0 x with h0| h0
 ·exact⟨ajE h0 h0,aka k k h0 abV⟩
 ·have e:x*x=(-x)*(-x):=(Int.neg_mul_neg x x).symm
  rw[e]
  exact⟨ajE abV abV,aka (c:=32768) (d:=32768) abV abV abV abV⟩
theorem vB {x y:Int} (h:qF x y=true): -16384≤x∧x≤16384∧ -16384≤y∧y≤16384:=by
 simp only[qF,Bool.and_eq_true,decide_eq_true_eq] at h;omega
theorem Fj {a b:dj} (h:CG a b=true):0≤Gk a b∧Gk a b≤2147483648:=by
 simp only[CG,Bool.and_eq_true] at h
 have h1:=vB h.1;have h2:=vB h.2
 have k1:=Fi (x:=a.x - b.x) abV abV
 have k2:=Fi (x:=a.y - b.y) abV abV
 unfold Gk;omega
def nO (sq r:Int):Nat→Nat
 | 0=>0
 | n+1=>if ((n:Int)+1)*((n:Int)+1)*r*r≤sq then n+1 else nO sq r n
theorem Sj {r a b:Int} (h0:0≤a) (h:a≤b):a*a*r*r≤b*b*r*r:=by
 have h1:a*a≤b*b:=fe h0 h
 rw[Int.mul_assoc,Int.mul_assoc (b*b)]
 have h2:0≤r*r:=by
  rcases Int.le_total 0 r with k| k
  ·exact ajE k k
  ·rw[←Int.neg_mul_neg];exact ajE abV abV
 exact Int.mul_le_mul_of_nonneg_right h1 h2
theorem zz {sq r:Int} {z:Nat}: ∀ {n:Nat},z≤n→(z=0∨(z:Int)*z*r*r≤sq)→(z=n∨sq< ((z:Int)+1)*((z:Int)+1)*r*r)→nO sq r n=z
 | 0,h,_,_=>by unfold nO;omega
 | n+1,h,h1,h2=>by
   unfold nO
   by_cases e:z=n+1
   ·subst e
    rcases h1 with h1| h1
    ·omega
    ·rw[if_pos (by simpa using h1)]
   ·rcases h2 with h2| h2
    ·exact absurd h2 e
    ·have:=Sj (r:=r) (a:=(z:Int)+1) (b:=(n:Int)+1) abV abV
     rw[if_neg abV]
     exact zz abV h1 (.inr h2)
theorem Mp {sq r:Int}: ∀n,nO sq r n≤n
 | 0=>by unfold nO;omega
 | n+1=>by
   unfold nO
   split
   ·omega
   ·have:=Mp (sq:=sq) (r:=r) n;omega
theorem Oo {sq r s:Int} (h0:0≤sq) (hr:0 <r) (hs:IsSqrt (sq / (r*r)) s): (if 1024 <s then 1024 else s)=(nO sq r 1024:Int):=by
 obtain⟨k0,k1,k2⟩:=hs
 have sS:0 <r*r:=Int.mul_pos hr hr
 have hle: ∀t:Int,0≤t→t≤s→t*t*r*r≤sq:=fun t t0 ht=>by
  have a1:t*t≤sq / (r*r):=Int.le_trans (fe t0 ht) k1
  rw[Int.mul_assoc]
  exact(Int.le_ediv_iff_mul_le sS).1 a1
 have hgt:sq< (s+1)*(s+1)*r*r:=by
  rw[Int.mul_assoc ((s+1)*(s+1))]
  exact(Int.ediv_lt_iff_lt_mul sS).1 k2
 obtain⟨n,rfl⟩: ∃n:Nat,s=n:=⟨s.toNat,abV⟩
 by_cases h: (1024:Int) <n
 ·rw[if_pos h]
  have:=zz (sq:=sq) (r:=r) (z:=1024) (n:=1024) abV (.inr (hle 1024 abV abV)) (.inl rfl)
  omega
 ·rw[if_neg h]
  have:=zz (sq:=sq) (r:=r) (z:=n) (n:=1024) abV (.inr (hle n abV abV)) (.inr hgt)
  omega
def iQ (a b:dj):Int:=if CG a b then(nO (Gk a b) (fp a b) 1024:Int) else 0
theorem xk (a b:dj):iQ a b=iQ b a:=by unfold iQ;rw[HN,HO,AV]
theorem Sk (a b:dj):0≤iQ a b∧iQ a b≤1024:=by
 unfold iQ
 have:=Mp (sq:=Gk a b) (r:=fp a b) 1024
 split<;>omega
theorem Oq {a b:dj} (h:CG a b=true) (hr:fp a b=0):iQ a b=1024:=by
 unfold iQ
 have h1:=Fj h
 rw[if_pos h,hr,zz (z:=1024) (n:=1024) abV (.inr abV) (.inl rfl)]
 rfl
def HP (id:Int) (e:Event):Bool:=decide (e.id=id) &&decide (2≤e.kind∧e.kind≤4)
def pL (h:dn) (id:Int):Int:=firstIdx (HP id) h.evs
def ev0:Event:=⟨0,0,0,0,0⟩
def gL (h:dn) (id:Int):Int:=
 if pL h id< 0 then 1024 else if pL h id=0 then 0
 else
  let a:=(h.evs.getD ((pL h id).toNat - 1) ev0).at_
  if a< 0∨1024 <a then 0 else a
theorem Ot (h:dn) (id:Int):0≤gL h id∧gL h id≤1024:=by
 unfold gL
 dsimp only
 repeat' split
 all_goals omega
def lG (a b:Int):Int:=if b<a then b else a
def mu (l:List dn) (id:Int):Int:=l.foldl (fun u h=>lG u (gL h id)) 1024
def zc (x y:dj):Int:=if iQ y x<y.iG then iQ y x else 1024
def qG (x:dj) (mw:List dj) (u:Int):Int:=mw.foldl (fun u y=>lG u (zc x y)) u
def jI (p:Place):dj:=⟨p.id,p.x,p.y,Zq p.name,p.name,1024⟩
def yw (l:List dn) (mw:List dj) (p:Place):dj:={jI p with iG:=qG (jI p) mw (mu l p.id)}
def cn (l:List dn) (ps:List Place):List dj:=ps.foldl (fun mw p=>mw++[yw l mw p]) []
theorem Mq {a b:Int} (h:a≤1024):lG a b≤1024:=by unfold lG;split<;>omega
theorem Ou (l:List dn) (id:Int):mu l id≤1024:=by
 unfold mu
 have: ∀ (l:List dn) (u:Int),u≤1024→l.foldl (fun u h=>lG u (gL h id)) u≤1024:=by
  intro l
  induction l with
  | nil=>exact fun u h=>h
  | cons h l ih=>exact fun u hu=>ih _ (Mq hu)
 exact this l 1024 abV
theorem DM (x:dj): ∀ (mw:List dj) (u:Int),u≤1024→qG x mw u≤1024
 | [],u,h=>h
 | y::l,u,h=>DM x l _ (Mq h)
theorem AW (l:List dn) (ps:List Place): ∀y ∈ cn l ps,y.iG≤1024:=by
 unfold cn
 have: ∀ (ps:List Place) (mw:List dj),(∀y ∈ mw,y.iG≤1024)→ ∀y ∈ ps.foldl (fun mw p=>mw++[yw l mw p]) mw,y.iG≤1024:=by
  intro ps
  induction ps with
  | nil=>exact fun _ h=>h
  | cons p ps ih=>
    intro mw h
    refine ih _ fun y hy=> ?_
    rcases ai6.1 hy with hy| hy
    ·exact h y hy
    ·rw[ajC.1 hy]
     exact DM _ _ _ (Ou _ _)
 exact this ps [] abW
section
variable {α:Type} (c:α→α→Bool)
def xl (x:α) (l:List α):List α:=(l.reverse.dropWhile (c x)).reverse++x:: (l.reverse.takeWhile (c x)).reverse
theorem VL {x:α} {pre mid:List α} (h1: ∀y ∈ mid,c x y=true) (h2: ∀y,pre.getLast?=some y→c x y=false):xl c x (pre++mid)=pre++x::mid:=by
 have key: ∀ (m:List α) (p:List α),(∀y ∈ m,c x y=true)→(∀y,p.head?=some y→c x y=false)→(m++p).dropWhile (c x)=p∧(m++p).takeWhile (c x)=m:=by
  intro m
  induction m with
  | nil=>
    intro p _ hp
    cases p with
    | nil=>exact⟨rfl,rfl⟩
    | cons y p=>
      have:=hp y rfl
      simp[List.dropWhile,List.takeWhile,this]
  | cons a m ih=>
    intro p hm hp
    have ha:=hm a abW
    have:=ih p (fun y hy=>hm y (by simp[hy])) hp
    simp[List.dropWhile,List.takeWhile,ha,this]
 unfold xl
 rw[List.reverse_append]
 obtain⟨k1,k2⟩:=key mid.reverse pre.reverse (fun y hy=>h1 y (by simpa using hy)) (fun y hy=>h2 y (by rwa [List.head?_reverse] at hy))
 rw[k1,k2,akK,akK]
theorem Sn (x:α) (l:List α): (xl c x l).length=l.length+1:=by
 unfold xl
 have:=congrArg List.length (List.takeWhile_append_dropWhile (p:=c x) (l:=l.reverse))
 rw[List.length_append,List.length_reverse] at this
 simp only[List.length_append,ai5,List.length_reverse]
 omega
def fq (l:List α):List α:=l.foldl (fun out x=>xl c x out) []
theorem tT (l:List α) (x:α):fq c (l++[x])=xl c x (fq c l):=by unfold fq;rw[List.foldl_append];rfl
theorem eD (l:List α): (fq c l).length=l.length:=by
 have: ∀ (l out:List α),(l.foldl (fun out x=>xl c x out) out).length=out.length+l.length:=by
  intro l
  induction l with
  | nil=>intro out;simp
  | cons x l ih=>intro out;rw[akd,ih,Sn];simp;omega
 simpa [fq] using this l []
end
def fm (a b:Place):Bool:=decide (b.weight<a.weight) || (decide (a.weight=b.weight) &&decide (a.id<b.id))
def named (ps:List Place):List Place:=ps.filter fun p=>decide (p.name≠[])
def bX (ps:List Place):List Place:=fq fm (named ps)
def cY (l:List dj) (Zr:Int):List Int:=(l.filter fun y=>decide (0 <y.iG∧Zr≤y.iG*y.iG)).map dj.id
end Go.AM
