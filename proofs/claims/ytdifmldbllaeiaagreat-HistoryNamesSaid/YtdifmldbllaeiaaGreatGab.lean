/- Texts of the proof. -/
import Derived.Test.YtdifmldbllaeiaaGreatGaa
set_option maxRecDepth 20000
set_option maxHeartbeats 8000000
set_option linter.unusedSimpArgs false
set_option linter.unusedVariables false
namespace Go.AM
section
variable {m:aB} (hlen:m.ar.length< 1000000)
include hlen
theorem Q5 (d:Int): ∃j:List an,j.Perm (rE m.ar d m.ar.length)/\alH 9 [m.v,vi d] (.own 5 (j.map an.v)):=by
 have s:=Mv hlen;have w:=qi hlen;have Q6:=mj hlen;have y:=Bl m.ar d m.ar.length;obtain⟨j,Fz,Q7⟩:=al8 (l:=rE m.ar d m.ar.length) ajk;refine⟨j,Fz,?_⟩;have z:=Fz.length_eq;refine amM ?_;conv=>whnf
 repeat' (first| intro g| refine st ?_| refine br ?_ ?_<;>intro hc| rfl) <;>conv=>whnf
 rename_i n C;refine aO.by (fun ((k,es,g5):Nat×List an×Nat)=> ⟨[(1,vi d),(2,.ptr 48 n 0 0),(5,.sl 97 g5 0 es.length),(14,.lit 7 (m.ar.map aI.v)),(15,au (m.ar.map aI.v).length),(16,au k)],[(48,⟨n,4,false,false,some [m.v]⟩),(97,⟨g5,5,true,false,some (es.map an.v)⟩)]⟩)
  (fun (k,es,_)=>k<=m.ar.length/\es=rE m.ar d k) (fun (k,_)=>m.ar.length - k) (0,[],g) su ⟨ajl,rfl⟩ ?_
 rintro⟨k,es,g5⟩ ⟨hk,bC⟩
 try dsimp only at hk bC
 have uU:=Bl m.ar d k;rw[<-bC] at uU;by_cases A:k<m.ar.length
 .obtain⟨p,Q8⟩: ∃p,m.ar[k]? =some p:=⟨_,aM A⟩;have hs:=Hx m.ar d k;rw[<-bC] at hs;have a:=s p.id;by_cases hd:p.aC=d
  case neg=>
   have he:Fy m.ar d k=none:=by simp[Fy,Q8,hd]
   rw[he] at hs;conv=>whnf
   repeat' (first| intro g| refine wi (aw Q8 rfl) ?_| apply ca a| refine st ?_| refine br ?_ ?_<;>intro hc| rfl) <;>conv=>whnf
   all_goals exact aR.mk (k+1,es,g5) om ⟨om,by simpa using hs.symm⟩ su
  by_cases hf:fq m.ar p.id=k
  case neg=>
   have he:Fy m.ar d k=none:=by simp[Fy,Q8,hf]
   rw[he] at hs;conv=>whnf
   repeat' (first| intro g| refine wi (aw Q8 rfl) ?_| apply ca a| refine st ?_| refine br ?_ ?_<;>intro hc| rfl) <;>conv=>whnf
   all_goals exact aR.mk (k+1,es,g5) om ⟨om,by simpa using hs.symm⟩ su
  rw[hf] at a;conv=>whnf
  repeat' (first| intro g| refine wi (aw Q8 rfl) ?_| apply ca a| refine st ?_| refine br ?_ ?_<;>intro hc| rfl) <;>conv=>whnf
  rename_i t;refine aO.by (fun ((i,cs,g8):Nat×List aI×Nat)=> ⟨[(1,vi d),(2,.ptr 48 n 0 0),(5,.sl 97 g5 0 es.length),(14,.lit 7 (m.ar.map aI.v)),(15,au (m.ar.map aI.v).length),(16,au k),
     (7,.ptr 128 t 0 0),(8,.sl 145 g8 0 cs.length),(34,.lit 7 (m.ar.map aI.v)),(35,au (m.ar.map aI.v).length),(36,au i)],
     [(48,⟨n,4,false,false,some [m.v]⟩),(97,⟨g5,5,true,false,some (es.map an.v)⟩),(128,⟨t,7,false,false,some [p.v]⟩),(145,⟨g8,7,true,false,some (cs.map aI.v)⟩)]⟩)
   (fun (i,cs,_)=>i<=m.ar.length/\cs=qk m.ar p i) (fun (i,_)=>m.ar.length - i) (0,[],g) su ⟨ajl,rfl⟩ ?_
  rintro⟨i,cs,g8⟩ ⟨hi,pX⟩
  try dsimp only at hi pX
  have u:=Hw m.ar p i;rw[<-pX] at u;by_cases Y0:i<m.ar.length
  .obtain⟨o,h⟩: ∃o,m.ar[i]? =some o:=⟨_,aM Y0⟩;have e:=Fx m.ar p i;rw[<-pX] at e;have Hy:=s o.id;have b:=w p.id o.id;by_cases Am:fq m.ar o.id=i
   case neg=>
     have hc:wy m.ar p i=none:=by simp[wy,h,Am]
     rw[hc] at e;conv=>whnf
     repeat' (first| intro g| refine wi (aw h rfl) ?_| apply ca Hy| apply ca b| refine st ?_| refine br ?_ ?_<;>intro hc| rfl) <;>conv=>whnf
     all_goals exact aR.mk (i+1,cs,g8) om ⟨om,by simpa using e.symm⟩ su
   rw[Am] at Hy;by_cases q:mW m.ar p.id o.id=0
   case neg=>
     have hc:wy m.ar p i=none:=by simp[wy,h,q]
     rw[hc] at e;conv=>whnf
     repeat' (first| intro g| refine wi (aw h rfl) ?_| apply ca Hy| apply ca b| refine st ?_| refine br ?_ ?_<;>intro hc| rfl) <;>conv=>whnf
     all_goals exact aR.mk (i+1,cs,g8) om ⟨om,by simpa using e.symm⟩ su
   rw[q] at b;have hc:wy m.ar p i=some o:=by simp[wy,h,Am,q]
   rw[hc] at e;conv=>whnf
   repeat' (first| intro g| refine wi (aw h rfl) ?_| apply ca Hy| apply ca b| refine st ?_| refine br ?_ ?_<;>intro hc| rfl) <;>conv=>whnf
   exact aR.mk (i+1,cs++[o],g) om ⟨om,by simpa using e.symm⟩ su
  have:i=m.ar.length:=ajk;subst this;have f:Fy m.ar d k=(match Fw m.ar p m.ar.length with
    | some o=>some ⟨4,if 1 <ll m.ar p.id o.id then ll m.ar p.id o.id else 1,p.id,o.id,0⟩
    | none=>none):=by
    simp only[Fy,Q8,hd,hf,and_self,if_true]
    try (cases Fw m.ar p m.ar.length<;>rfl)
  unfold Fw at f;rw[<-pX] at f;cases cs with
  | nil=>
    have c:=NP p;dsimp only at f;conv=>whnf
    repeat' (first| intro g| refine wi (fC (l:=([]:List aI)) rfl) ?_| apply ca c| refine st ?_| refine br ?_ ?_<;>intro hc| rfl) <;>conv=>whnf
    rw[f] at hs;exact aR.mk (k+1,es,g5) om ⟨om,by simpa using hs.symm⟩ su
  | cons x xs=>
    have c:=Q0 p (l:=xs) (x0:=x) (by simp only[ajC] at u;omega);dsimp only at f;generalize B:Hu (Ak p) xs x=o at c f;have r:=Q6 p.id o.id;conv=>whnf
    repeat' (first| intro g| refine wi (fC rfl) ?_| apply ca c| apply ca r| refine st ?_| refine br ?_ ?_<;>intro hc| rfl) <;>conv=>whnf
    rw[f] at hs;exact aR.mk (k+1,es++[⟨4,if 1 <ll m.ar p.id o.id then ll m.ar p.id o.id else 1,p.id,o.id,0⟩],g) om ⟨om,by simpa using hs.symm⟩ su
 have:k=m.ar.length:=ajk;subst this;subst bC;conv=>whnf
 repeat' (first| intro g| refine wi (fC ajk) ?_| apply ca Q7| refine st ?_| refine br ?_ ?_<;>intro hc| rfl) <;>conv=>whnf
end
section
variable {m:aB} (hlen:m.ar.length< 1000000)
include hlen
end
theorem sZ (l:List aH) (h:l.length< 1000000):alH 28 [.lit 4 (l.map aH.v)] (.own 4 (l.map aH.v)):=
 Ev.ext (by rw[ade];simp[dX];omega)
theorem pw (l:List aP) (h:l.length< 1000000):alH 29 [.lit 5 (l.map aP.v)] (.own 5 (l.map aP.v)):=
 Ev.ext (by rw[adf];simp[dX];omega)
theorem pz (l:List bH) (h:l.length< 1000000):alH 30 [.lit 8 (l.map bH.v)] (.own 8 (l.map bH.v)):=
 Ev.ext (by rw[adg];simp[dX];omega)
theorem mD (l:List aI) (h:l.length< 1000000):alH 31 [.lit 7 (l.map aI.v)] (.own 7 (l.map aI.v)):=
 Ev.ext (by rw[adh];simp[dX];omega)
theorem dZ (l:List Pt) (h:l.length< 1000000):alH 32 [iW l] (.own 2 (l.map Pt.v)):=
 Ev.ext (by rw[adb];simp[dX,iW];omega)
structure aB.Fit (m:aB):Prop where
 e:m.aA.length< 1000000
 f:m.ak.length< 1000000
 w:m.aF.length< 1000000
 p:m.ar.length< 1000000
 el: ∀e ∈ m.aA,e.line.length< 1000000
 wl: ∀w ∈ m.aF,w.line.length< 1000000
def U1 (a b:uS):uS:=if a=[] then b else a
theorem Q9 (a b:uS):alH 17 [.lit 1 [.str a,.str b]] (.str (U1 a b)):=by
 refine amM ?_;conv=>whnf
 repeat' (first| intro g| refine st ?_| refine br ?_ ?_<;>intro hc| rfl) <;>conv=>whnf
 refine aO.by (fun i:Nat=> ⟨[(3,.str []),(6,.lit 1 [.str a,.str b]),(7,au 2),(8,au i)],[]⟩) (fun i=>i<=2/\(1<=i->a=[])/\(2<=i->b=[])) (fun i=>2 - i) 0 su ?_ ?_
 .simp
 rintro i ⟨hi,h1,h2⟩;rcases(by omega:i=0\/i=1\/i=2) with rfl| rfl| rfl
 .conv=>whnf
  repeat' (first| intro g| refine st ?_| refine br ?_ ?_<;>intro hc| rfl) <;>conv=>whnf
  .simp[U1,hc]
  refine aR.mk (1) om ?_ su;exact⟨ajk,fun _=>by simpa using hc,fun h=>ajk⟩
 .have ha:=h1 ajk;conv=>whnf
  repeat' (first| intro g| refine st ?_| refine br ?_ ?_<;>intro hc| rfl) <;>conv=>whnf
  .simp[U1,ha]
  refine aR.mk (2) om ?_ su;exact⟨ajk,fun _=>ha,fun _=>by simpa using hc⟩
 have ha:=h1 ajk;have hb:=h2 ajk;conv=>whnf
 repeat' (first| intro g| refine st ?_| refine br ?_ ?_<;>intro hc| rfl) <;>conv=>whnf
 all_goals simp[U1,ha,hb]
theorem NR {m:aB} (h:m.Fit):alH 16 [m.v] (.agg [.own 4 (m.aA.map aH.v),.own 5 (m.ak.map aP.v),.own 8 (m.aF.map bH.v),.own 7 (m.ar.map aI.v)]):=by
 have o:=h.e;have q:=h.w;have c1:=sZ m.aA h.e;have c2:=pw m.ak h.f;have c3:=pz m.aF h.w;have c4:=mD m.ar h.p;refine amM ?_;conv=>whnf
 repeat' (first| intro g| apply ca c1| apply ca c2| apply ca c3| apply ca c4| refine st ?_| refine br ?_ ?_<;>intro hc| rfl) <;>conv=>whnf
 rename_i t c a d b gP;have r: ∀ {l:List aH} {i:Nat} {x:aH},l[i]? =some x->(l.map aH.v).set (i:Int).toNat (.agg [vi x.id,.lit 2 (x.line.map Pt.v),vi x.left,vi x.right])=l.map aH.v:=fun h=>pq h;have s: ∀ {l:List bH} {i:Nat} {x:bH},l[i]? =some x->(l.map bH.v).set (i:Int).toNat (.agg [vi x.id,.lit 2 (x.line.map Pt.v),vi x.level,.str x.cls,.str x.name,.bool x.uT,vi x.weight,vi x.aC])=l.map bH.v:=fun h=>pq h;refine aO.by (fun (i:Nat)=> ⟨[(2,.ptr 48 c 0 0),(3,.ptr 64 g 0 0),(21,au (m.aA.map aH.v).length),(22,au i)],
   [(64,⟨g,4,false,false,some [.agg [.sl 144 a 0 (m.aA.map aH.v).length,.sl 192 d 0 (m.ak.map aP.v).length,.sl 240 b 0 (m.aF.map bH.v).length,.sl 288 gP 0 (m.ar.map aI.v).length]]⟩),
    (48,⟨c,4,false,false,some [.agg [.lit 4 [],.lit 5 [],.lit 8 [],.lit 7 []]]⟩),
    (144,⟨a,4,true,false,some (m.aA.map aH.v)⟩),(192,⟨d,5,true,false,some (m.ak.map aP.v)⟩),(240,⟨b,8,true,false,some (m.aF.map bH.v)⟩),(288,⟨gP,7,true,false,some (m.ar.map aI.v)⟩)]⟩)
  (fun i=>i<=m.aA.length) (fun i=>m.aA.length - i) 0 su ajl ?_
 rintro i hi;by_cases j:i<m.aA.length
 .obtain⟨e,he⟩: ∃e,m.aA[i]? =some e:=⟨_,aM j⟩;have k:=dZ e.line (h.el e (List.mem_of_getElem? he));conv=>whnf
  repeat' (first| intro g| refine wi (aw he rfl) ?_| apply ca k| refine st ?_| refine br ?_ ?_<;>intro hc| rfl) <;>conv=>whnf
  have n: (⟨a,4,true,false,some ((m.aA.map aH.v).set (i:Int).toNat (.agg [vi e.id,.lit 2 (e.line.map Pt.v),vi e.left,vi e.right]))⟩:Obj)=⟨a,4,true,false,some (m.aA.map aH.v)⟩:=by rw[r he]
  exact aR.mk (i+1) om ajk (by(refine⟨?_,?_⟩ <;>repeat' (first| exact True.intro| refine And.intro (n) ?_| refine ai ?_| refine And.intro ?_ ?_)))
 obtain rfl:i=m.aA.length:=ajk;conv=>whnf
 repeat' (first| intro g| refine st ?_| refine br ?_ ?_<;>intro hc| rfl) <;>conv=>whnf
 refine aO.by (fun (i:Nat)=> ⟨[(2,.ptr 48 c 0 0),(3,.ptr 64 g 0 0),(40,au (m.aF.map bH.v).length),(41,au i)],
   [(64,⟨g,4,false,false,some [.agg [.sl 144 a 0 (m.aA.map aH.v).length,.sl 192 d 0 (m.ak.map aP.v).length,.sl 240 b 0 (m.aF.map bH.v).length,.sl 288 gP 0 (m.ar.map aI.v).length]]⟩),
    (48,⟨c,4,false,false,some [.agg [.lit 4 [],.lit 5 [],.lit 8 [],.lit 7 []]]⟩),
    (144,⟨a,4,true,false,some (m.aA.map aH.v)⟩),(192,⟨d,5,true,false,some (m.ak.map aP.v)⟩),(240,⟨b,8,true,false,some (m.aF.map bH.v)⟩),(288,⟨gP,7,true,false,some (m.ar.map aI.v)⟩)]⟩)
  (fun i=>i<=m.aF.length) (fun i=>m.aF.length - i) 0 su ajl ?_
 rintro i hi;by_cases j:i<m.aF.length
 .obtain⟨e,he⟩: ∃e,m.aF[i]? =some e:=⟨_,aM j⟩;have k:=dZ e.line (h.wl e (List.mem_of_getElem? he));conv=>whnf
  repeat' (first| intro g| refine wi (aw he rfl) ?_| apply ca k| refine st ?_| refine br ?_ ?_<;>intro hc| rfl) <;>conv=>whnf
  have n: (⟨b,8,true,false,some ((m.aF.map bH.v).set (i:Int).toNat (.agg [vi e.id,.lit 2 (e.line.map Pt.v),vi e.level,.str e.cls,.str e.name,.bool e.uT,vi e.weight,vi e.aC]))⟩:Obj)=⟨b,8,true,false,some (m.aF.map bH.v)⟩:=by rw[s he]
  exact aR.mk (i+1) om ajk (by(refine⟨?_,?_⟩ <;>repeat' (first| exact True.intro| refine And.intro (n) ?_| refine ai ?_| refine And.intro ?_ ?_)))
 obtain rfl:i=m.aF.length:=ajk;conv=>whnf
 repeat' (first| intro g| refine wi (jd rfl) ?_| refine st ?_| refine br ?_ ?_<;>intro hc| rfl) <;>conv=>whnf
theorem NS {l:List aI} {i:Nat} (hi:i<l.length) (h:l.length< 1000000):Ev E 18 [.msl 7 (l.map aI.v) 0 l.length,au i,vi (IntKind.i64.wrap ((i:Int)+1))] ⟨.sl 0 0 0 (l.length - 1),[(0,(l.eraseIdx i).map aI.v++[(aI.mk 0 0 0 [] [] 0 0).v])]⟩:=by
 have hw:IntKind.i64.wrap ((i:Int)+1)=((i+1:Nat):Int):=wt;rw[hw];refine amM ?_;have a:aN (l.map aI.v) (0+((i+1:Nat):Int).toNat) (l.length - ((i+1:Nat):Int).toNat)=(l.drop (i+1)).map aI.v:=by
  rw[iq];congr 1
  rw[List.take_of_length_le ajl];simp
 conv=>whnf
 repeat' (first| intro g| refine nd (by first| ((and_intros<;>first| rfl| exact bD (bD (aI.aV _) (aI.aV _)) (bY rfl) | exact iw (bD (bD (aI.aV _) (aI.aV _)) (bY rfl)) | (simp only[overwrite,aN,List.length_map,List.length_append,ajC,ajJ,akj,akH];omega) | omega)) | fail) ?_| refine wi a ?_| refine st ?_| refine br ?_ ?_<;>intro hc| rfl) <;>conv=>whnf
 obtain⟨A,x,B,rfl,hA⟩: ∃A x B,l=A++x::B/\A.length=i:=⟨l.take i,l[i],l.drop (i+1),ajl,by simp;omega⟩;have b: (A++x::B).drop (i+1)=B:=by rw[<-hA];simp[alp]
 have c: (A++x::B).eraseIdx i=A++B:=by rw[<-hA];simp[ak0]
 have d: ((i:Int).toNat - 0+((B).map aI.v).length)=A.length+B.length:=by simp;omega
 rw[b,c,d];have e: ((A.length+B.length:Nat):Int).toNat=A.length+B.length:=ajk;have f: (((A++x::B).length:Nat):Int).toNat - (A.length+B.length)=1:=by simp;omega
 have j: (A++x::B).length - 1=A.length+B.length:=ajl;rw[e,f,j];subst hA;show (⟨V.sl 0 0 0 _,[(0,_)]⟩:fu)=_;congr 3
 simp[overwrite,List.take_append,alp];rw[List.take_of_length_le ajl,ajS (by simp;omega),ajS (by simp;omega),ajS (by simp;omega),ajS (by simp;omega)];rfl
def lH (a b:aI):aI:={b with weight:=if 255 <kb (b.weight+a.weight) then 255 else kb (b.weight+a.weight),name:=U1 b.name a.name}
def mm (ps:List aI) (place c:Int):List aI:=
 match ps[(fq ps place).toNat]?,ps[(fq ps c).toNat]? with
 | some a,some b=> (ps.set (fq ps c).toNat (lH a b)).eraseIdx (fq ps place).toNat
 | _,_=> []
def aB.zero:aB:=⟨[],[],[],[]⟩
theorem Rb {m:aB} (h:m.Fit) (place c:Int):alH 7 [m.v,vi place,vi c] (if mW m.ar place c=0 then
   .tuple [.agg [.own 4 (m.aA.map aH.v),.own 5 (m.ak.map aP.v),.own 8 (m.aF.map bH.v),.own 7 ((mm m.ar place c).map aI.v)],vi 0]
  else .tuple [aB.zero.v,vi (mW m.ar place c)]):=by
 have q:=qi h.p place c;have XZ:=sY h.p place c;by_cases d:mW m.ar place c=0
 case neg=>
  rw[if_neg d];refine amM ?_;exact dr
 rw[if_pos d];rw[d] at q;rcases gh m.ar place with h1| ⟨i,a,h1,ha,f⟩
 .exact absurd d (by simp[mW,h1])
 rcases gh m.ar c with h2| ⟨k,b,h2,hb,j⟩
 .exact absurd d (by simp[mW,h2])
 have n:=NR h;rw[h1,h2] at XZ;have GZ:i<m.ar.length:=(ajp.1 ha).1;have QH:k<m.ar.length:=(ajp.1 hb).1;have Bp:i≠k:=by
  intro e;subst e;rw[ha] at hb;injection hb with hb;subst hb;have:y9 place c a a=1:=by simp[y9,<-f,<-j]
  simp[mW,h1,h2,ha,this] at d
 have hp:=h.p;refine amM ?_;have FB: ∀r,Ev E 18 [.msl 7 (((m.ar.map aI.v).set (k:Int).toNat r).set (k:Int).toNat (lH a b).v) 0 (m.ar.map aI.v).length,au i,vi (IntKind.i64.wrap ((i:Int)+1))] ⟨.sl 0 0 0 (m.ar.length - 1),[(0,((m.ar.set k (lH a b)).eraseIdx i).map aI.v++[(aI.mk 0 0 0 [] [] 0 0).v])]⟩:=by intro r;have:=NS (l:=m.ar.set k (lH a b)) (i:=i) (by simpa using GZ) (by simpa using hp);rw[List.set_set,<-akl];simpa using this
 have o:m.ar.length - 1=((m.ar.set k (lH a b)).eraseIdx i).length:=by simp[aku,GZ]
 have o9:mm m.ar place c=(m.ar.set k (lH a b)).eraseIdx i:=by simp[mm,h1,h2,ha,hb]
 rw[o9];conv=>whnf
 repeat' (first| intro g| refine wi (aw ha rfl) ?_| refine wi (aw hb rfl) ?_| refine wi (mi (aw hb rfl)) ?_| refine wi (mi (mi (aw hb rfl))) ?_| refine wi (sW o) ?_| refine wi (fC ajl) ?_| apply ca q| apply ca XZ| apply ca n| apply ca (Q9 _ _) | apply ca (FB _) | refine st ?_| refine br ?_ ?_<;>intro hc| rfl) <;>conv=>whnf
 all_goals trace_state
def Rc (p:Pt) (a:Int):V:= .agg [vi p.x,vi p.y,vi a]
theorem Bq (p:Pt) (a:Int):bQ (Rc p a)=true:=rfl
structure WLn (w:bH) (p q:Pt):Prop where
 pos:0 <w.line.length
 lt:w.line.length< 1000
 first:w.line[0]? =some p
 last:w.line[w.line.length - 1]? =some q
theorem WLn.ex {w:bH} (h0:0 <w.line.length) (h1:w.line.length< 1000): ∃p q,WLn w p q:=
 ⟨_,_,h0,h1,aju ajk,aju ajk⟩
theorem Bt {w:bH} {p q:Pt} (h:WLn w p q):alH 695 [w.v] (.own 3 [Rc p w.level,Rc q w.level]):=by
 obtain⟨h0,h1,h2,h3⟩:=h;have hw:IntKind.i64.wrap (((w.line.map Pt.v).length:Int) - 1)=((w.line.length - 1:Nat):Int):=by rw[List.length_map,bo ajk ajk];omega
 have a: (w.line.map Pt.v)[(IntKind.i64.wrap (((w.line.map Pt.v).length:Int) - 1)).toNat]? =some q.v:=by rw[hw,ajZ];exact aw h3 rfl
 have hn:0<=IntKind.i64.wrap (((w.line.map Pt.v).length:Int) - 1):=by rw[hw];omega
 clear hw;refine amM ?_;conv=>whnf
 repeat' (first| refine pf.mk ⟨hn,rfl⟩ ?_| intro g| refine wi (aw h2 rfl) ?_| refine wi a ?_| refine st ?_| refine br ?_ ?_<;>intro hc| rfl) <;>conv=>whnf
theorem adm {α:Type} (f:Nat->α) (t:Nat) (v:α):dh f t v t=v:=by simp[dh]
theorem Y2 {α:Type} (f:Nat->α) {t n:Nat} (v:α) (h:n≠t):dh f t v n=f n:=by simp[dh,h]
def Kk (i:Nat) (g:Nat) (e:List Int):V:= .sl (16001488+16*i) g 0 e.length
def eS:Nat->List (Nat×List Int)->List V
 | _,[]=> []
 | i,p::l=>Kk i p.1 p.2::eS (i+1) l
def VK (p:Nat×List Int):Obj:=⟨p.1,1,true,false,some (p.2.map vi)⟩
def ub:Nat->List (Nat×List Int)->List (Nat×Obj)
 | _,[]=> []
 | i,p::l=> (16001488+16*i,VK p)::ub (i+1) l
theorem mE: ∀ (i:Nat) (l:List (Nat×List Int)),(eS i l).length=l.length
 | _,[]=>rfl
 | i,_::l=>by simp[eS,mE (i+1) l]
theorem DR: ∀ (i:Nat) (l:List (Nat×List Int)) (p:Nat×List Int),eS i (l++[p])=eS i l++[Kk (i+l.length) p.1 p.2]
 | i,[],p=>rfl
 | i,q::l,p=>by have:i+1+l.length=i+(l.length+1):=ajk;simp[eS,DR (i+1) l p,this]
theorem s6: ∀ {i:Nat} {l:List (Nat×List Int)} {k:Nat} {p:Nat×List Int},l[k]? =some p->(eS i l)[k]? =some (Kk (i+k) p.1 p.2)
 | i,[],k,p,h=>by simp at h
 | i,q::l,0,p,h=>by simp at h;subst h;rfl
 | i,q::l,k+1,p,h=>by have:=s6 (i:=i+1) (l:=l) (k:=k) (p:=p) (by simpa using h);simp only[eS,akf,this];rw[show i+1+k=i+(k+1) from by omega]
theorem ln: ∀ {i:Nat} {l:List (Nat×List Int)} {k:Nat} {p:Nat×List Int},l[k]? =some p->lk (ub i l) (16001488+16*(i+k))=some (VK p)
 | i,[],k,p,h=>by simp at h
 | i,q::l,0,p,h=>by simp at h;subst h;simp[ub,fB]
 | i,q::l,k+1,p,h=>by have:=ln (i:=i+1) (l:=l) (k:=k) (p:=p) (by simpa using h);rw[ub,fB,if_neg (by simp only;omega),show i+(k+1)=i+1+k from by omega];exact this
theorem rF {α:Type} {i n:Nat} {o:α} {l:List (Nat×α)} (h:n< 16001488):lk ((16001488+16*i,o)::l) n=lk l n:=by rw[fB,if_neg (by simp only;omega)]
theorem oR {α:Type} {k i:Nat} {o:α} {l:List (Nat×α)} (h:k< 16001488):lk ((k,o)::l) (16001488+16*i)=lk l (16001488+16*i):=by rw[fB,if_neg (by simp only;omega)]
theorem gp {α:Type} {k:Nat} {o:α} {l:List (Nat×α)}:lk ((k,o)::l) k=some o:=by rw[fB,if_pos rfl]
theorem iN {α:Type} {p:Nat×α} {l m:List (Nat×α)} (h:lk m p.1=some p.2) (k:zL l m):zL (p::l) m:=
 ⟨by rw[h],k⟩
theorem rG {M:List (Nat×Obj)}: ∀ {i:Nat} {l:List (Nat×List Int)},(∀k p,l[k]? =some p->lk M (16001488+16*(i+k))=some (VK p))->zL (ub i l) M
 | _,[],_=>trivial
 | i,p::l,h=>by refine iN (h 0 p rfl) (rG fun k q a=> ?_);rw[show i+1+k=i+(k+1) from by omega];exact h (k+1) q (by simpa using a)
theorem Re {α:Type} {k n:Nat} {o:α} {l:List (Nat×α)} (h:k≠n):lk ((k,o)::l) n=lk l n:=by rw[fB,if_neg h]
theorem Bu {α:Type} {k n:Nat} {o:α} {l:List (Nat×α)} (h:Nat.beq k n=false):lk ((k,o)::l) n=lk l n:=by simp only[lk,h,cond_false]
theorem Rf {E:Env} {t:Nat} {o:Obj} {k:Obj->bI} {S:SS} {Q:KK} (h:lk S.O t=some o) (a:fX E (k o) S fun v S' r w=>Q v S' (.o t::r) w):fX E (.bV t k) S Q:=by simp only[fX,h];exact a
theorem QC.any {E:Env} {a:Act} {S:SS} {Q:KK} (h: ∀σ,S.On σ->JU E a σ fun v σ'=> ∃S',S'.On σ'/\ ∀r w,Q v S' r w):QC E a S Q:=
 ⟨fun σ b=>by obtain⟨n,v,σ',h1,S',h2,h3⟩:=h σ b;exact⟨n,v,σ',h1,S',h2,h3 _ _⟩⟩
theorem ya: ∀ {i:Nat} {l:List (Nat×List Int)} {k g:Nat} {y:List Int},eS i (l.set k (g,y))=(eS i l).set k (.sl (16001488+16*(i+k)) g 0 y.length)
 | _,[],_,_,_=>rfl
 | i,p::l,0,g,y=>rfl
 | i,p::l,k+1,g,y=>by simp only[List.set_cons_succ,eS];rw[ya (i:=i+1),show i+1+k=i+(k+1) from by omega]
theorem wA {α:Type}: ∀ {l:List α} {k:Nat} {x:α},l[k]? =some x->l.set k x=l
 | [],_,_,h=>by simp at h
 | y::l,0,x,h=>by simp at h;subst h;rfl
 | y::l,k+1,x,h=>by simp only[List.set_cons_succ];rw[wA (by simpa using h)]
def NT (p:Nat×List Int):V:= .lit 1 (p.2.map vi)
theorem Kl: ∀ {i:Nat} {l:List (Nat×List Int)},V.al (eS i l)=true->l=[]
 | _,[],_=>rfl
 | i,p::l,h=>by simp only[eS,V.al,ajt] at h;have:=h.1;simp[Kk,V.az] at this
def Rg (O O':Nat->Obj):Prop:=(∀r,r< 16000000->O' r=O r)/\ ∀r,(O' r).gen=(O r).gen/\(O' r).sz=(O r).sz/\(O' r).arr=(O r).arr/\(O' r).es=(O r).es
theorem Rg.refl (O:Nat->Obj):Rg O O:=⟨fun _ _=>rfl,fun _=> ⟨rfl,rfl,rfl,rfl⟩⟩
theorem Rg.trans {a b c:Nat->Obj} (h:Rg a b) (k:Rg b c):Rg a c:=
 ⟨fun r hr=> (k.1 r hr).trans (h.1 r hr),fun r=> ⟨(k.2 r).1.trans (h.2 r).1,(k.2 r).2.1.trans (h.2 r).2.1,(k.2 r).2.2.1.trans (h.2 r).2.2.1,(k.2 r).2.2.2.trans (h.2 r).2.2.2⟩⟩
theorem Mz {T:Nat->V} {Q:V->St->Prop}: ∀ {H:List (Nat×List Int)} {i:Nat} {O:Nat->Obj} {k:List V->Act},
   (∀j p,H[j]? =some p->(O (16001488+16*(i+j))).gen=p.1/\(O (16001488+16*(i+j))).sz=1/\(O (16001488+16*(i+j))).arr=true/\(O (16001488+16*(i+j))).es=some (p.2.map vi))->
   (∀O',Rg O O'->JU E (k (H.map NT)) ⟨T,O'⟩ Q)->JU E (oM.go (eS i H) k) ⟨T,O⟩ Q
 | [],i,O,k,_,a=>by simp only[eS,oM.go];exact a O (Rg.refl O)
 | p::H,i,O,k,h,a=>by
   obtain⟨h1,h2,h3,h4⟩:=h 0 p rfl;rw[akQ] at h1 h2 h3 h4;have hp:V.az (Kk i p.1 p.2)=false:=rfl;have hw:aN (p.2.map vi) 0 p.2.length=p.2.map vi:=fC ajl;simp only[eS,oM.go];unfold DJ;rw[hp];simp only[ajA,if_false,Kk,jN];rw[AJ];simp only[h4];rw[if_pos ⟨h1,h3,ajl,by rw[hw];exact AM.aV (fun _=>rfl) _⟩,Hb,h2,hw];refine Mz (i:=i+1) (fun j q c=> ?_) fun O' b=> ?_
   .have:=h (j+1) q (by simpa using c);rw[show i+(j+1)=i+1+j from by omega] at this;have bW:16001488+16*(i+1+j)≠16001488+16*i:=ajk;simp only[Y2 _ _ bW];exact this
   refine a O' (Rg.trans ⟨fun r' d=> ?_,fun r'=> ?_⟩ b)
   .show dh O _ _ r'=_;rw[Y2 _ _ ajk]
   show (dh O _ _ r').gen=_/\_;by_cases e:r'=16001488+16*i
   .subst e;simp[adm,h2,h4]
   simp[Y2 _ _ e]
theorem Rh {T:List (Nat×V)} {Q:KK} {g n:Nat} {H:List (Nat×List Int)}
   (d: ∀r w,Q (.sl 49 g 0 n) ⟨T,[(49,⟨g,1,true,false,some (H.map NT)⟩)]⟩ r w):QC E (vT (.sl 49 g 0 n)) ⟨T,(49,⟨g,1,true,false,some (eS 0 H)⟩)::ub 0 H⟩ Q:=by
 refine QC.any fun σ a=> ?_;have c:σ.O 49=_:=a.2 49 _ gp;have f: ∀j p,H[j]? =some p->(σ.O (16001488+16*(0+j))).gen=p.1/\(σ.O (16001488+16*(0+j))).sz=1/\(σ.O (16001488+16*(0+j))).arr=true/\(σ.O (16001488+16*(0+j))).es=some (p.2.map vi):=fun j p hp=>by have:=a.2 (16001488+16*(0+j)) (VK p) ((oR ajm).trans (ln hp));rw[this];exact⟨rfl,rfl,rfl,rfl⟩
 unfold vT;simp only;rw[AJ,c];simp only[if_true];have fin: ∀O',Rg σ.O O'->JU E (.bV 49 fun b=>if b.gen=g/\b.es.isSome=true/\(H.map NT).all (bj · 1)=true then .bS 49 {b with es:=some (H.map NT)} (.done (.sl 49 g 0 n)) else .fail) ⟨σ.T,O'⟩ fun v σ'=> ∃S',S'.On σ'/\ ∀r w,Q v S' r w:=fun O' hf=>by
   have h:O' 49=_:=(hf.1 49 ajm).trans c;rw[AJ];simp only[h,Option.isSome_some];rw[if_pos ⟨trivial,trivial,by rw[List.all_map,ajx];exact fun _ _=>rfl⟩,Hb,Qn];refine⟨⟨T,[(49,⟨g,1,true,false,some (H.map NT)⟩)]⟩,⟨fun t v hv=>a.1 t v hv,fun r o hr=> ?_⟩,d⟩;show dh O' 49 _ r=o;rw[fB] at hr;by_cases e:49=r
   .rw[if_pos e] at hr;injection hr with hr;subst e;rw[adm];exact hr
   rw[if_neg e] at hr;simp[lk] at hr
 unfold oM;cases hp:V.al (eS 0 H) with
 | true=>
   have:=Kl hp;subst this;rw[if_pos rfl];exact fin σ.O (Rg.refl _)
 | false=>
   rw[if_neg ajl];exact Mz (i:=0) f fin
def aY (fs:List aP) (id:Int):Option Nat:=fs.findIdx? fun f=>decide (f.id=id)
theorem cI {fs:List aP} {id:Int} {i:Nat} (h:aY fs id=some i): ∃f,fs[i]? =some f/\f.id=id/\ ∀j g,j<i->fs[j]? =some g->g.id≠id:=by unfold aY at h;rw[akE] at h;obtain⟨hl,h1,h2⟩:=h;refine⟨fs[i],aju hl,by simpa using h1,fun j g a hg=> ?_⟩;have NU:j<fs.length:=ajk;rw[aju NU] at hg;injection hg with hg;subst hg;simpa using h2 j a
theorem Bv {fs:List aP} {id:Int} (h:aY fs id=none): ∀ (j:Nat) g,fs[j]? =some g->g.id≠id:=by unfold aY at h;rw[alA] at h;intro j g hg;simpa using h g (List.mem_of_getElem? hg)
def FC:Bool->Nat->aP->V
 | true,i,f=> .epk i 5 f.v 0
 | false,_,f=> .eptr f.v 0
def bO (k:Bool) (fs:List aP):Nat->List V
 | 0=> []
 | n+1=>match fs[n]? with
   | some f=>if aY (fs.take n) f.id=none then bO k fs n++[.tuple [vi f.id,FC k n f]] else bO k fs n
   | none=>bO k fs n
theorem za (x:V): ∀ (es es':List V),cp x es=some none->cp x (es++es')=cp x es'
 | [],_,_=>rfl
 | e::es,es',h=>by
   unfold cp at h;split at h
   .simp at*
   .rename_i b v c he;injection he with h1 h2;subst h1;subst h2;split at h
    .simp at h
    .rename_i a;simp only[ajK,cp,a];exact za x _ es' h
    simp at h
   simp at h
theorem wB (x v:V): ∀ (es es':List V),cp x es=some (some v)->cp x (es++es')=some (some v)
 | [],_,h=>by simp[cp] at h
 | e::es,es',h=>by
   unfold cp at h;split at h
   .simp at*
   .rename_i b v' c he;injection he with h1 h2;subst h1;subst h2;split at h
    .rename_i a;simp only[ajK,cp,a];exact h
    .rename_i a;simp only[ajK,cp,a];exact wB x v _ es' h
    simp at h
   simp at h
theorem rH (x v:V): ∀ (es:List V),cp x es=some none->jt x v es=some (es++[.tuple [x,v]])
 | [],_=>rfl
 | e::es,h=>by
   unfold cp at h;split at h
   .simp at*
   .rename_i b v' c he;injection he with h1 h2;subst h1;subst h2;split at h
    .simp at h
    .rename_i a;simp only[ajK,jt,a,rH x v _ h,ajE]
    simp at h
   simp at h
def pA (k:Bool) (fs:List aP) (n:Nat) (id:Int):Option V:=match aY (fs.take n) id with
 | some i=> (fs[i]?).map (FC k i)
 | none=>none
theorem zQ {fs:List aP} {n:Nat} {f:aP} (hf:fs[n]? =some f) (id:Int):aY (fs.take (n+1)) id=(match aY (fs.take n) id with| some i=>some i| none=>if f.id=id then some n else none):=by
 rw[aj6,hf];have hl: (fs.take n).length=n:=by have:=(ajp.1 hf).1;simp;omega
 simp only[aY,Option.toList,List.findIdx?_append,hl];cases List.findIdx? (fun f=>decide (f.id=id)) (fs.take n) with
 | some i=>rfl
 | none=>
   by_cases h:f.id=id<;>simp[List.findIdx?_cons,h]
theorem s7 (k:Bool) (fs:List aP) (id:Int): ∀n,cp (vi id) (bO k fs n)=some (pA k fs n id)
 | 0=>by simp[bO,cp,pA,aY]
 | n+1=>  by
   have a:=s7 k fs id n;unfold bO;cases hf:fs[n]? with
   | none=>
     have:fs.take (n+1)=fs.take n:=by rw[aj6,hf];simp
     simp only[a,pA,this]
   | some f=>
     have hs:=zQ hf id;by_cases hn:aY (fs.take n) f.id=none
     .simp only[hn,if_true];cases hl:aY (fs.take n) id with
      | none=>
        have hi:cp (vi id) (bO k fs n)=some none:=by rw[a];simp[pA,hl]
        rw[za _ _ _ hi];rw[hl] at hs;by_cases he:f.id=id
        .subst he;simp only[if_true] at hs;simp only[pA,hs,hf,ajE];simp[cp,tZ,vi]
        simp only[if_neg he] at hs;have c: ¬id=f.id:=fun h=>he h.symm;have hb: (id==f.id)=false:=by simpa using c
        simp[pA,hs,cp,tZ,vi,hb]
      | some i=>
        rw[hl] at hs;obtain⟨g,hg,_⟩:=cI hl;have GZ:i<n:=by have:=(ajp.1 hg).1;simp at this;omega
        have b:fs[i]? =some g:=by rw[ajW] at hg;simpa [GZ] using hg
        have hi:cp (vi id) (bO k fs n)=some (some (FC k i g)):=by rw[a];simp[pA,hl,b]
        rw[wB _ _ _ _ hi];simp[pA,hs,b]
     simp only[hn,if_false];cases hl:aY (fs.take n) id with
     | none=>
       rw[hl] at hs;by_cases he:f.id=id
       .subst he;exact absurd hl hn
       simp only[if_neg he] at hs;rw[a];simp[pA,hl,hs]
     | some i=>
       rw[hl] at hs;rw[a];simp[pA,hl,hs]
theorem Hz (k:Bool) {fs:List aP} {n:Nat} {f:aP} (hf:fs[n]? =some f) (h:aY (fs.take n) f.id=none):jt (vi f.id) (FC k n f) (bO k fs n)=some (bO k fs (n+1)):=by
 have h1:cp (vi f.id) (bO k fs n)=some none:=by rw[s7];simp[pA,h]
 rw[rH _ _ _ h1];simp[bO,hf,h]
theorem DS (k:Bool) {fs:List aP} {n:Nat} {f:aP} (hf:fs[n]? =some f) (h:aY (fs.take n) f.id≠none):bO k fs (n+1)=bO k fs n:=by simp[bO,hf,h]
theorem yc {k:Bool} {fs:List aP} {n:Nat} {id:Int} (z:V) (h:aY (fs.take n) id=none):cZ false z (bO k fs n) (vi id)= .done z:=by simp[cZ,s7,pA,h]
theorem yd {k:Bool} {fs:List aP} {n:Nat} {id:Int} (z:V) {i:Nat} {f:aP} (h:aY (fs.take n) id=some i) (hf:fs[i]? =some f):cZ false z (bO k fs n) (vi id)= .done (FC k i f):=by simp[cZ,s7,pA,h,hf]
theorem NV (k:Bool) (i:Nat) (f:aP): (FC k i f).az=true:=by cases k<;>rfl
theorem jA (k:Bool) (fs:List aP): ∀n,V.al (bO k fs n)=true
 | 0=>rfl
 | n+1=>by
   unfold bO;split
   .split
    .exact fE (jA k fs n) (by simp[V.al,V.az,NV,vi])
    exact jA k fs n
   exact jA k fs n
theorem rI (k:Bool) (fs:List aP): ∀n,(bO k fs n).all V.isTuple=true
 | 0=>rfl
 | n+1=>by
   unfold bO;split
   .split
    .simp[rI k fs n,V.isTuple]
    exact rI k fs n
   exact rI k fs n
theorem mq (k:Bool) (fs:List aP) (n:Nat):V.az (.mlit (bO k fs n))=true:=by simp only[V.az,jA]
def FD:Bool->List V->V
 | true,l=> .litk 5 l
 | false,l=> .lit 5 l
def aB.kv (k:Bool) (m:aB):V:= .agg [.lit 4 (m.aA.map aH.v),FD k (m.ak.map aP.v),.lit 8 (m.aF.map bH.v),.lit 7 (m.ar.map aI.v)]
def cJ (a b:Int) (e:aH):Bool:=decide (e.left=a/\e.right=b\/e.left=b/\e.right=a)
def DT (es:List aH) (a b:Int) (f g:aP):Int:=
 if a=b then 1 else if f.aC≠g.aC\/f.aC< 1 then 25 else if es.any (cJ a b)=false then 13 else if f.name≠[]/\g.name≠[]/\f.name≠g.name then 24 else 0
def qR (m:aB) (a b:Int):Int:=match aY m.ak a,aY m.ak b with
 | some i,some j=> (match m.ak[i]?,m.ak[j]? with
   | some f,some g=>DT m.aA a b f g
   | _,_=>5)
 | _,_=>5
theorem dO (l:List Int):V.al (l.map vi)=true:=AM.aV (fun _=>rfl) l
theorem DU {a b:Int} {e:aH} (ht:cJ a b e=true): (e.left=a/\e.right=b)\/(e.left=a/\ ¬e.right=b/\e.left=b/\e.right=a)\/(¬e.left=a/\e.left=b/\e.right=a):=by simp only[cJ,decide_eq_true_eq] at ht;by_cases h1:e.left=a<;>by_cases h2:e.right=b<;>by_cases h3:e.left=b<;>by_cases h4:e.right=a<;>simp_all
def iU (S:List Int):Nat->List Int
 | 0=> []
 | t+1=>if 0 <t/\S.getD t 0=S.getD (t - 1) 0 then iU S t else iU S t++[S.getD t 0]
def kf (S:List Int):List Int:=iU S S.length
theorem ye (S:List Int): ∀t,(iU S t).length<=t
 | 0=>ajw _
 | t+1=>by
   have:=ye S t;unfold iU;split
   .omega
   simp;omega
theorem DV (S:List Int): ∀t,0 <t->0 < (iU S t).length
 | 0,h=>ajk
 | t+1,_=>by
   unfold iU;split
   .rename_i h;exact DV S t h.1
   simp
def eP (S:List Int):List Int:=kf S++List.replicate (S.length - (kf S).length) 0
theorem Bw {S:List Int} (hl:S.length< 1000000):Ev E 133 [.msl 1 (S.map vi) 0 S.length] ⟨.sl 0 0 0 (kf S).length,[(0,(eP S).map vi)]⟩:=by
 have same:kf S=S->eP S=S:=fun h=>by unfold eP;rw[h];simp
 refine amM ?_;by_cases h2:S.length< 2
 .have hs:kf S=S:=by
   cases S with
   | nil=>rfl
   | cons a S=>cases S with
     | nil=>rfl
     | cons b S=>simp at h2;omega
  rw[same hs,hs];exact dr
 conv=>whnf
 repeat' (first| intro g| refine st ?_| refine br ?_ ?_<;>intro hc| rfl) <;>conv=>whnf
 refine aO.by (fun (k:Nat)=> ⟨[(0,.sl 0 0 0 S.length),(3,au k)],[(0,⟨0,1,true,false,some (S.map vi)⟩)]⟩) (fun k=>1<=k/\k<=S.length/\iU S k=S.take k) (fun k=>S.length - k) 1 su ?_ ?_
 .refine⟨ajw _,ajk,?_⟩;cases S with
  | nil=>simp at h2
  | cons a S=>simp[iU]
 rintro k ⟨Al,s,e⟩
 try dsimp only at Al s e
 by_cases t:k<S.length
 .obtain⟨x,hx⟩: ∃x,S[k]? =some x:=⟨_,aM t⟩;obtain⟨y,hy⟩: ∃y,S[k - 1]? =some y:=⟨_,aM ajk⟩;have P2:S.getD k 0=x:=by simp[akc,hx]
  have c:S.getD (k - 1) 0=y:=by simp[akc,hy]
  have hw:IntKind.i64.wrap ((k:Int) - 1)=((k - 1:Nat):Int):=wt;by_cases P1:x=y
  .have Rj:iU S (k+1)=iU S k:=by rw[iU,if_pos ⟨ajk,by rw[P2,c,P1]⟩]
   conv=>whnf
   repeat' (first| intro g| refine wi (aw hx rfl) ?_| refine wi (aw hy hw) ?_| refine st ?_| refine br ?_ ?_<;>intro hc| rfl) <;>conv=>whnf
   obtain⟨k,rfl⟩: ∃u,k=u+1:=⟨k - 1,ajk⟩;refine aO.by (fun ((w,j,A):Nat×Nat×List Int)=> ⟨[(0,.sl 0 0 0 S.length),(3,au w),(4,.sl 0 0 (k+1) (S.length - (k+1))),(5,au j)],[(0,⟨0,1,true,false,some (A.map vi)⟩)]⟩)
     (fun (w,j,A)=>1<=w/\1<=j/\k+1+j<=S.length/\w<=k+j/\A.length=S.length/\A.take w=iU S (k+1+j)/\(iU S (k+1+j)).length=w/\ ∀i,k+j<=i->A[i]? =S[i]?) (fun (_,j,_)=>S.length - j) (k+1,1,S) ?_ ?_ ?_
   ·(refine⟨?_,?_⟩ <;>repeat' (first| exact True.intro| refine And.intro ((by(conv=>whnf);simp)) ?_| refine ai ?_| refine And.intro ?_ ?_))
   .refine⟨Al,ajw _,ajk,ajk,rfl,by rw[Rj,e],by rw[Rj,e];simp;omega,fun _ _=>rfl⟩
   rintro⟨w,j,A⟩ ⟨Fu,hj1,VL,VM,hAl,P5,iM,hAs⟩
   try dsimp only at Fu hj1 VL VM hAl P5 iM hAs
   clear e Rj hx hy P2 c same;by_cases v:k+1+j<S.length
   . obtain⟨d,n⟩: ∃x,S[k+1+j]? =some x:=⟨_,aM v⟩
     obtain⟨m,G1⟩: ∃y,S[k+j]? =some y:=⟨_,aM ajk⟩;have P2:S.getD (k+1+j) 0=d:=by simp[akc,n]
     have c:S.getD (k+1+j - 1) 0=m:=by rw[show k+1+j - 1=k+j by omega];simp[akc,G1]
     have o:A[k+1+j]? =some d:=by rw[hAs _ ajk,n]
     have p:A[k+j]? =some m:=by rw[hAs _ ajk,G1]
     have HA:IntKind.i64.wrap ((j:Int) - 1)=((j - 1:Nat):Int):=wt;clear n G1;have r1: (A.map vi)[k+1+(j:Int).toNat]? =some (vi d):=by simp[o]
     have r2: (A.map vi)[k+1+(IntKind.i64.wrap ((j:Int) - 1)).toNat]? =some (vi m):=by rw[HA,show k+1+((j - 1:Nat):Int).toNat=k+j by omega];simp[p]
     have z: (j:Int) < ((S.length - (k+1):Nat):Int):=ajk;by_cases f:d=m
     .have Rj:iU S (k+1+j+1)=iU S (k+1+j):=by rw[iU,if_pos ⟨ajk,by rw[P2,c,f]⟩]
      conv=>whnf
      repeat' (first| intro g| refine wi r1 ?_| refine wi r2 ?_| refine st ?_| refine br ?_ ?_<;>intro hc| rfl) <;>conv=>whnf
      have hs:k+1+(j+1)=k+1+j+1:=ajk;exact aR.mk (w,j+1,A) om ⟨Fu,ajk,ajk,ajk,hAl,by rw[hs,Rj,P5],by rw[hs,Rj,iM],fun i hi=>hAs i ajk⟩ su
     have Rj:iU S (k+1+j+1)=iU S (k+1+j)++[d]:=by rw[iU,if_neg (fun h=>f (by rw[<-P2,<-c,h.2])),P2]
     conv=>whnf
     repeat' (first| intro g| refine wi r1 ?_| refine wi r2 ?_| refine st ?_| refine br ?_ ?_<;>intro hc| rfl) <;>conv=>whnf
     have hs:k+1+(j+1)=k+1+j+1:=ajk;have B:w<A.length:=ajk;have C: (A.map vi).set (w:Int).toNat (vi d)=(A.set w d).map vi:=by simp[akl]
     refine aR.mk (w+1,j+1,A.set w d) om ⟨ajk,ajk,ajk,ajk,by simpa using hAl,?_,by rw[hs,Rj,List.length_append,iM];rfl,fun i hi=> ?_⟩ (by(refine⟨?_,?_⟩ <;>repeat' (first| exact True.intro| refine And.intro ((by(conv=>whnf);rw[C])) ?_| refine ai ?_| refine And.intro ?_ ?_)))
     .rw[hs,Rj,aj6,List.take_set_of_le (ajw _),P5];simp[B]
     rw[ak8 ajk];exact hAs i ajk
   have q:k+1+j=S.length:=ajk;rw[q] at P5 iM;have Y3: (kf S).length=w:=iM;have l:overwrite (A.map vi) (0+(w:Int).toNat) (List.replicate (S.length - (w:Int).toNat) (V.int .i64 0))=(eP S).map vi:=by have D: (w:Int).toNat=w:=ajl;unfold overwrite eP;rw[D,akg,<-alx,P5,Y3,alr (by simp;omega)];simp[kf]
   have r: (eP S).length=S.length:=by unfold eP;simp[Y3];omega
   rw[Y3];conv=>whnf
   repeat' (first| intro g| refine nd ⟨akk _,by rw[l];simp[r];omega⟩ ?_| refine st ?_| refine br ?_ ?_<;>intro hc| rfl) <;>conv=>whnf
   rw[l];have F:=dO (eP S);exact dr
  have Rj:iU S (k+1)=S.take (k+1):=by rw[iU,if_neg (fun h=>P1 (by rw[<-P2,<-c,h.2])),e,P2,aj6,hx];rfl
  conv=>whnf
  repeat' (first| intro g| refine wi (aw hx rfl) ?_| refine wi (aw hy hw) ?_| refine st ?_| refine br ?_ ?_<;>intro hc| rfl) <;>conv=>whnf
  exact aR.mk (k+1) om ⟨ajk,ajk,Rj⟩ su
 obtain rfl:k=S.length:=ajk;have hs:kf S=S:=by unfold kf;rw[e];simp
 rw[same hs,hs];exact dr
theorem An {l:List Int} (h:l.length< 1000000):Ev E 132 [.msl 1 (l.map vi) 0 l.length] ⟨.tuple [],[(0,(eG l).map vi)]⟩:=
 Ev.ext (by rw[aci];have hl:l.length< 4611686018427387904:=ajk;simp only[Hf,List.length_map,if_true,AO,if_pos hl])
theorem dW (l:List Int): (eG l).length=l.length:=by rw[<-He];simp
def Km (l:List Int):List Int:=kf (eG l)
theorem Rm (l:List Int): (Km l).length<=l.length:=by have:=ye (eG l) (eG l).length;rw[dW] at this;unfold Km kf;rw[dW];exact this
theorem MA (S:List Int): (kf S).length<=S.length:=ye S S.length
theorem HB (S:List Int): (eP S).length=S.length:=by have:=MA S;simp[eP];omega
theorem Rp (S:List Int):aN ((eP S).map vi) 0 (kf S).length=(kf S).map vi:=by unfold eP;rw[ajV];exact sW rfl
theorem yf (S:List Int):0+(kf S).length<=((eP S).map vi).length/\V.al (aN ((eP S).map vi) 0 (kf S).length)=true:=
 ⟨by have:=MA S;have:=HB S;simp;omega,iw (dO _)⟩
theorem C7 {l:List Int} (h:l.length< 1000000):Ev E 510 [.msl 1 (l.map vi) 0 l.length] ⟨.sl 0 0 0 (Km l).length,[(0,(eP (eG l)).map vi)]⟩:=by
 have h1:=An h;have h2:=Bw (S:=eG l) (by rw[dW];exact h);rw[dW] at h2;have hp:=dO l;have Fz:=dO (eG l);have FA:=dO (eP (eG l));refine amM ?_;conv=>whnf
 repeat' (first| intro g| refine nd ⟨rfl,rfl,rfl,by simp[dW],dO _⟩ ?_| refine nd (yf _) ?_| apply ca h1| apply ca h2| refine st ?_| refine br ?_ ?_<;>intro hc| rfl) <;>conv=>whnf
def rJ (es:List aH) (a b:Int) (i:Nat):List Int:=((es.take i).filter (cJ a b)).map (·.id)
theorem Rq (es:List aH) (a b:Int) (i:Nat): (rJ es a b i).length<=i:=by unfold rJ;rw[List.length_map];exact ajQ (akA _ _) (by simp;omega)
def ct (es:List aH) (a b:Int):List Int:=Km (rJ es a b es.length)
theorem ado {L:List V} {e:aH} {i n g:Nat} {a b:Int} {A:List Int} {Q:aW->SS->Prop} (he:L[i]? =some e.v) (hn:L.length=n) (hi:i<n) (hb:n< 1000000) (ht:cJ a b e=false)
  (d: ∀T' O',SS.Sub ⟨[(1,vi a),(2,vi b),(7,.sl 129 g 0 A.length),(10,.lit 4 L),(11,au n),(12,au (i+1))],[(129,⟨g,1,true,false,some (A.map vi)⟩)]⟩ ⟨T',O'⟩->Q .normal ⟨T',O'⟩):
  mf E Mq ⟨[(1,vi a),(2,vi b),(7,.sl 129 g 0 A.length),(10,.lit 4 L),(11,au n),(12,au i)],[(129,⟨g,1,true,false,some (A.map vi)⟩)]⟩ Q:=by
 have c: ¬ (e.left=a/\e.right=b\/e.left=b/\e.right=a):=by simpa [cJ] using ht
 clear ht;by_cases h1:e.left=a
 .have h2: ¬e.right=b:=fun h=>c (.inl ⟨h1,h⟩);by_cases h3:e.left=b
  .have h4: ¬e.right=a:=fun h=>c (.inr ⟨h3,h⟩);clear c;conv=>whnf
   repeat' (first| intro g| refine wi he ?_| refine st ?_| refine br ?_ ?_<;>intro hc| rfl) <;>conv=>whnf
   exact d _ _ su
  clear c;conv=>whnf
  repeat' (first| intro g| refine wi he ?_| refine st ?_| refine br ?_ ?_<;>intro hc| rfl) <;>conv=>whnf
  exact d _ _ su
 by_cases h3:e.left=b
 .have h4: ¬e.right=a:=fun h=>c (.inr ⟨h3,h⟩);clear c;conv=>whnf
  repeat' (first| intro g| refine wi he ?_| refine st ?_| refine br ?_ ?_<;>intro hc| rfl) <;>conv=>whnf
  exact d _ _ su
 clear c;conv=>whnf
 repeat' (first| intro g| refine wi he ?_| refine st ?_| refine br ?_ ?_<;>intro hc| rfl) <;>conv=>whnf
 exact d _ _ su
theorem Y4 {L:List V} {e:aH} {i n g:Nat} {a b:Int} {A:List Int} {Q:aW->SS->Prop} (he:L[i]? =some e.v) (hn:L.length=n) (hi:i<n) (hb:n< 1000000) (hA:A.length<=i) (ht:cJ a b e=true)
  (c: ∀T' O' g',SS.Sub ⟨[(1,vi a),(2,vi b),(7,.sl 129 g' 0 (A++[e.id]).length),(10,.lit 4 L),(11,au n),(12,au (i+1))],[(129,⟨g',1,true,false,some ((A++[e.id]).map vi)⟩)]⟩ ⟨T',O'⟩->Q .normal ⟨T',O'⟩):
  mf E Mq ⟨[(1,vi a),(2,vi b),(7,.sl 129 g 0 A.length),(10,.lit 4 L),(11,au n),(12,au i)],[(129,⟨g,1,true,false,some (A.map vi)⟩)]⟩ Q:=by
 rcases DU ht with⟨h1,h2⟩ | ⟨h1,h2,h3,h4⟩ | ⟨h1,h3,h4⟩;all_goals
  clear ht;conv=>whnf
  repeat' (first| intro g| refine wi he ?_| refine st ?_| refine br ?_ ?_<;>intro hc| rfl) <;>conv=>whnf
  exact c _ _ _ su
theorem Kn {es:List aH} (hl:es.length< 1000000) (a b:Int):alH 495 [.lit 4 (es.map aH.v),vi a,vi b] (.own 1 ((ct es a b).map vi)):=by
 refine amM ?_;conv=>whnf
 repeat' (first| intro g| refine st ?_| refine br ?_ ?_<;>intro hc| rfl) <;>conv=>whnf
 refine aO.by (fun ((i,g):Nat×Nat)=> ⟨[(1,vi a),(2,vi b),(7,.sl 129 g 0 (rJ es a b i).length),(10,.lit 4 (es.map aH.v)),(11,au es.length),(12,au i)],[(129,⟨g,1,true,false,some ((rJ es a b i).map vi)⟩)]⟩) (fun (i,_)=>i<=es.length) (fun (i,_)=>es.length - i) (0,g) ?_ ajl ?_
 ·(refine⟨?_,?_⟩ <;>repeat' (first| exact True.intro| refine And.intro ((by(conv=>whnf);simp[rJ])) ?_| refine ai ?_| refine And.intro ?_ ?_))
 rintro⟨i,g⟩ hi
 try dsimp only at hi
 have c:=Rq es a b i;by_cases d:i<es.length
 .obtain⟨e,he⟩: ∃e,es[i]? =some e:=⟨_,aM d⟩;have h: (es.map aH.v)[i]? =some e.v:=by simp[he]
  have FE: (es.map aH.v).length=es.length:=ajl;cases ht:cJ a b e with
  | false=>
    have hn:rJ es a b (i+1)=rJ es a b i:=by simp[rJ,aj6,he,ht]
    refine ado h FE d hl ht fun T' O' hs=>aR.mk (i+1,g) om ajk ?_;simp only[hn];exact hs
  | true=>
    have hn:rJ es a b (i+1)=rJ es a b i++[e.id]:=by simp[rJ,aj6,he,ht]
    refine Y4 h FE d hl c ht fun T' O' j hs=>aR.mk (i+1,j) om ajk ?_;simp only[hn];exact hs
 obtain rfl:i=es.length:=ajk;have f:=C7 (l:=rJ es a b es.length) ajk;have hp:=dO (rJ es a b es.length);conv=>whnf
 repeat' (first| intro g| refine nd ⟨(yf (eG (rJ es a b es.length))).1,dO _⟩ ?_| refine wi (Rp (eG (rJ es a b es.length))) ?_| apply ca f| refine st ?_| refine br ?_ ?_<;>intro hc| rfl) <;>conv=>whnf
theorem HC (x0:Int): ∃r:Int,alH 283 [vi x0] (vi r):=by refine dJ (amN ?_);exact dr
noncomputable def Rs (x0:Int):Int:=(HC x0).choose
theorem VN (x0:Int):alH 283 [vi x0] (vi (Rs x0)):=(HC x0).choose_spec
theorem HD (x0:Int): ∃r:Int,alH 285 [vi x0] (.int .u64 r):=by refine dJ (amN ?_);exact dr
noncomputable def HE (x0:Int):Int:=(HD x0).choose
theorem VO (x0:Int):alH 285 [vi x0] (.int .u64 (HE x0)):=(HD x0).choose_spec
theorem zb (x0 x1:Int): ∃r:Int×Int,alH 284 [.int .u64 x0,.int .u64 x1] (.agg [.int .u64 r.1,.int .u64 r.2]):=by
 refine dJ (amN ?_);conv=>whnf
 repeat' (first| intro g| refine st ?_| refine br ?_ ?_<;>intro hc| rfl) <;>conv=>whnf
 all_goals exact⟨⟨_,_⟩,rfl⟩
noncomputable def wC (x0 x1:Int):Int×Int:=(zb x0 x1).choose
theorem Ko (x0 x1:Int):alH 284 [.int .u64 x0,.int .u64 x1] (.agg [.int .u64 (wC x0 x1).1,.int .u64 (wC x0 x1).2]):=(zb x0 x1).choose_spec
theorem zc (x0 x1 x2:Int): ∃r:Bool,alH 282 [vi x0,vi x1,vi x2] (.bool r):=by refine dJ (amN ?_);exact dr
noncomputable def Rt (x0 x1 x2:Int):Bool:=(zc x0 x1 x2).choose
theorem Kq (x0 x1 x2:Int):alH 282 [vi x0,vi x1,vi x2] (.bool (Rt x0 x1 x2)):=(zc x0 x1 x2).choose_spec
theorem MB (x0 x1 x2:Int): ∃r:Bool,alH 270 [.agg [vi x0,vi x1,vi x2]] (.bool r):=by
 refine dJ (amN ?_);conv=>whnf
 repeat' (first| intro g| apply ca (Kq _ _ _) | refine st ?_| refine br ?_ ?_<;>intro hc| rfl) <;>conv=>whnf
 all_goals exact⟨_,rfl⟩
noncomputable def ahv (x0 x1 x2:Int):Bool:=(MB x0 x1 x2).choose
theorem Y5 (x0 x1 x2:Int):alH 270 [.agg [vi x0,vi x1,vi x2]] (.bool (ahv x0 x1 x2)):=(MB x0 x1 x2).choose_spec
theorem zd (x0 x1 x2:Int): ∃r:Bool,alH 198 [.agg [vi x0,vi x1,vi x2]] (.bool r):=by refine dJ (amN ?_);exact dr
noncomputable def HF (x0 x1 x2:Int):Bool:=(zd x0 x1 x2).choose
theorem By (x0 x1 x2:Int):alH 198 [.agg [vi x0,vi x1,vi x2]] (.bool (HF x0 x1 x2)):=(zd x0 x1 x2).choose_spec
theorem s8 (x y:Int):alH 199 [.agg [vi x,vi y]] (.agg [vi x,vi y,vi 1]):=by refine amM ?_;exact dr
theorem DW (x0 x1 x2 x3:Int): ∃r:Int,alH 271 [vi x0,vi x1,vi x2,vi x3] (vi r):=by
 refine dJ (amN ?_);conv=>whnf
 repeat' (first| intro g| apply ca (VN _) | apply ca (VO _) | apply ca (Ko _ _) | refine st ?_| refine br ?_ ?_<;>intro hc| rfl) <;>conv=>whnf
 .exact⟨_,rfl⟩
 rename_i a;generalize e:wC (HE x0) (HE x1)=u;generalize hv:wC (HE x2) (HE x3)=v;obtain⟨b,c⟩:=u;obtain⟨v0,d⟩:=v;generalize hs:IntKind.i64.wrap (Rs x0*Rs x1)=s;refine aO.by (fun (k:Nat)=> ⟨[(9,vi s),(11,.ptr 192 a 0 0),(12,.ptr 208 g 0 0),(13,au k)],[(192,⟨a,2,false,false,some [.agg [.int .u64 b,.int .u64 c]]⟩),(208,⟨g,2,false,false,some [.agg [.int .u64 v0,.int .u64 d]]⟩)]⟩)
  (fun k=>k<=2) (fun k=>2 - k) 0 su om ?_
 intro k f;rcases(by omega:k=0\/k=1\/k=2) with rfl| rfl| rfl
 .conv=>whnf
  repeat' (first| intro g| refine st ?_| refine br ?_ ?_<;>intro hc| rfl) <;>conv=>whnf
  all_goals first| exact⟨_,rfl⟩ | exact aR.mk 1 om om su
 .conv=>whnf
  repeat' (first| intro g| refine st ?_| refine br ?_ ?_<;>intro hc| rfl) <;>conv=>whnf
  all_goals first| exact⟨_,rfl⟩ | exact aR.mk 2 om om su
 conv=>whnf
 repeat' (first| intro g| refine st ?_| refine br ?_ ?_<;>intro hc| rfl) <;>conv=>whnf
 exact⟨_,rfl⟩
noncomputable def Y6 (x0 x1 x2 x3:Int):Int:=(DW x0 x1 x2 x3).choose
theorem HG (x0 x1 x2 x3:Int):alH 271 [vi x0,vi x1,vi x2,vi x3] (vi (Y6 x0 x1 x2 x3)):=(DW x0 x1 x2 x3).choose_spec
theorem MC (x0 x1 x2 x3:Int): ∃r:Int,alH 238 [.agg [vi x0,vi x1],.agg [vi x2,vi x3]] (vi r):=by
 refine dJ (amN ?_);conv=>whnf
 repeat' (first| intro g| apply ca (HG _ _ _ _) | refine st ?_| refine br ?_ ?_<;>intro hc| rfl) <;>conv=>whnf
 all_goals exact⟨_,rfl⟩
noncomputable def ahw (x0 x1 x2 x3:Int):Int:=(MC x0 x1 x2 x3).choose
theorem Kr (x0 x1 x2 x3:Int):alH 238 [.agg [vi x0,vi x1],.agg [vi x2,vi x3]] (vi (ahw x0 x1 x2 x3)):=(MC x0 x1 x2 x3).choose_spec
theorem DX (x0 x1 x2 x3 x4:Int): ∃r:Int,alH 236 [vi x0,.agg [vi x1,vi x2],.agg [vi x3,vi x4]] (vi r):=by
 refine dJ (amN ?_);conv=>whnf
 repeat' (first| intro g| apply ca (Kr _ _ _ _) | refine st ?_| refine br ?_ ?_<;>intro hc| rfl) <;>conv=>whnf
 all_goals exact⟨_,rfl⟩
noncomputable def Y7 (x0 x1 x2 x3 x4:Int):Int:=(DX x0 x1 x2 x3 x4).choose
theorem Ru (x0 x1 x2 x3 x4:Int):alH 236 [vi x0,.agg [vi x1,vi x2],.agg [vi x3,vi x4]] (vi (Y7 x0 x1 x2 x3 x4)):=(DX x0 x1 x2 x3 x4).choose_spec
theorem DY (x0 x1 x2 x3 x4:Int): ∃r:Bool,alH 237 [.agg [vi x0,vi x1,vi x2],.agg [vi x3,vi x4]] (.bool r):=by
 refine dJ (amN ?_);conv=>whnf
 repeat' (first| intro g| apply ca (Kr _ _ _ _) | refine st ?_| refine br ?_ ?_<;>intro hc| rfl) <;>conv=>whnf
 all_goals exact⟨_,rfl⟩
noncomputable def Y8 (x0 x1 x2 x3 x4:Int):Bool:=(DY x0 x1 x2 x3 x4).choose
theorem Rv (x0 x1 x2 x3 x4:Int):alH 237 [.agg [vi x0,vi x1,vi x2],.agg [vi x3,vi x4]] (.bool (Y8 x0 x1 x2 x3 x4)):=(DY x0 x1 x2 x3 x4).choose_spec
theorem wD (x0 x1 x2 x3 x4 x5 x6 x7 x8:Int): ∃r:Int,alH 235 [.agg [vi x0,vi x1,vi x2],.agg [vi x3,vi x4,vi x5],.agg [vi x6,vi x7,vi x8]] (vi r):=by
 refine dJ (amN ?_);conv=>whnf
 repeat' (first| intro g| apply ca (Y5 _ _ _) | apply ca (HG _ _ _ _) | refine st ?_| refine br ?_ ?_<;>intro hc| rfl) <;>conv=>whnf
 all_goals exact⟨_,rfl⟩
noncomputable def NW (x0 x1 x2 x3 x4 x5 x6 x7 x8:Int):Int:=(wD x0 x1 x2 x3 x4 x5 x6 x7 x8).choose
theorem rK (x0 x1 x2 x3 x4 x5 x6 x7 x8:Int):alH 235 [.agg [vi x0,vi x1,vi x2],.agg [vi x3,vi x4,vi x5],.agg [vi x6,vi x7,vi x8]] (vi (NW x0 x1 x2 x3 x4 x5 x6 x7 x8)):=(wD x0 x1 x2 x3 x4 x5 x6 x7 x8).choose_spec
theorem Rw (x0 x1 x2 x3 x4 x5 x6 x7:Int): ∃r:Bool,alH 200 [.agg [vi x0,vi x1,vi x2],.agg [vi x3,vi x4,vi x5],.agg [vi x6,vi x7]] (.bool r):=by
 refine dJ (amN ?_);conv=>whnf
 repeat' (first| intro g| apply ca (s8 _ _) | apply ca (rK _ _ _ _ _ _ _ _ _) | apply ca (Ru _ _ _ _ _) | refine st ?_| refine br ?_ ?_<;>intro hc| rfl) <;>conv=>whnf
 all_goals exact⟨_,rfl⟩
noncomputable def onF (x0 x1 x2 x3 x4 x5 x6 x7:Int):Bool:=(Rw x0 x1 x2 x3 x4 x5 x6 x7).choose
theorem adp (x0 x1 x2 x3 x4 x5 x6 x7:Int):alH 200 [.agg [vi x0,vi x1,vi x2],.agg [vi x3,vi x4,vi x5],.agg [vi x6,vi x7]] (.bool (onF x0 x1 x2 x3 x4 x5 x6 x7)):=(Rw x0 x1 x2 x3 x4 x5 x6 x7).choose_spec
theorem ze (x0 x1 x2 x3 x4 x5 x6 x7:Int): ∃r:Int,alH 201 [.agg [vi x0,vi x1,vi x2],.agg [vi x3,vi x4,vi x5],.agg [vi x6,vi x7]] (vi r):=by
 refine dJ (amN ?_);conv=>whnf
 repeat' (first| intro g| apply ca (s8 _ _) | apply ca (Rv _ _ _ _ _) | apply ca (rK _ _ _ _ _ _ _ _ _) | refine st ?_| refine br ?_ ?_<;>intro hc| rfl) <;>conv=>whnf
 all_goals exact⟨_,rfl⟩
noncomputable def HH (x0 x1 x2 x3 x4 x5 x6 x7:Int):Int:=(ze x0 x1 x2 x3 x4 x5 x6 x7).choose
theorem Ks (x0 x1 x2 x3 x4 x5 x6 x7:Int):alH 201 [.agg [vi x0,vi x1,vi x2],.agg [vi x3,vi x4,vi x5],.agg [vi x6,vi x7]] (vi (HH x0 x1 x2 x3 x4 x5 x6 x7)):=(ze x0 x1 x2 x3 x4 x5 x6 x7).choose_spec
theorem Bz (x0 x1 x2 x3 x4 x5 x6 x7 x8 x9 NX NY NZ N3:Int): ∃r:Bool,alH 202 [.agg [vi x0,vi x1,vi x2,vi x3,vi x4,vi x5,vi x6],.agg [vi x7,vi x8,vi x9,vi NX,vi NY,vi NZ,vi N3]] (.bool r):=by
 refine dJ (amN ?_);conv=>whnf
 repeat' (first| intro g| apply ca (Kr _ _ _ _) | apply ca (rK _ _ _ _ _ _ _ _ _) | refine st ?_| refine br ?_ ?_<;>intro hc| rfl) <;>conv=>whnf
 all_goals exact⟨_,rfl⟩
noncomputable def VP (x0 x1 x2 x3 x4 x5 x6 x7 x8 x9 NX NY NZ N3:Int):Bool:=(Bz x0 x1 x2 x3 x4 x5 x6 x7 x8 x9 NX NY NZ N3).choose
theorem DZ (x0 x1 x2 x3 x4 x5 x6 x7 x8 x9 NX NY NZ N3:Int):alH 202 [.agg [vi x0,vi x1,vi x2,vi x3,vi x4,vi x5,vi x6],.agg [vi x7,vi x8,vi x9,vi NX,vi NY,vi NZ,vi N3]] (.bool (VP x0 x1 x2 x3 x4 x5 x6 x7 x8 x9 NX NY NZ N3)):=(Bz x0 x1 x2 x3 x4 x5 x6 x7 x8 x9 NX NY NZ N3).choose_spec
theorem sk1 {α β:Type} {P:α->β->Prop} (h: ∀a,∃b,P a b): ∃F:α->β,∀a,P a (F a):=⟨fun a=> (h a).choose,fun a=> (h a).choose_spec⟩
theorem sk2 {α α2 β:Type} {P:α->α2->β->Prop} (h: ∀a b,∃c,P a b c): ∃F:α->α2->β,∀a b,P a b (F a b):=⟨fun a b=> (h a b).choose,fun a b=> (h a b).choose_spec⟩
end Go.AM
