/- Texts of the proof. -/
import Derived.Test.YtdldmebldkgcnaaGreatGah
set_option maxRecDepth 20000
set_option maxHeartbeats 8000000
set_option linter.unusedSimpArgs false
set_option linter.unusedVariables false
namespace Go.AM
def HQ (e:Event):Prop:=1≤e.at_∧e.at_≤1024
theorem ov {n f:Nat} {fg:List V} {r:eZ} (hf:E.hyb f=none) (h:call E n f fg=some r):eM E (exec E n) f fg=some r:=by
 unfold call dt at h
 rw[hf] at h
 exact h
theorem DN (d:Int): ∀ (k:Nat) {m:aI} (b:Int) (evs:List Event),m.Bd→(∀e ∈ evs,HQ e)→ ∃ (N:Nat) (r:List Event),r.length≤evs.length+k∧(∀e ∈ r,HQ e)∧ ∀M,N≤M→gH (eM E (exec E M)) d k m.v b (evs.map Event.v)=some (r.map Event.v)
 | 0,m,b,evs,_,he=> ⟨0,evs,abV,he,fun _ _=>rfl⟩
 | k+1,m,b,evs,hm,he=>by
   obtain⟨e,ok,⟨n1,h1⟩,kj⟩:=Ol hm d b
   cases ok with
   | false=>
     refine⟨n1,evs,abV,he,fun M hM=> ?_⟩
     have c1:=ov (n:=M) rfl (ec hM _ _ _ h1)
     unfold gH
     rw[show eM E (exec E M) 644 [m.v,.int .i64 d,.int .i64 b]=_ from c1]
     rfl
   | true=>
     obtain⟨M2,c,⟨n2,h2⟩,tO⟩:=HM hm e
     have vC:kS M2.v=true:=rfl
     by_cases hc:c=0
     ·subst hc
      obtain⟨n3,r,wH,pT,VM⟩:=DN d k (m:=M2) e.at_ (evs++[e]) tO (fun x hx=>by
       rcases ai6.1 hx with hx| hx
       ·exact he x hx
       ·rw[ajC.1 hx];exact kj rfl)
      refine⟨max n1 (max n2 n3),r,by simp at wH;omega,pT,fun M hM=> ?_⟩
      have c1:=ov (n:=M) rfl (ec abV _ _ _ h1)
      have c2:=ov (n:=M) rfl (ec abV _ _ _ h2)
      have c3:=VM M abV
      unfold gH
      rw[show eM E (exec E M) 644 [m.v,.int .i64 d,.int .i64 b]=_ from c1]
      simp only[show JD e.v=some e.at_ from rfl,show eM E (exec E M) 645 [m.v,e.v]=_ from c2]
      rw[ajk] at c3
      rw[if_pos vC,if_pos trivial]
      exact c3
     ·refine⟨max n1 n2,evs,abV,he,fun M hM=> ?_⟩
      have c1:=ov (n:=M) rfl (ec abV _ _ _ h1)
      have c2:=ov (n:=M) rfl (ec abV _ _ _ h2)
      unfold gH
      rw[show eM E (exec E M) 644 [m.v,.int .i64 d,.int .i64 b]=_ from c1]
      simp only[show JD e.v=some e.at_ from rfl,show eM E (exec E M) 645 [m.v,e.v]=_ from c2]
      rw[if_pos vC,if_neg hc]
theorem Sp {m:aI} (h:m.Bd) (d:Int): ∃evs:List Event,evs.length≤200∧(∀e ∈ evs,HQ e)∧Ev E 622 [m.v,vi d] ⟨Gy d (evs.map Event.v),[]⟩:=by
 obtain⟨N,r,h1,h2,h3⟩:=DN d 200 0 [] h abW
 refine⟨r,by simpa using h1,h2,N,?_⟩
 unfold call dt
 rw[show E.hyb 622=some zO from rfl]
 show zO (eM E (exec E N)) [m.v,vi d]=_
 unfold zO
 simp only[vi]
 rw[if_pos (show kS m.v=true from rfl)]
 rw[show gH (eM E (exec E N)) d 200 m.v 0 []=some (r.map Event.v) from h3 N (aiZ _)]
 rfl
theorem Sq {m:aI} (h:m.Bd): ∃l:List Int,l.length≤1000∧Ev E 96 [m.v] ⟨.own 1 (l.map vi),[]⟩:=by
 suffices hh: ∃res,Ev E 96 [m.v] res∧ ∃l:List Int,l.length≤1000∧res=⟨.own 1 (l.map vi),[]⟩ by
  obtain⟨_,h1,l,h2,rfl⟩:=hh
  exact⟨l,h2,h1⟩
 have e1:=h.f
 have e2:=h.w
 have e3:=h.p
 refine Ev.bD rfl rfl rfl ?_
 conv=>whnf
 repeat' (first| intro g| refine st ?_| refine br ?_ ?_<;>intro hc| rfl) <;>conv=>whnf
 rename_i PV
 obtain⟨g0,Ck⟩: ∃x,x=g:=⟨_,rfl⟩
 rw[←Ck];clear Ck g
 refine aL.by (fun ((k,L,g):Nat×List Int×Nat)=> ⟨[(1,.ptr 32 PV 0 0),(3,.sl 65 g 0 L.length),(11,.lit 5 (m.an.map aW.v)),(12,av m.an.length),(13,av k)],[(32,⟨PV,4,false,false,some [m.v]⟩),(65,⟨g,1,true,false,some (L.map vi)⟩)]⟩)
  (fun (k,L,_)=>k≤m.an.length∧L.length≤k) (fun (k,_)=>m.an.length - k) (0,[],g0) su ⟨abW,abW⟩ ?_
 rintro⟨k,L,gl⟩ ⟨hk,hL⟩
 try dsimp only at hk hL
 by_cases bl:k<m.an.length
 ·obtain⟨x,hx⟩: ∃x,m.an[k]? =some x:=⟨_,aH bl⟩
  conv=>whnf
  repeat' (first| intro g| refine wi (aq hx rfl) ?_| refine st ?_| refine br ?_ ?_<;>intro hc| rfl) <;>conv=>whnf
  exact aK.mk (k+1,L++[x.bG],g) om ⟨abV,by simp;omega⟩ su
 conv=>whnf
 repeat' (first| intro g| refine st ?_| refine br ?_ ?_<;>intro hc| rfl) <;>conv=>whnf
 refine aL.by (fun ((k,L,g):Nat×List Int×Nat)=> ⟨[(1,.ptr 32 PV 0 0),(3,.sl 65 g 0 L.length),(24,.lit 8 (m.ways.map Way.v)),(25,av m.ways.length),(26,av k)],[(32,⟨PV,4,false,false,some [m.v]⟩),(65,⟨g,1,true,false,some (L.map vi)⟩)]⟩)
  (fun (k,L,_)=>k≤m.ways.length∧L.length≤36+k) (fun (k,_)=>m.ways.length - k) (0,L,gl) su ⟨abW,abV⟩ ?_
 clear hk hL bl
 rintro⟨k,L,gl⟩ ⟨hk,hL⟩
 try dsimp only at hk hL
 by_cases bl:k<m.ways.length
 ·obtain⟨x,hx⟩: ∃x,m.ways[k]? =some x:=⟨_,aH bl⟩
  conv=>whnf
  repeat' (first| intro g| refine wi (aq hx rfl) ?_| refine st ?_| refine br ?_ ?_<;>intro hc| rfl) <;>conv=>whnf
  exact aK.mk (k+1,L++[x.bG],g) om ⟨abV,by simp;omega⟩ su
 conv=>whnf
 repeat' (first| intro g| refine st ?_| refine br ?_ ?_<;>intro hc| rfl) <;>conv=>whnf
 refine aL.by (fun ((k,L,g):Nat×List Int×Nat)=> ⟨[(1,.ptr 32 PV 0 0),(3,.sl 65 g 0 L.length),(37,.lit 7 (m.az.map Place.v)),(38,av m.az.length),(39,av k)],[(32,⟨PV,4,false,false,some [m.v]⟩),(65,⟨g,1,true,false,some (L.map vi)⟩)]⟩)
  (fun (k,L,_)=>k≤m.az.length∧L.length≤48+k) (fun (k,_)=>m.az.length - k) (0,L,gl) su ⟨abW,abV⟩ ?_
 clear hk hL bl
 rintro⟨k,L,gl⟩ ⟨hk,hL⟩
 try dsimp only at hk hL
 by_cases bl:k<m.az.length
 ·obtain⟨x,hx⟩: ∃x,m.az[k]? =some x:=⟨_,aH bl⟩
  conv=>whnf
  repeat' (first| intro g| refine wi (aq hx rfl) ?_| refine st ?_| refine br ?_ ?_<;>intro hc| rfl) <;>conv=>whnf
  exact aK.mk (k+1,L++[x.bG],g) om ⟨abV,by simp;omega⟩ su
 have h1:=zt (l:=L) abV
 have h2:=Av (S:=ew L) (by rw[dG];omega)
 rw[dG] at h2
 have hp:=dw L
 have ET:=dw (ew L)
 have JS:=dw (eu (ew L))
 conv=>whnf
 repeat' (first| intro g| refine nd ⟨rfl,rfl,rfl,by simp[dG],dw _⟩ ?_| refine nd (xe _) ?_| apply ca h1| apply ca h2| refine st ?_| refine br ?_ ?_<;>intro hc| rfl) <;>conv=>whnf
 refine⟨((eu (ew L)).drop 0).take (jH (ew L)).length,?_,by rw[gG]⟩
 have:=QX L
 unfold J3 at this
 rw[ajg]
 omega
theorem zA {m:aI} (h:m.Bd): ∃l:List dn,l.length≤1000∧(∀x ∈ l,x.evs.length≤200∧ ∀e ∈ x.evs,HQ e)∧Ev E 607 [m.v] ⟨.own 2 (l.map dn.v),[]⟩:=by
 suffices hh: ∃res,Ev E 607 [m.v] res∧ ∃l:List dn,l.length≤1000∧(∀x ∈ l,x.evs.length≤200∧ ∀e ∈ x.evs,HQ e)∧res=⟨.own 2 (l.map dn.v),[]⟩ by
  obtain⟨_,h1,l,h2,h3,rfl⟩:=hh
  exact⟨l,h2,h3,h1⟩
 obtain⟨ds,hd,h1⟩:=Sq h
 have hm:bz E 622=[]:=rfl
 have hp: ∀x,V.al [m.v,vi x]=true:=fun _=>rfl
 refine Ev.bD rfl rfl rfl ?_
 conv=>whnf
 repeat' (first| intro g| apply ca h1| refine st ?_| refine br ?_ ?_<;>intro hc| rfl) <;>conv=>whnf
 rename_i PV
 obtain⟨g0,Ck⟩: ∃x,x=g:=⟨_,rfl⟩
 rw[←Ck];clear Ck g
 refine aL.by (fun ((k,l,gl):Nat×List dn×Nat)=> ⟨[(1,.ptr 32 PV 0 0),(2,.sl 49 gl 0 l.length),(6,.lit 1 (ds.map vi)),(7,av ds.length),(8,av k)],[(32,⟨PV,4,false,false,some [m.v]⟩),(49,⟨gl,2,true,false,some (l.map dn.v)⟩)]⟩)
  (fun (k,l,_)=>k≤ds.length∧l.length≤k∧ ∀x ∈ l,x.evs.length≤200∧ ∀e ∈ x.evs,HQ e) (fun (k,_)=>ds.length - k) (0,[],g0) su ⟨abW,abW,abW⟩ ?_
 rintro⟨k,l,gl⟩ ⟨hk,hl,kY⟩
 try dsimp only at hk hl kY
 by_cases bl:k<ds.length
 ·obtain⟨x,hx⟩: ∃x,ds[k]? =some x:=⟨_,aH bl⟩
  obtain⟨es,h2,h3,h4⟩:=Sp h x
  have ahc: ∀y ∈ l++[dn.mk x es],y.evs.length≤200∧ ∀e ∈ y.evs,HQ e:=fun y hy=>by
   rcases ai6.1 hy with hy| hy
   ·exact kY y hy
   ·rw[ajC.1 hy];exact⟨h2,h3⟩
  have hi:PT (Gy x (es.map Event.v)) (dn.mk x es).v:=by
   cases es with
   | nil=>exact fun _ _=>rfl
   | cons e es=>exact fun _ _=>rfl
  conv=>whnf
  repeat' (first| refine kB hm (hp _) h4 hi ?_| intro g| refine wi (aq hx rfl) ?_| refine st ?_| refine br ?_ ?_<;>intro hc| rfl) <;>conv=>whnf
  exact aK.mk (k+1,l++[dn.mk x es],g) om ⟨abV,by simp;omega,ahc⟩ su
 ·conv=>whnf
  repeat' (first| intro g| refine st ?_| refine br ?_ ?_<;>intro hc| rfl) <;>conv=>whnf
  exact⟨l,abV,kY,rfl⟩
end Go.AM
namespace Go.AM
theorem acU {a b:dj} (h:CG a b=true):gC (gC (gC (a.x - b.x)*gC (a.x - b.x))+gC (gC (a.y - b.y)*gC (a.y - b.y)))=Gk a b:=by
 have hs:=Fj h
 simp only[CG,Bool.and_eq_true] at h
 have h1:=vB h.1;have h2:=vB h.2
 have k1:=Fi (x:=a.x - b.x) abV abV
 have k2:=Fi (x:=a.y - b.y) abV abV
 rw[wV (n:=a.x - b.x) abV abV,wV (n:=a.y - b.y) abV abV,wV (n:=(a.x - b.x)*(a.x - b.x)) abV abV,wV (n:=(a.y - b.y)*(a.y - b.y)) abV abV,wV abV abV]
 rfl
end Go.AM
namespace Go.AM
end Go.AM
namespace Go.AM
end Go.AM
namespace Go.AM
end Go.AM
namespace Go.AM
structure aI.Sm (m:aI):Prop where
 e:m.aB.length< 1000
 f:m.an.length< 1000
 w:m.ways.length< 1000
 p:m.az.length< 1000
 el: ∀e ∈ m.aB,e.line.length< 1000
 wl: ∀w ∈ m.ways,w.line.length< 1000
def yt (es:List Edge) (id:Int):Int:=firstIdx (fun e=>decide (e.id=id)) es
end Go.AM
namespace Go.AM
end Go.AM
namespace Go.AM
theorem AX {h:dn} {id:Int} (hk:pL h id= -1):gL h id=1024:=by unfold gL;rw[hk];rfl
theorem AY {h:dn} {id:Int} (hk:pL h id=0):gL h id=0:=by unfold gL;rw[hk];rfl
theorem AZ {h:dn} {id:Int} {k:Nat} {e:Event} (hk:pL h id=((k+1:Nat):Int)) (he:h.evs[k]? =some e):gL h id=if e.at_< 0∨1024 <e.at_ then 0 else e.at_:=by
 unfold gL
 rw[hk,if_neg abV,if_neg abV]
 have: ((k+1:Nat):Int).toNat - 1=k:=abV
 rw[this]
 simp[ajB,he]
theorem Sr {l:List dj} (hl:l.length< 1000000):Ev E 598 [.lit 6 (l.map dj.v),.lit 6 (l.map dj.v)] ⟨.bool true,[]⟩:=by
 refine Ev.aD rfl rfl rfl ?_
 conv=>whnf
 repeat' (first| ((exfalso;omega)) | intro g| refine st ?_| refine br ?_ ?_<;>intro hc| rfl) <;>conv=>whnf
 refine aL.by (fun k:Nat=> ⟨[(0,.lit 6 (l.map dj.v)),(1,.lit 6 (l.map dj.v)),(5,av k)],[]⟩) (fun k=>k≤l.length) (fun k=>l.length - k) 0 su abV ?_
 rintro k hk
 by_cases bl:k<l.length
 ·obtain⟨x,hx⟩: ∃x,l[k]? =some x:=⟨_,aH bl⟩
  conv=>whnf
  repeat' (first| intro g| refine wi (aq hx rfl) ?_| refine st ?_| refine br ?_ ?_<;>intro hc| rfl) <;>conv=>whnf
  exact aK.mk (k+1) om abV su
 ·exact aiN
theorem Zs (s:Ah):Ev E 604 [.str s] ⟨vi (Zq s),[]⟩:=by
 refine Ev.aD rfl rfl rfl ?_
 exact aiN
theorem jv {α:Type} {l:List α} {k:Nat} {x:α} (h:l[k]? =some x):l.take (k+1)=l.take k++[x]:=by
 rw[ajt,h];rfl
theorem KG {l:List dj} {y:dj} {q:Int} (h:0 <y.iG∧q≤y.iG*y.iG):cY (l++[y]) q=cY l q++[y.id]:=by
 unfold cY;rw[List.filter_append];simp[h]
theorem DO {l:List dj} {y:dj} {q:Int} (h: ¬ (0 <y.iG∧q≤y.iG*y.iG)):cY (l++[y]) q=cY l q:=by
 unfold cY;rw[List.filter_append];simp[h]
theorem pg (l:List dj) (q:Int): (cY l q).length≤l.length:=by
 unfold cY;rw[List.length_map];exact List.length_filter_le _ _
theorem Zt {u:Int} (h0:0 <u) (h1:u≤1024):0≤u*u∧u*u≤1048576:=⟨ajE abV abV,aka (c:=1024) (d:=1024) h1 h1 abV abV⟩
end Go.AM
namespace Go.AM
theorem Ov {l:List Place} {x:Place} (h:x.name≠[]):named (l++[x])=named l++[x]:=by unfold named;rw[List.filter_append];simp[h]
theorem Ss {l:List Place} {x:Place} (h:x.name=[]):named (l++[x])=named l:=by unfold named;rw[List.filter_append];simp[h]
theorem Ow (l:List Place): (named l).length≤l.length:=List.length_filter_le _ _
end Go.AM
namespace Go.AM
theorem KH (l:List dn) (ps:List Place) (p:Place):cn l (ps++[p])=cn l ps++[yw l (cn l ps) p]:=by unfold cn;rw[List.foldl_append];rfl
theorem lS (l:List dn) (ps:List Place): (cn l ps).length=ps.length:=by
 have: ∀ (ps:List Place) (out:List dj),(ps.foldl (fun mw p=>mw++[yw l mw p]) out).length=out.length+ps.length:=by
  intro ps
  induction ps with
  | nil=>intro out;simp
  | cons p ps ih=>intro out;rw[akd,ih];simp;omega
 simpa [cn] using this ps []
theorem A0 (ps:List Place): (bX ps).length≤ps.length:=by unfold bX;rw[eD];exact Ow _
def A3 (p:Place) (u:Int):dj:=⟨p.id,p.x,p.y,Zq p.name,p.name,u⟩
end Go.AM
namespace Go.AM
def Xt (p:Pt):Prop:=(-16384≤p.x∧p.x≤16384)∧ -16384≤p.y∧p.y≤16384
instance (p:Pt):Decidable (Xt p):=by unfold Xt;infer_instance
theorem AH {l:List Int} {g:Nat} {caps:List V} (hc:V.al caps=true) {p:Int→Bool} (hlen:l.length< 4611686018427387904)
  (hp: ∀x:Int,Ev E g (vi x::caps) ⟨.bool (p x),[]⟩) (hm:bz E g=[]):Ev E 259 [.lit 1 (l.map vi),.fn g caps] ⟨.bool (decide (0≤firstIdx p l)),[]⟩:=by
 exact qg (a:=false) (j:=280) (fun _=>rfl) (fun _=>rfl) hc hlen hp hm
theorem Ox {α:Type} (p:α→Bool) (l:List α):decide (0≤firstIdx p l)=l.any p:=by
 rcases cI p l with⟨h,k⟩ | ⟨i,x,h,k,hp⟩
 ·rw[h]
  symm
  rw[show decide ((0:Int)≤ -1)=false from rfl,List.any_eq_false]
  intro x hx
  obtain⟨i,hi,rfl⟩:=List.getElem_of_mem hx
  simp[k i _ (aH hi)]
 ·rw[h]
  symm
  rw[decide_eq_true abV,List.any_eq_true]
  exact⟨x,List.mem_of_getElem? k,hp⟩
theorem Ro {n:Int} (h0:0≤n) (h1:n≤1152921504606846976) (x:Int):Ev E 260 [vi x,.eptr (vi n) 0] ⟨.bool (decide (x< -n∨n<x)),[]⟩:=by
 have hw:IntKind.i64.wrap (0 - n)= -n:=wt
 refine Ev.aD rfl rfl rfl ?_
 conv=>whnf
 repeat' (first| intro g| refine st ?_| refine br ?_ ?_<;>intro hc| rfl) <;>conv=>whnf
 ·rw[hw] at hc
  rw[decide_eq_true (Or.inl hc)]
 ·rw[hw] at hc
  simp[hc]
theorem Oy {n:Int} (h0:0≤n) (h1:n≤1152921504606846976) (x y:Int):Ev E 227 [vi n,.lit 1 [vi x,vi y]] ⟨.bool (decide ((-n≤x∧x≤n)∧ -n≤y∧y≤n)),[]⟩:=by
 have h:Ev E 259 [.lit 1 [vi x,vi y],.fn 260 [.eptr (vi n) 0]] ⟨_,[]⟩:=AH (l:=[x,y]) (caps:=[.eptr (vi n) 0]) rfl abW (Ro h0 h1) rfl
 rw[Ox] at h
 have e: (!([x,y].any fun x=>decide (x< -n∨n<x)))=decide ((-n≤x∧x≤n)∧ -n≤y∧y≤n):=by
  rw[akf]
  simp only[List.any_cons,List.any_nil,Bool.or_false,ajJ,Bool.or_eq_false_iff,decide_eq_false_iff_not,decide_eq_true_eq]
  omega
 refine Ev.aD rfl rfl rfl ?_
 rw[←e]
 exact aiN
def acV (p:Pt):Prop:=(-1152921504606846976≤p.x∧p.x≤1152921504606846976)∧ -1152921504606846976≤p.y∧p.y≤1152921504606846976
instance (p:Pt):Decidable (acV p):=by unfold acV;infer_instance
theorem tN (p:Pt):Ev E 189 [p.v] ⟨.bool (decide (Xt p)),[]⟩:=by
 have h:=Oy (n:=16384) abV abV p.x p.y
 refine Ev.aD rfl rfl rfl ?_
 exact aiN
def Jo (n:Int):Int:=if 0 <n then 1 else if n< 0 then -1 else 0
theorem wu {n:Int} (h0:0≤n) (h1:n< 18446744073709551616):IntKind.u64.wrap n=n:=by
 simp only[IntKind.wrap,IntKind.bits,IntKind.signed,Bool.false_and]
 simp
 omega
theorem VN {n:Int} (h0:0≤n) (h1:n< 4294967296):n.fdiv (2 ^ min (Int.toNat 32) IntKind.u64.bits)=0:=by
 have e: (2 ^ min (Int.toNat 32) IntKind.u64.bits:Int)=4294967296:=aiO
 rw[e,akG _ abV]
 exact Int.ediv_eq_zero_of_lt h0 h1
theorem Zu {n:Nat} (h1:n< 4294967296):IntKind.u64.wrap ↑(BitVec.ofInt IntKind.u64.bits (n:Int) &&&BitVec.ofInt IntKind.u64.bits 4294967295).toNat=(n:Int):=by
 have e: (BitVec.ofInt IntKind.u64.bits (n:Int) &&&BitVec.ofInt IntKind.u64.bits 4294967295).toNat=n:=by
  show (BitVec.ofInt 64 (n:Int) &&&BitVec.ofInt 64 ((4294967295:Nat):Int)).toNat=n
  rw[BitVec.toNat_and,akJ,akJ,BitVec.toNat_ofNat,BitVec.toNat_ofNat,akh abV,akh abV]
  have:=Nat.and_two_pow_sub_one_eq_mod n 32
  rw[show 2 ^ 32 - 1=4294967295 from rfl] at this
  rw[this]
  omega
 rw[e]
 exact wu abV abV
theorem Zv {a b:Nat} (h0:a≤40000) (h1:b≤40000):a*b≤1600000000:=Nat.mul_le_mul h0 h1
theorem oq (a:Int):Ev E 287 [vi a] ⟨vi (Jo a),[]⟩:=by
 have h:=dK a 0
 have e:kM a 0=Jo a:=by
  unfold kM Jo
  repeat' split
  all_goals omega
 rw[e] at h
 refine Ev.aD rfl rfl rfl ?_
 exact aiN
theorem size_eq {a:Int} (h0: -40000≤a) (h1:a≤40000): (a< 0→IntKind.u64.wrap (0 - IntKind.u64.wrap a)=(a.natAbs:Int))∧(¬a< 0→IntKind.u64.wrap a=(a.natAbs:Int)):=by
 constructor
 ·intro h
  simp only[IntKind.wrap,IntKind.bits,IntKind.signed,Bool.false_and]
  simp
  omega
 ·intro h
  rw[wu abV abV];omega
theorem vq {a:Int} (h0: -40000≤a) (h1:a≤40000):Ev E 299 [vi a] ⟨.int .u64 a.natAbs,[]⟩:=by
 refine Ev.aD rfl rfl rfl ?_
 conv=>whnf
 repeat' (first| intro g| refine st ?_| refine br ?_ ?_<;>intro hc| rfl) <;>conv=>whnf
 ·rw[(size_eq h0 h1).1 hc]
 ·rw[(size_eq h0 h1).2 hc]
section
variable {a b:Nat} (h0:a≤40000) (h1:b≤40000)
include h0 h1
theorem AE:Ev E 298 [.int .u64 a,.int .u64 b] ⟨.tuple [.int .u64 0,.int .u64 ((a*b:Nat):Int)],[]⟩:=by
 have hp:=Zv h0 h1
 have e: ((a*b:Nat):Int)=(a:Int)*b:=abW
 refine Ev.aD rfl rfl rfl ?_
 conv=>whnf
 repeat' (first| intro g| refine st ?_| refine br ?_ ?_<;>intro hc| rfl) <;>conv=>whnf
 have w0:IntKind.u64.wrap 0=0:=aiO
 have l0:=Zu (n:=0) abV
 simp only[Int.natCast_zero] at l0
 have wp:IntKind.u64.wrap ((a:Int)*b)=(a:Int)*b:=by rw[←e];exact wu abV abV
 simp only[VN (n:=(a:Int)) abV abV,VN (n:=(b:Int)) abV abV,Zu (n:=a) abV,Zu (n:=b) abV,Int.zero_mul,Int.mul_zero,w0,wp,VN (n:=(a:Int)*b) abV abV,VN (n:=0) abV abV,Int.add_zero,l0,e]
end
theorem AD (a:Int):Ev E 304 [.int .u64 a] ⟨.bool false,[]⟩:=by
 refine Ev.aD rfl rfl rfl ?_
 conv=>whnf
 repeat' (first| intro g| refine st ?_| refine br ?_ ?_<;>intro hc| rfl) <;>conv=>whnf
 simp
theorem vr (a b:Int):Ev E 300 [.int .u64 a,.int .u64 b] ⟨vi (kM a b),[]⟩:=by
 refine Ev.aD rfl rfl rfl ?_
 conv=>whnf
 repeat' (first| intro g| apply ca (AD _) | refine st ?_| refine br ?_ ?_<;>intro hc| rfl) <;>conv=>whnf
 all_goals (unfold kM;simp[*])
theorem VO (a:Int):Jo a=1∧0 <a∨Jo a=0∧a=0∨Jo a= -1∧a< 0:=by
 unfold Jo
 repeat' split
 all_goals omega
theorem E7 (b d:Int):Ev E 289 [.agg [.int .u64 0,.int .u64 b],.agg [.int .u64 0,.int .u64 d]] ⟨vi (kM b d),[]⟩:=by
 have h:=vr 0 0
 have h2:=vr b d
 have e:kM 0 0=0:=rfl
 rw[e] at h
 refine Ev.aD rfl rfl rfl ?_
 exact aiN
section
variable {a b:Int} (a0: -40000≤a) (a1:a≤40000) (b0: -40000≤b) (b1:b≤40000)
include a0 a1 b0 b1
theorem AF:Ev E 288 [vi a,vi b] ⟨.agg [.int .u64 0,.int .u64 ((a*b).natAbs:Int)],[]⟩:=by
 have h:=AE (a:=a.natAbs) (b:=b.natAbs) abV abV
 rw[←Int.natAbs_mul] at h
 have h1:=vq a0 a1
 have h2:=vq b0 b1
 refine Ev.aD rfl rfl rfl ?_
 exact aiN
variable {c d:Int} (c0: -40000≤c) (c1:c≤40000) (d0: -40000≤d) (d1:d≤40000)
include c0 c1 d0 d1
end
end Go.AM
namespace Go.AM
structure kD {α:Type} (b:α→α→Bool) (S post:List α) (x:α) (j:Nat) (L pre mid:List α):Prop where
 eq:L=pre++x:: (mid++post)
 hj:pre.length=j
 src:pre++mid=S
 up: ∀y ∈ mid,b x y=true
section
variable {α:Type} {b:α→α→Bool} {S L pre mid post:List α} {x:α} {j:Nat}
theorem kD.len (h:kD b S post x j L pre mid):L.length=S.length+1+post.length:=by
 rw[h.eq,←h.src];simp;omega
theorem kD.lej (h:kD b S post x j L pre mid):j≤S.length:=by
 rw[←h.src,←h.hj];simp
theorem kD.ahd (h:kD b S post x j L pre mid):L[j]? =some x:=by
 rw[h.eq,ajp (by have:=h.hj;omega),h.hj];simp
theorem kD.ahe {y:α} {HR:List α} (h:kD b S post x (j+1) L (HR++[y]) mid):L[j]? =some y:=by
 have:=h.hj
 simp at this
 rw[h.eq,ajR,ajp abV,this];simp
theorem kD.snoc (h:kD b S post x (j+1) L pre mid): ∃HR y,pre=HR++[y]:=by
 have:=h.hj
 rcases List.eq_nil_or_concat pre with rfl| ⟨l,c,rfl⟩
 ·simp at this
 ·exact⟨l,c,abW⟩
theorem kD.step {y:α} {HR:List α} (h:kD b S post x (j+1) L (HR++[y]) mid) (hc:b x y=true):kD b S post x j ((L.set (j+1) y).set j x) HR (y::mid) where
 eq:=by
  have hj:HR.length=j:=by have:=h.hj;simpa using this
  rw[h.eq]
  simp[List.set_append,hj]
 hj:=by have:=h.hj;simpa using this
 src:=by have:=h.src;simpa using this
 up:=fun z hz=>by
  rcases ai0.1 hz with rfl| hz
  ·exact hc
  ·exact h.up z hz
theorem kD.stop (h:kD b S post x j L pre mid) (hx: ∀y,pre.getLast?=some y→b x y=false):L=xl b x S++post:=by
 rw[←h.src,VL b h.up hx,h.eq];simp
end
def Rt (a b:Place):Int:=Nq (kM b.weight a.weight) (kM a.id b.id)
theorem HS (a b:Place):fm a b=decide (Rt a b< 0):=by
 unfold fm Rt Nq kM
 rw[akf]
 simp only[ajX,Bool.and_eq_true,decide_eq_true_eq]
 repeat' split
 all_goals omega
theorem VP (a b:Place):Ev E 633 [.any,a.v,b.v] ⟨vi (Rt a b),[]⟩:=by
 refine Ev.aD rfl rfl rfl ?_
 conv=>whnf
 repeat' (first| intro g| apply ca (dK _ _) | apply ca (EW _ _) | refine st ?_| refine br ?_ ?_<;>intro hc| rfl) <;>conv=>whnf
theorem A4 {α:Type} {f:α→V} {l:List α} {rest:List V} {i:Nat} {n:Int} {x:α} (h:l[i]? =some x) (hn:n=(i:Int)): (l.map f++rest)[n.toNat]? =some (f x):=by
 have hi:=(aiS.1 h).1
 rw[ajw (by subst hn;simpa using hi)]
 exact aq h hn
theorem Su {l0:List Place} {rest:List V} (eX:V.al rest=true) (hlen:l0.length< 1000000):Ev E 655 [.msl 7 (l0.map Place.v++rest) 0 l0.length,vi 0,av l0.length,.bfn 633 [.any]] ⟨.tuple [],[(0,(fq fm l0).map Place.v++rest)]⟩:=by
 refine Ev.aD rfl rfl rfl ?_
 conv=>whnf
 repeat' (first| intro g| refine st ?_| refine br ?_ ?_<;>intro hc| rfl) <;>conv=>whnf
 refine aL.by (fun ((i,L):Nat×List Place)=> ⟨[(0,.sl 0 0 0 l0.length),(1,vi 0),(2,av l0.length),(3,.bfn 633 [.any]),(8,av (i+1))],[(0,⟨0,7,true,false,some (L.map Place.v++rest)⟩)]⟩)
   (fun p=>p.1≤l0.length∧p.2=fq fm (l0.take (p.1+1))++l0.drop (p.1+1)) (fun p=>l0.length - p.1) (0,l0) ?_ ?_ ?_
 ·exact su
 · refine⟨abW,?_⟩
   cases l0 with
   | nil=>rfl
   | cons a l=>rfl
 rintro⟨i,L⟩ ⟨h1,h2⟩
 dsimp only at h1 h2
 have hl:L.length=l0.length:=by rw[h2];simp only[List.length_append,eD,ajg,aju];omega
 by_cases bl:i+1 <l0.length
 case neg=>
   rw[List.take_of_length_le abV,ai7 abV,ajq] at h2
   rw[←h2]
   conv=>whnf
   repeat' (first| ((exfalso;omega)) | intro g| refine nd (by first| (exact⟨rfl,rfl,bC (Place.aN _) eX⟩) | fail) ?_| refine nd (by first| ((and_intros<;>first| rfl| exact bC (Place.aN _) eX| omega| (simp only[List.length_append,List.length_map,eD];omega))) | fail) ?_| refine st ?_| refine br ?_ ?_<;>intro hc| rfl) <;>conv=>whnf
 obtain⟨x,Zw⟩: ∃x,l0[i+1]? =some x:=⟨_,aH bl⟩
 have RU:l0.drop (i+1)=x::l0.drop (i+2):=by
   rw[ajf bl];rw[aiW bl] at Zw;injection Zw with Zw;rw[Zw]
 have HT:fq fm (l0.take (i+1+1))=xl fm x (fq fm (l0.take (i+1))):=by rw[jv Zw,tT]
 have hSl: (fq fm (l0.take (i+1))).length=i+1:=by rw[eD,ajg];omega
 have h0:kD fm (fq fm (l0.take (i+1))) (l0.drop (i+2)) x (i+1) L (fq fm (l0.take (i+1))) []:=⟨by rw[h2,RU];simp,hSl,abW,abW⟩
 obtain⟨post,Sv⟩: ∃p,p=l0.drop (i+2):=⟨_,rfl⟩
 rw[←Sv] at h0
 have VQ: ∀L':List Place,L'=xl fm x (fq fm (l0.take (i+1)))++post→L'=fq fm (l0.take (i+1+1))++l0.drop (i+1+1):=fun L' h=>by rw[HT,h,Sv]
 have xf:post.length+(i+2)=l0.length:=by rw[Sv,aju];omega
 generalize fq fm (l0.take (i+1))=S at*
 conv=>whnf
 repeat' (first| ((exfalso;omega)) | intro g| refine nd (by first| (exact⟨rfl,rfl,bC (Place.aN _) eX⟩) | fail) ?_| refine nd (by first| ((and_intros<;>first| rfl| exact bC (Place.aN _) eX| omega| (simp only[List.length_append,List.length_map,eD];omega))) | fail) ?_| refine st ?_| refine br ?_ ?_<;>intro hc| rfl) <;>conv=>whnf
 refine aL.by (fun ((j,L):Nat×List Place)=> ⟨[(0,.sl 0 0 0 l0.length),(1,vi 0),(2,av l0.length),(3,.bfn 633 [.any]),(8,av (i+1)),(9,av j)],[(0,⟨0,7,true,false,some (L.map Place.v++rest)⟩)]⟩)
    (fun p=> ∃pre mid,kD fm S post x p.1 p.2 pre mid) (fun p=>p.1) (i+1,L) ?_ ⟨_,_,h0⟩ ?_
 ·exact su
 rintro⟨j,L'⟩ ⟨pre,mid,hs⟩
 dsimp only at hs
 have Ak:=hs.len
 have hlj:=hs.lej
 have hx:=hs.ahd
 cases j with
 | zero=>
   have Xu:pre=[]:=List.eq_nil_of_length_eq_zero hs.hj
   conv=>whnf
   repeat' (first| intro g| refine st ?_| refine br ?_ ?_<;>intro hc| rfl) <;>conv=>whnf
   refine aK.mk (i+1,L') om ⟨om,VQ _ (hs.stop (by rw[Xu];simp))⟩ su
 | succ j=>
   obtain⟨HR,y,rfl⟩:=hs.snoc
   have hy:=hs.ahe
   have Aj:IntKind.i64.wrap (((j+1:Nat):Int) - 1)=(j:Int):=wt
   have hy2: ((L'.map Place.v++rest).set ((j+1:Nat):Int).toNat y.v)[(IntKind.i64.wrap (((j+1:Nat):Int) - 1)).toNat]? =some y.v:=by
    rw[Aj,Int.toNat_natCast,Int.toNat_natCast,akr abV];exact A4 hy rfl
   conv=>whnf
   repeat' (first| intro g| refine wi (A4 hx rfl) ?_| refine wi (A4 hy Aj) ?_| refine wi hy2 ?_| apply ca (VP _ _) | refine st ?_| refine br ?_ ?_<;>intro hc| rfl) <;>conv=>whnf
   ·refine aK.mk (j,(L'.set (j+1) y).set j x) om ⟨_,_,hs.step (by rw[HS];exact decide_eq_true hc)⟩ ?_
    have e1:V.int .i64 (IntKind.i64.wrap (((j+1:Nat):Int) - 1))=av j:=by rw[Aj]
    have e2: (⟨0,7,true,false,some (((L'.map Place.v++rest).set ((j+1:Nat):Int).toNat y.v).set (IntKind.i64.wrap (((j+1:Nat):Int) - 1)).toNat x.v)⟩:Obj)=⟨0,7,true,false,some (((L'.set (j+1) y).set j x).map Place.v++rest)⟩:=by
     rw[Aj,Int.toNat_natCast,Int.toNat_natCast,List.set_append_left _ _ (by simp;omega),List.set_append_left _ _ (by simp;omega),ajH,ajH]
    (refine⟨?_,?_⟩ <;>repeat' (first| exact True.intro| refine And.intro (e1) ?_| refine And.intro (e2) ?_| refine ai ?_| refine And.intro ?_ ?_))
   ·refine aK.mk (i+1,L') om ⟨om,VQ _ (hs.stop (fun z hz=>by
     rw[List.getLast?_concat] at hz;injection hz with hz;subst hz
     rw[HS];exact decide_eq_false hc))⟩ su
theorem VR {l0:List Place} {rest:List V} (eX:V.al rest=true) (hlen:l0.length< 20):Ev E 642 [.msl 7 (l0.map Place.v++rest) 0 l0.length,av l0.length,.bfn 633 [.any]] ⟨.tuple [],[(0,(fq fm l0).map Place.v++rest)]⟩:=by
 have hi:=Su (l0:=l0) eX abV
 have Xv:=eD fm l0
 refine Ev.aD rfl rfl rfl ?_
 conv=>whnf
 repeat' (first| intro g| refine st ?_| refine br ?_ ?_<;>intro hc| rfl) <;>conv=>whnf
 refine aL.by (fun _:Unit=> ⟨[(0,.sl 0 0 0 l0.length),(1,av l0.length),(2,.bfn 633 [.any]),(6,vi 20),(7,vi 0),(8,vi 20)],[(0,⟨0,7,true,false,some (l0.map Place.v++rest)⟩)]⟩) (fun _=>True) (fun _=>0) () su trivial ?_
 rintro _ _
 conv=>whnf
 repeat' (first| ((exfalso;omega)) | intro g| refine nd (by first| (exact⟨rfl,rfl,bC (Place.aN _) eX⟩) | fail) ?_| refine nd (by first| ((and_intros<;>first| rfl| exact bC (Place.aN _) eX| omega| (simp only[List.length_append,List.length_map,eD];omega))) | fail) ?_| apply ca hi| refine st ?_| refine br ?_ ?_<;>intro hc| rfl) <;>conv=>whnf
 refine aL.by (fun _:Unit=> ⟨[(0,.sl 0 0 0 l0.length),(1,av l0.length),(2,.bfn 633 [.any]),(6,vi 20)],[(0,⟨0,7,true,false,some ((fq fm l0).map Place.v++rest)⟩)]⟩) (fun _=>True) (fun _=>0) () su trivial ?_
 rintro _ _
 conv=>whnf
 repeat' (first| ((exfalso;omega)) | intro g| refine nd (by first| (exact⟨rfl,rfl,bC (Place.aN _) eX⟩) | fail) ?_| refine nd (by first| ((and_intros<;>first| rfl| exact bC (Place.aN _) eX| omega| (simp only[List.length_append,List.length_map,eD];omega))) | fail) ?_| refine st ?_| refine br ?_ ?_<;>intro hc| rfl) <;>conv=>whnf
theorem acW {l0:List Place} {rest:List V} (eX:V.al rest=true) (hlen:l0.length< 20):Ev E 632 [.msl 7 (l0.map Place.v++rest) 0 l0.length,.bfn 633 [.any]] ⟨.tuple [],[(0,(fq fm l0).map Place.v++rest)]⟩:=by
 have hi:=VR eX hlen
 have Xv:=eD fm l0
 refine Ev.aD rfl rfl rfl ?_
 conv=>whnf
 repeat' (first| ((exfalso;omega)) | intro g| refine nd (by first| (exact⟨rfl,rfl,bC (Place.aN _) eX⟩) | fail) ?_| refine nd (by first| ((and_intros<;>first| rfl| exact bC (Place.aN _) eX| omega| (simp only[List.length_append,List.length_map,eD];omega))) | fail) ?_| apply ca hi| refine st ?_| refine br ?_ ?_<;>intro hc| rfl) <;>conv=>whnf
theorem DP (p:Place):Ev E 631 [p.v] ⟨.bool (decide (p.name=[])),[]⟩:=by
 refine Ev.aD rfl rfl rfl ?_
 conv=>whnf
 repeat' (first| intro g| refine st ?_| refine br ?_ ?_<;>intro hc| rfl) <;>conv=>whnf
 all_goals trace_state
end Go.AM
namespace Go.AM
theorem HU: ∀n:Nat,∃s:Nat,s*s≤n∧n< (s+1)*(s+1)
 | 0=> ⟨0,abV,abV⟩
 | n+1=>by
   obtain⟨s,h1,h2⟩:=HU n
   have e1: (s+1)*(s+1)=s*s+2*s+1:=by simp only[Nat.mul_add,ajo];omega
   have e2: (s+1+1)*(s+1+1)=s*s+4*s+4:=by simp only[Nat.mul_add,ajo];omega
   by_cases h:n+1 < (s+1)*(s+1)
   ·exact⟨s,abV,h⟩
   ·exact⟨s+1,abV,abV⟩
theorem Sw {n:Int} (h:0≤n):IsSqrt n (jG n):=by
 obtain⟨s,h1,h2⟩:=HU n.toNat
 have hs:IsSqrt n (s:Int):=by
  refine⟨abV,?_,?_⟩
  ·have: ((s*s:Nat):Int)≤(n.toNat:Int):=by exact_mod_cast h1
   rw[Int.natCast_mul] at this;omega
  ·have: (n.toNat:Int) < (((s+1)*(s+1):Nat):Int):=by exact_mod_cast h2
   rw[Int.natCast_mul] at this
   simp only[Int.natCast_add,Int.natCast_one] at this
   omega
 rw[kz hs];exact hs
theorem Sx (x y:Int):decide (Xt ⟨x,y⟩)=qF x y:=by
 have e:qF x y=true↔Xt ⟨x,y⟩:=by unfold qF Xt;rw[Bool.and_eq_true,decide_eq_true_eq,decide_eq_true_eq]
 by_cases h:Xt ⟨x,y⟩
 ·rw[decide_eq_true h,e.2 h]
 ·rw[decide_eq_false h]
  cases hb:qF x y
  ·rfl
  ·exact absurd (e.1 hb) h
theorem DQ (p:Pt):Ev E 189 [p.v] ⟨.bool (qF p.x p.y),[]⟩:=by
 have:=tN p
 rwa [show decide (Xt p)=qF p.x p.y from Sx p.x p.y] at this
theorem HV (a b:dj):Ev E 624 [a.v,b.v] ⟨vi (fp a b),[]⟩:=by
 have h1:=pf a.r
 have h2:=pf b.r
 refine Ev.aD rfl rfl rfl ?_
 conv=>whnf
 repeat' (first| intro g| refine st ?_| refine br ?_ ?_<;>intro hc| rfl) <;>conv=>whnf
 show (⟨vi _,[]⟩:eZ)=_
 have e1: ∀r:Int,(if (1000:Int) < (if r< (0:Int) then 0 else r) then(1000:Int) else(if r< (0:Int) then 0 else r))=tQ r:=fun r=>by unfold tQ;omega
 rw[e1,e1]
 unfold fp
 rw[wrap64 abV abV]
theorem DR (a b:dj): ∃n:Int,(CG a b=true→n=Gk a b)∧Ev E 623 [a.v,b.v] ⟨.tuple [vi n,.bool (CG a b)],[]⟩:=by
 have h1:=DQ ⟨a.x,a.y⟩
 have h2:=DQ ⟨b.x,b.y⟩
 dsimp only at h1 h2
 refine⟨gC (gC (gC (a.x - b.x)*gC (a.x - b.x))+gC (gC (a.y - b.y)*gC (a.y - b.y))),fun h=>acU h,?_⟩
 have h3:=qn ⟨a.x,a.y⟩ ⟨b.x,b.y⟩
 have h4:=JU ⟨gC (a.x - b.x),gC (a.y - b.y)⟩ ⟨gC (a.x - b.x),gC (a.y - b.y)⟩
 unfold CG
 generalize qF a.x a.y=b1 at*
 generalize qF b.x b.y=b2 at*
 refine Ev.aD rfl rfl rfl ?_
 cases b1
 ·exact aiN
 ·exact aiN
theorem Sy (a b:dj):Ev E 612 [a.v,b.v] ⟨vi (iQ a b),[]⟩:=by
 have hb:=HV a b
 have hr:=xj a b
 obtain⟨n,hn,h1⟩:=DR a b
 by_cases vC:CG a b=true
 case neg=>
  have vC:CG a b=false:=by simpa using vC
  rw[vC] at h1
  have h2:iQ a b=0:=by unfold iQ;rw[vC];rfl
  rw[h2]
  refine Ev.aD rfl rfl rfl ?_
  exact aiN
 have hn:=hn vC
 subst hn
 have Ao:=Fj vC
 rw[vC] at h1
 by_cases hz:fp a b=0
 ·rw[Oq vC hz]
  rw[hz] at hb
  refine Ev.aD rfl rfl rfl ?_
  exact aiN
 have h2:iQ a b=(nO (Gk a b) (fp a b) 1024:Int):=by unfold iQ;rw[if_pos vC]
 rw[h2]
 clear h2 vC
 generalize Gk a b=sq at*
 generalize fp a b=r at*
 have sS:0 <r*r∧r*r≤4000000:=⟨Int.mul_pos abV abV,aka (c:=2000) (d:=2000) hr.2 hr.2 hr.1 abV⟩
 have hq0:0≤sq / (r*r):=Int.ediv_nonneg Ao.1 abV
 have hq1:sq / (r*r)≤sq:=Int.ediv_le_self _ Ao.1
 have hq:IntKind.i64.wrap (sq.tdiv (IntKind.i64.wrap (r*r)))=sq / (r*r):=by
  rw[wrap64 (n:=r*r) abV abV,Int.tdiv_eq_ediv_of_nonneg Ao.1,wrap64 abV abV]
 have hs:Ev E 27 [vi (IntKind.i64.wrap (sq.tdiv (IntKind.i64.wrap (r*r))))] ⟨vi (jG (sq / (r*r))),[]⟩:=by rw[hq];exact vb abV
 have hl:=Oo Ao.1 abV (Sw hq0)
 rw[←hl]
 generalize jG (sq / (r*r))=s at hs
 have cL: ¬IntKind.i64.wrap (r*r)=0:=by rw[wrap64 (n:=r*r) abV abV];omega
 clear hl hq hq0 hq1 sS Ao
 refine Ev.aD rfl rfl rfl ?_
 conv=>whnf
 repeat' (first| intro g| refine nd cL ?_| apply ca h1| apply ca hb| apply ca hs| refine st ?_| refine br ?_ ?_<;>intro hc| rfl) <;>conv=>whnf
end Go.AM
namespace Go.AM
theorem VS (x:Int):Ev E 638 [.lit 1 [vi 2,vi 3,vi 4],vi x] ⟨vi (if x=2 then 0 else if x=3 then 1 else if x=4 then 2 else -1),[]⟩:=by
 refine Ev.aD rfl rfl rfl ?_
 conv=>whnf
 repeat' (first| intro g| refine st ?_| refine br ?_ ?_<;>intro hc| rfl) <;>conv=>whnf
 refine aL.by (fun i:Nat=> ⟨[(0,.lit 1 [vi 2,vi 3,vi 4]),(1,vi x),(7,av 3),(8,av i)],[]⟩) (fun i=>i≤3∧(1≤i→x≠2)∧(2≤i→x≠3)∧(3≤i→x≠4)) (fun i=>3 - i) 0 su ⟨abV,abV,abV,abV⟩ ?_
 rintro i ⟨hi,h1,h2,h3⟩
 rcases(by omega:i=0∨i=1∨i=2∨i=3) with rfl| rfl| rfl| rfl
 ·by_cases e:x=2
  ·subst e
   exact aiN
  ·conv=>whnf
   repeat' (first| intro g| refine st ?_| refine br ?_ ?_<;>intro hc| rfl) <;>conv=>whnf
   exact aK.mk 1 om ⟨abV,abV,abV,abV⟩ su
 ·have e2:=h1 abV
  rw[if_neg e2]
  by_cases e:x=3
  ·subst e
   exact aiN
  ·conv=>whnf
   repeat' (first| intro g| refine st ?_| refine br ?_ ?_<;>intro hc| rfl) <;>conv=>whnf
   exact aK.mk 2 om ⟨abV,abV,abV,abV⟩ su
 ·have e2:=h1 abV
  have e3:=h2 abV
  rw[if_neg e2,if_neg e3]
  by_cases e:x=4
  ·subst e
   exact aiN
  ·conv=>whnf
   repeat' (first| intro g| refine st ?_| refine br ?_ ?_<;>intro hc| rfl) <;>conv=>whnf
   exact aK.mk 3 om ⟨abV,abV,abV,abV⟩ su
 ·rw[if_neg (h1 abV),if_neg (h2 abV),if_neg (h3 abV)]
  exact aiN
theorem VT (x:Int):Ev E 627 [.lit 1 [vi 2,vi 3,vi 4],vi x] ⟨.bool (decide (2≤x∧x≤4)),[]⟩:=by
 have h:=VS x
 have e:decide ((0:Int)≤if x=2 then 0 else if x=3 then 1 else if x=4 then 2 else -1)=decide (2≤x∧x≤4):=by
  rw[decide_eq_decide];omega
 generalize hz: (if x=2 then(0:Int) else if x=3 then 1 else if x=4 then 2 else -1)=z at*
 rw[←e]
 refine Ev.aD rfl rfl rfl ?_
 exact aiN
theorem Sz (e:Event) (id:Int):Ev E 626 [e.v,.eptr (vi id) 0] ⟨.bool (HP id e),[]⟩:=by
 have h:=VT e.kind
 unfold HP
 by_cases hi:e.id=id
 ·rw[decide_eq_true hi,aj1]
  generalize decide (2≤e.kind∧e.kind≤4)=b at*
  refine Ev.aD rfl rfl rfl ?_
  exact aiN
 ·rw[decide_eq_false hi,Bool.false_and]
  refine Ev.aD rfl rfl rfl ?_
  exact aiN
theorem SA {l:List Event} {g:Nat} {caps:List V} (hc:V.al caps=true) {p:Event→Bool} (hlen:l.length< 4611686018427387904)
  (hp: ∀x,Ev E g (x.v::caps) ⟨.bool (p x),[]⟩) (hm:bz E g=[]):Ev E 625 [.lit 5 (l.map Event.v),.fn g caps] ⟨vi (firstIdx p l),[]⟩:=by
 exact oZ (a:=true) (fun _=>rfl) (fun _=>rfl) hc hlen hp hm
theorem Mr {h:dn} (hl:h.evs.length< 1000000) (id:Int):Ev E 610 [h.v,vi id] ⟨vi (pL h id),[]⟩:=by
 have hi:Ev E 625 _ ⟨vi (pL h id),[]⟩:=SA (l:=h.evs) (caps:=[.eptr (vi id) 0]) rfl abV (fun x=>Sz x id) rfl
 refine Ev.aD rfl rfl rfl ?_
 exact aiN
theorem VU {h:dn} (hl:h.evs.length< 1000000) (p:Place):Ev E 616 [.eptr h.v 0,.eptr p.v 0] ⟨vi (gL h p.id),[]⟩:=by
 have hg:=Mr hl p.id
 rcases cI (HP p.id) h.evs with⟨hk,_⟩ | ⟨i,x,hk,hx,_⟩
 · have hk:pL h p.id= -1:=hk
   rw[AX hk]
   rw[hk] at hg
   refine Ev.aD rfl rfl rfl ?_
   exact aiN
 have hk:pL h p.id=i:=hk
 have Cw:=(aiS.1 hx).1
 cases i with
 | zero=>
   rw[AY hk]
   rw[hk] at hg
   refine Ev.aD rfl rfl rfl ?_
   exact aiN
 | succ k=>
   obtain⟨e,he⟩: ∃e,h.evs[k]? =some e:=⟨_,aH abV⟩
   have w1:IntKind.i64.wrap (((k+1:Nat):Int) - 1)=(k:Int):=wt
   rw[AZ hk he]
   rw[hk] at hg
   by_cases hb:1024 <e.at_
   ·rw[if_pos (.inr hb)]
    refine Ev.aD rfl rfl rfl ?_
    conv=>whnf
    repeat' (first| ((exfalso;omega)) | intro g| refine wi (aq he w1) ?_| apply ca hg| refine st ?_| refine br ?_ ?_<;>intro hc| rfl) <;>conv=>whnf
   ·have e9: (if e.at_< 0∨1024 <e.at_ then(0:Int) else e.at_)=if e.at_< 0 then 0 else e.at_:=abV
    rw[e9]
    refine Ev.aD rfl rfl rfl ?_
    conv=>whnf
    repeat' (first| ((exfalso;omega)) | intro g| refine wi (aq he w1) ?_| apply ca hg| refine st ?_| refine br ?_ ?_<;>intro hc| rfl) <;>conv=>whnf
theorem VV (x y:dj):Ev E 617 [.eptr x.v 0,.eptr y.v 0] ⟨vi (if iQ x y<y.iG then iQ x y else 1024),[]⟩:=by
 have h:=Sy x y
 generalize iQ x y=z at*
 by_cases hz:z<y.iG
 ·rw[if_pos hz]
  refine Ev.aD rfl rfl rfl ?_
  exact aiN
 ·rw[if_neg hz]
  refine Ev.aD rfl rfl rfl ?_
  exact aiN
end Go.AM
namespace Go.AM
def ClI (c:V) (u:Int):Prop:= ∃g caps,c= .fn g caps∧bz E g=[]∧V.al caps=true∧Ev E g caps ⟨vi u,[]⟩
theorem Oz {cs:List V} {us:List Int} (hl:cs.length=us.length) (hn:cs.length< 1000000) (h: ∀ (i:Nat) c u,cs[i]? =some c→us[i]? =some u→ClI c u):Ev E 618 [.lit 1 cs] ⟨vi (us.foldl lG 1024),[]⟩:=by
 refine Ev.aD rfl rfl rfl ?_
 conv=>whnf
 repeat' (first| intro g| refine st ?_| refine br ?_ ?_<;>intro hc| rfl) <;>conv=>whnf
 refine aL.by (fun ((i,w):Nat×Int)=> ⟨[(3,vi w),(6,.lit 1 cs),(7,av cs.length),(8,av i)],[]⟩) (fun (i,w)=>i≤cs.length∧w=(us.take i).foldl lG 1024) (fun (i,_)=>cs.length - i) (0,1024) su ⟨abW,abW⟩ ?_
 rintro⟨i,w⟩ ⟨hi,hw⟩
 try dsimp only at hi hw
 by_cases bl:i<cs.length
 case neg=>
  rw[List.take_of_length_le abV] at hw
  rw[←hw]
  exact aiN
 obtain⟨c,iw⟩: ∃c,cs[i]? =some c:=⟨_,aH bl⟩
 obtain⟨u,hu⟩: ∃u,us[i]? =some u:=⟨_,aH abV⟩
 obtain⟨g2,caps,rfl,hm,hp,he⟩:=h i c u iw hu
 have rQ:cs[((i:Int)).toNat]? =some (V.fn g2 caps):=by rw[Int.toNat_natCast];exact iw
 have OA:lG w u=(us.take (i+1)).foldl lG 1024:=by rw[jv hu,List.foldl_append,←hw];rfl
 conv=>whnf
 repeat' (first| intro g| refine wi rQ ?_| refine sf he ?_| refine st ?_| refine br ?_ ?_<;>intro hc| rfl) <;>conv=>whnf
 exact aK.mk (i+1,lG w u) om ⟨abV,OA⟩ su
def DS (v:V) (y:dj):V:= .fn 617 [v,.eptr y.v 0]
theorem SB {σ:St} {C:bo} {r g:Nat} {x y:dj} {o:Obj} (ho:σ.O r=o) (hg:o.gen=g) (bq:o.es=some [x.v]) (k:V→List Nat→Act): (eh 4 (DS (.ptr r g 0 0) y) k).run C σ=(k (DS (.eptr x.v 0) y) [r]).run C σ:=by
 have hx:V.aw x.v=true:=rfl
 have hy:V.aw y.v=true:=rfl
 simp only[DS,eh,V.aw,V.al,Bool.false_and,ai3,if_false,kU,Act.run,ho,bq,hg,if_true,List.getElem?_cons_zero,hx,ajq,ajx]
theorem DT {σ:St} {C:bo} {r g:Nat} {x:dj} {o:Obj} (ho:σ.O r=o) (hg:o.gen=g) (bq:o.es=some [x.v]): ∀ (B:List dj) (k:List V→List Nat→Act),∃rs:List Nat,(kU (eh 4) (B.map (DS (.ptr r g 0 0))) k).run C σ=(k (B.map (DS (.eptr x.v 0))) rs).run C σ
 | [],k=> ⟨[],rfl⟩
 | y::B,k=>by
   simp only[List.map_cons,kU]
   rw[SB ho hg bq]
   obtain⟨rs,h⟩:=DT ho hg bq B (fun cU rs=>k (DS (.eptr x.v 0) y::cU) ([r]++rs))
   exact⟨_,h⟩
theorem A5 {σ:St} {C:bo} {B:List V}: ∀ {A:List V},V.al A=true→ ∀ (k:List V→List Nat→Act),(kU (eh 4) (A++B) k).run C σ=(kU (eh 4) B fun cs rs=>k (A++cs) rs).run C σ
 | [],_,k=>rfl
 | a::A,h,k=>by
   simp only[V.al,Bool.and_eq_true] at h
   simp only[ajn,kU]
   rw[Jy h.1,A5 h.2]
   simp only[ajx]
theorem VW {r0 ra g n:Nat} {K:List V→List Nat→List ed→Act} {C:bo} {σ:St}: (dB r0 [.sl ra g 0 n] [] 0 K).run C σ=(match (σ.O ra).es with
 | some es=>if (σ.O ra).gen=g∧(σ.O ra).arr=true∧0+n≤es.length then rL (eh 4) (aG es 0 n) fun xs rs=>K [.lit (σ.O ra).sz xs] ((ra::rs)++[]) [] else .fail
 | none=> .fail:Act).run C σ:=rfl
theorem OB {S:SS} {Q:KK} {r0 ra r g gx n:Nat} {x:dj} {A:List V} {B:List dj} {oa ob:Obj} {u:Int} (ha:lk S.O ra=some oa) (ga:oa.gen=g) (aa:oa.arr=true) (sa:oa.sz=1) (ea:oa.es=some (A++B.map (DS (.ptr r gx 0 0)))) (hn:n=(A++B.map (DS (.ptr r gx 0 0))).length)
  (hb:lk S.O r=some ob) (gb:ob.gen=gx) (eb:ob.es=some [x.v]) (hA:V.al A=true) (kY:Ev E 618 [.lit 1 (A++B.map (DS (.eptr x.v 0)))] ⟨vi u,[]⟩) (hQ: ∀rr ww,Q (vi u) S rr ww):Nc E (AM.jm E r0 false 618 [.sl ra g 0 n]) S Q:=by
 refine⟨fun σ ho=> ?_⟩
 obtain⟨N,hN⟩:=kY
 have h1:=ho.2 ra _ ha
 have h2:=ho.2 r _ hb
 have key: (AM.jm E r0 false 618 [.sl ra g 0 n]).run (call E N) σ=some (vi u,σ):=by
  have hw:aG (A++B.map (DS (.ptr r gx 0 0))) 0 n=A++B.map (DS (.ptr r gx 0 0)):=gI hn
  have fin: ∀rs:List Nat,((if apart rs ([].map (fun w:ed=>w.r)) &&distinct ([].map (fun w:ed=>w.r)) then
     Act.call 618 [.lit 1 (A++B.map (DS (.eptr x.v 0)))] fun res=>
      let go:=eF [] res.outs fun gs=>dE false r0 gs res.val .done
      if (res.val.isScalar || tD r0 false res.val) &&res.outs.all (fun o=>V.bn o.2) then go else dC rs go
   else .fail):Act).run (call E N) σ=some (vi u,σ):=fun rs=>by
   simp[apart,distinct,Act.run,hN,V.isScalar,eF,dE,V.aw]
  unfold AM.jm
  rw[abL]
  dsimp only
  rw[show aaO.cu=[] from rfl]
  rw[VW,h1,ea]
  dsimp only
  rw[if_pos ⟨ga,aa,abV⟩,hw]
  unfold rL
  split
  ·rename_i mR
   cases B with
   | nil=>
     simp only[akj,ajq,sa] at fin ⊢
     exact fin _
   | cons y B=>
     have:=dW mR (DS (.ptr r gx 0 0) y) abW
     simp[DS,V.aw,V.al] at this
  ·rw[A5 hA]
   obtain⟨rs,Q7⟩:=DT (C:=call E N) h2 gb eb B (fun cs rs=>_)
   rw[Q7]
   simp only[sa]
   exact fin _
 exact⟨N,vi u,σ,key,S,ho,hQ _ _⟩
end Go.AM
namespace Go.AM
def SC (p:Place) (h:dn):V:= .fn 616 [.eptr h.v 0,.eptr p.v 0]
theorem OC (p:Place) (l:List dn):V.al (l.map (SC p))=true:=AM.aN (fun _=>rfl) l
theorem acX {p:Place} {l:List dn} {out:List dj} (hl:l.length< 4000) (ho:out.length< 2000) (kY: ∀h ∈ l,h.evs.length< 1000000):Ev E 618 [.lit 1 (l.map (SC p)++out.map (DS (.eptr (A3 p 0).v 0)))] ⟨vi (qG (jI p) out (mu l p.id)),[]⟩:=by
 have h1:=Oz (cs:=l.map (SC p)++out.map (DS (.eptr (A3 p 0).v 0))) (us:=l.map (fun h=>gL h p.id)++out.map (fun y=>zc (jI p) y)) abW (by simp;omega) (fun i c u hc hu=>by
  by_cases hi:i<l.length
  ·rw[ajw (by simpa using hi),List.getElem?_map,aH hi] at hc hu
   simp only[ai4,aiT] at hc hu
   subst hc hu
   exact⟨616,_,rfl,rfl,rfl,VU (kY _ (ajI _)) p⟩
  ·rw[ajp (by simpa using hi)] at hc hu
   simp only[List.length_map,List.getElem?_map] at hc hu
   obtain⟨y,hy,rfl⟩:=aiU.1 hc
   rw[hy] at hu
   simp only[ai4,aiT] at hu
   subst hu
   have h2:=VV (A3 p 0) y
   have e:iQ (A3 p 0) y=iQ y (jI p):=xk _ _
   rw[e] at h2
   exact⟨617,_,rfl,rfl,rfl,h2⟩)
 have e: (l.map (fun h=>gL h p.id)++out.map (fun y=>zc (jI p) y)).foldl lG 1024=qG (jI p) out (mu l p.id):=by
  rw[List.foldl_append,List.foldl_map,List.foldl_map];rfl
 rwa [e] at h1
theorem VX {m:aI} {qs:List Place} (hq:Ev E 615 [m.v] ⟨.own 7 (qs.map Place.v),[]⟩) (hqn:qs.length< 1000) {l:List dn} (hl:l.length< 4000) (kY: ∀h ∈ l,h.evs.length< 1000000):Ev E 596 [m.v,.lit 2 (l.map dn.v)] ⟨.own 6 ((cn l qs).map dj.v),[]⟩:=by
 refine Ev.aD rfl rfl rfl ?_
 conv=>whnf
 repeat' (first| intro g| apply ca hq| refine st ?_| refine br ?_ ?_<;>intro hc| rfl) <;>conv=>whnf
 refine aL.by (fun ((i,out,g):Nat×List dj×Nat)=> ⟨[(1,.lit 2 (l.map dn.v)),(4,.sl 81 g 0 i),(14,.lit 7 (qs.map Place.v)),(15,av (qs.map Place.v).length),(16,av i)],[(81,⟨g,6,true,false,some (out.map dj.v)⟩)]⟩) (fun (i,out,_)=>i≤qs.length∧out=cn l (qs.take i)) (fun (i,_)=>qs.length - i) (0,[],g) su ⟨abW,by simp[cn]⟩ ?_
 clear g
 rintro⟨i,out,g4⟩ ⟨hi,ho⟩
 try dsimp only at hi ho
 have hol:out.length=i:=by rw[ho,lS];simp;omega
 by_cases bl:i<qs.length
 case neg=>
  rw[List.take_of_length_le abV] at ho
  rw[←ho]
  exact aiN
 obtain⟨p,hp⟩: ∃x,qs[i]? =some x:=⟨_,aH bl⟩
 have hr:=Zs p.name
 have HT:cn l (qs.take (i+1))=out++[yw l out p]:=by rw[jv hp,KH,ho]
 have hc:=acX (p:=p) (out:=out) hl abV kY
 have Jn:yw l out p=A3 p (qG (jI p) out (mu l p.id)):=rfl
 rw[Jn] at HT
 generalize qG (jI p) out (mu l p.id)=u at hc HT
 clear kY ho hq Jn
 conv=>whnf
 repeat' (first| intro g| refine wi (aq hp rfl) ?_| apply ca hr| refine st ?_| refine br ?_ ?_<;>intro hc| rfl) <;>conv=>whnf
 rename_i gK jD
 refine aL.by (fun ((k,fz,g8):Nat×Bool×Nat)=> ⟨[(1,.lit 2 (l.map dn.v)),(4,.sl 81 g4 0 i),(14,.lit 7 (qs.map Place.v)),(15,av (qs.map Place.v).length),(16,av i),(6,.ptr 112 gK 0 0),(7,.ptr 128 jD 0 0),(8,.sl 145 g8 0 k),(30,.lit 2 (l.map dn.v)),(31,av (l.map dn.v).length),(32,av k)],
   [(81,⟨g4,6,true,false,some (out.map dj.v)⟩),(112,⟨gK,7,false,fz,some [p.v]⟩),(128,⟨jD,6,false,false,some [(A3 p 0).v]⟩),(145,⟨g8,1,true,false,some ((l.take k).map (SC p))⟩)]⟩) (fun (k,_)=>k≤l.length) (fun (k,_)=>l.length - k) (0,false,g) su abW ?_
 clear g
 rintro⟨k,fz,g8⟩ hk
 try dsimp only at hk
 by_cases Rb:k<l.length
 ·obtain⟨h,hh⟩: ∃x,l[k]? =some x:=⟨_,aH Rb⟩
  have OA: (l.take k).map (SC p)++[SC p h]=(l.take (k+1)).map (SC p):=by rw[jv hh,ajk];rfl
  conv=>whnf
  repeat' (first| intro g| refine wi (aq hh rfl) ?_| refine st ?_| refine br ?_ ?_<;>intro hc| rfl) <;>conv=>whnf
  exact aK.mk (k+1,true,g) om abV (by(refine⟨?_,?_⟩ <;>repeat' (first| exact True.intro| refine And.intro (congrArg (fun es=>Obj.mk g 1 true false (some es)) OA) ?_| refine ai ?_| refine And.intro ?_ ?_)))
 obtain rfl:k=l.length:=abV
 dsimp only
 rw[ajP]
 conv=>whnf
 repeat' (first| intro g| refine st ?_| refine br ?_ ?_<;>intro hc| rfl) <;>conv=>whnf
 refine aL.by (fun ((k,g8):Nat×Nat)=> ⟨[(1,.lit 2 (l.map dn.v)),(4,.sl 81 g4 0 i),(14,.lit 7 (qs.map Place.v)),(15,av (qs.map Place.v).length),(16,av i),(7,.ptr 128 jD 0 0),(8,.sl 145 g8 0 (l.length+k)),(41,.sl 81 g4 0 i),(42,av i),(43,av k)],
   [(81,⟨g4,6,true,false,some (out.map dj.v)⟩),(128,⟨jD,6,false,false,some [(A3 p 0).v]⟩),(145,⟨g8,1,true,false,some (l.map (SC p)++(out.take k).map (DS (.ptr 128 jD 0 0)))⟩)]⟩) (fun (k,_)=>k≤out.length) (fun (k,_)=>out.length - k) (0,g8) su abW ?_
 clear g8
 rintro⟨k,g8⟩ hk
 try dsimp only at hk
 by_cases Rb:k<out.length
 ·obtain⟨h,hh⟩: ∃x,out[k]? =some x:=⟨_,aH Rb⟩
  have OA: (l.map (SC p)++(out.take k).map (DS (.ptr 128 jD 0 0)))++[DS (.ptr 128 jD 0 0) h]=l.map (SC p)++(out.take (k+1)).map (DS (.ptr 128 jD 0 0)):=by rw[jv hh,ajk,ajR];rfl
  conv=>whnf
  repeat' (first| intro g| refine wi (aq hh rfl) ?_| refine st ?_| refine br ?_ ?_<;>intro hc| rfl) <;>conv=>whnf
  exact aK.mk (k+1,g) om abV (by(refine⟨?_,?_⟩ <;>repeat' (first| exact True.intro| refine And.intro (congrArg (fun es=>Obj.mk g 1 true false (some es)) OA) ?_| refine ai ?_| refine And.intro ?_ ?_)))
 obtain rfl:k=out.length:=abV
 dsimp only
 rw[ajP]
 have kY:=hc
 clear hc
 conv=>whnf
 repeat' (first| intro g| refine st ?_| refine br ?_ ?_<;>intro hc| rfl| refine OB (x:=A3 p 0) (A:=l.map (SC p)) (B:=out) (ra:=145) (r:=128) rfl rfl rfl rfl rfl abW rfl rfl rfl (OC p l) kY ?_) <;>conv=>whnf
 have OA:out.map dj.v++[(A3 p u).v]=(out++[A3 p u]).map dj.v:=abW
 exact aK.mk (i+1,out++[A3 p u],g) om ⟨abV,HT.symm⟩ (by(refine⟨?_,?_⟩ <;>repeat' (first| exact True.intro| refine And.intro (congrArg (fun es=>Obj.mk g 6 true false (some es)) OA) ?_| refine ai ?_| refine And.intro ?_ ?_)))
end Go.AM
