/- Texts of the proof. -/
import Derived.Test.YtgjbecccmiehkaaGreatGbc
import Derived.Test.YtgjbecccmiehkaaGreatGbe
set_option maxRecDepth 20000
set_option maxHeartbeats 4000000
set_option linter.unusedSimpArgs false
set_option linter.unusedVariables false
namespace Go.AM.Dr
theorem zR {S:List Int} (hs: ∀i j,i<j→j<S.length→S.getD i 0≤S.getD j 0): ∀t,t≤S.length→(dC S t).Pairwise (· < ·)∧ ∀x ∈ dC S t,0 <t∧x≤S.getD (t - 1) 0
 | 0,_=> ⟨by simp[dC],by simp[dC]⟩
 | t+1,ht=>by
   obtain⟨h1,h2⟩:=zR hs t (by omega)
   unfold dC
   split
   ·rename_i h
    refine⟨h1,fun x hx=> ⟨by omega,?_⟩⟩
    have:=(h2 x hx).2
    rw[Nat.add_sub_cancel,h.2];exact this
   ·rename_i h
    have bz: ∀x ∈ dC S t,x<S.getD t 0:=fun x hx=>by
     obtain⟨a,b⟩:=h2 x hx
     have c:=hs (t - 1) t (by omega) (by omega)
     have d:S.getD t 0≠S.getD (t - 1) 0:=fun k=>h ⟨a,k⟩
     omega
    refine⟨List.pairwise_append.2 ⟨h1,by simp,fun a ha b hb=> ?_⟩,fun x hx=> ⟨by omega,?_⟩⟩
    ·rw[List.mem_singleton.1 hb];exact bz a ha
    ·rw[Nat.add_sub_cancel]
     rcases List.mem_append.1 hx with hx| hx
     ·exact Int.le_of_lt (bz x hx)
     ·rw[List.mem_singleton.1 hx];omega
theorem ya (l:List Int): (fV l).Pairwise (It · ·):=ll (fun a b c h1 h2=>by simp[It] at h1 h2 ⊢;omega) (fun a b=>by simp[It];omega) l
theorem L2 (L:List Int): (fX (fV L)).Pairwise (· < ·):=by
 refine(zR (fun i j h1 h2=> ?_) _ (Nat.le_refl _)).1
 have:=List.pairwise_iff_getElem.1 (ya L) i j (by omega) h2 h1
 have h3: (fV L).getD i 0=(fV L)[i]'(by omega):=by simp[List.getD_eq_getElem?_getD,List.getElem?_eq_getElem (show i< (fV L).length by omega)]
 have h4: (fV L).getD j 0=(fV L)[j]'h2:=by simp[List.getD_eq_getElem?_getD,List.getElem?_eq_getElem h2]
 rw[h3,h4]
 simpa [It] using this
theorem G9 {m:bA} (e1:m.b9.length≤36) (e2:m.ways.length≤12) (e3:m.bL.length≤6): ∃l:List Int,l.length≤1000∧l.Pairwise (· < ·)∧Ev E 96 [m.v] ⟨.own 1 (l.map vi),[]⟩:=by
 suffices hh: ∃res,Ev E 96 [m.v] res∧ ∃l:List Int,l.length≤1000∧l.Pairwise (· < ·)∧res=⟨.own 1 (l.map vi),[]⟩ by
  obtain⟨_,h1,l,h2,h3,rfl⟩:=hh
  exact⟨l,h2,h3,h1⟩
 refine Ev.eQ rfl rfl rfl ?_
 conv=>whnf
 repeat' (first| intro g| refine st ?_| refine br ?_ ?_<;>intro hc| rfl) <;>conv=>whnf
 rename_i Jd
 obtain⟨g0,Iy⟩: ∃x,x=g:=⟨_,rfl⟩
 rw[←Iy];clear Iy g
 refine a8.by (fun ((k,L,g):Nat×List Int×Nat)=> ⟨[(1,.ptr 32 Jd 0 0),(3,.sl 65 g 0 L.length),(11,.lit 5 (m.b9.map da.v)),(12,aL m.b9.length),(13,aL k)],[(32,⟨Jd,4,false,false,some [m.v]⟩),(65,⟨g,1,true,false,some (L.map vi)⟩)]⟩)
  (fun (k,L,_)=>k≤m.b9.length∧L.length≤k) (fun (k,_)=>m.b9.length - k) (0,[],g0) su ⟨by simp,by simp⟩ ?_
 rintro⟨k,L,gl⟩ ⟨hk,hL⟩
 try dsimp only at hk hL
 by_cases bz:k<m.b9.length
 ·obtain⟨x,hx⟩: ∃x,m.b9[k]? =some x:=⟨_,bp bz⟩
  conv=>whnf
  repeat' (first| intro g| refine wi (aA hx rfl) ?_| refine st ?_| refine br ?_ ?_<;>intro hc| rfl) <;>conv=>whnf
  exact bo.mk (k+1,L++[x.tf],g) om ⟨by omega,by simp;omega⟩ su
 conv=>whnf
 repeat' (first| intro g| refine st ?_| refine br ?_ ?_<;>intro hc| rfl) <;>conv=>whnf
 refine a8.by (fun ((k,L,g):Nat×List Int×Nat)=> ⟨[(1,.ptr 32 Jd 0 0),(3,.sl 65 g 0 L.length),(24,.lit 8 (m.ways.map Way.v)),(25,aL m.ways.length),(26,aL k)],[(32,⟨Jd,4,false,false,some [m.v]⟩),(65,⟨g,1,true,false,some (L.map vi)⟩)]⟩)
  (fun (k,L,_)=>k≤m.ways.length∧L.length≤36+k) (fun (k,_)=>m.ways.length - k) (0,L,gl) su ⟨by simp,by omega⟩ ?_
 clear hk hL bz
 rintro⟨k,L,gl⟩ ⟨hk,hL⟩
 try dsimp only at hk hL
 by_cases bz:k<m.ways.length
 ·obtain⟨x,hx⟩: ∃x,m.ways[k]? =some x:=⟨_,bp bz⟩
  conv=>whnf
  repeat' (first| intro g| refine wi (aA hx rfl) ?_| refine st ?_| refine br ?_ ?_<;>intro hc| rfl) <;>conv=>whnf
  exact bo.mk (k+1,L++[x.tf],g) om ⟨by omega,by simp;omega⟩ su
 conv=>whnf
 repeat' (first| intro g| refine st ?_| refine br ?_ ?_<;>intro hc| rfl) <;>conv=>whnf
 refine a8.by (fun ((k,L,g):Nat×List Int×Nat)=> ⟨[(1,.ptr 32 Jd 0 0),(3,.sl 65 g 0 L.length),(37,.lit 7 (m.bL.map Place.v)),(38,aL m.bL.length),(39,aL k)],[(32,⟨Jd,4,false,false,some [m.v]⟩),(65,⟨g,1,true,false,some (L.map vi)⟩)]⟩)
  (fun (k,L,_)=>k≤m.bL.length∧L.length≤48+k) (fun (k,_)=>m.bL.length - k) (0,L,gl) su ⟨by simp,by omega⟩ ?_
 clear hk hL bz
 rintro⟨k,L,gl⟩ ⟨hk,hL⟩
 try dsimp only at hk hL
 by_cases bz:k<m.bL.length
 ·obtain⟨x,hx⟩: ∃x,m.bL[k]? =some x:=⟨_,bp bz⟩
  conv=>whnf
  repeat' (first| intro g| refine wi (aA hx rfl) ?_| refine st ?_| refine br ?_ ?_<;>intro hc| rfl) <;>conv=>whnf
  exact bo.mk (k+1,L++[x.tf],g) om ⟨by omega,by simp;omega⟩ su
 have h1:=Jw (l:=L) (by omega)
 have h2:=B3 (S:=fV L) (by rw[kJ];omega)
 rw[kJ] at h2
 have hp:=kI L
 have Ix:=kI (fV L)
 have A6:=kI (dI (fV L))
 conv=>whnf
 repeat' (first| intro g| refine nd ⟨rfl,rfl,rfl,by simp[kJ],kI _⟩ ?_| refine nd (Eu _) ?_| apply ca h1| apply ca h2| refine st ?_| refine br ?_ ?_<;>intro hc| rfl) <;>conv=>whnf
 refine⟨fX (fV L),?_,L2 L,by rw[G5]⟩
 have:=G4 L
 unfold LV at this
 omega
end Go.AM.Dr
namespace Go.AM.Dr
theorem Ha (fc gx:Int→Int→Int) (id:Int) {e:Event}: ∀j,e ∈ qX fc gx id j→e.id=id∧ ∃n:Nat,e.n=n∧1≤n∧n≤j
 | 0,h=>by simp[qX] at h
 | j+1,h=>by
   rcases List.mem_append.1 h with h| h
   ·obtain⟨h1,n,h2,h3,h4⟩:=Ha fc gx id j h
    exact⟨h1,n,h2,h3,by omega⟩
   ·split at h
    ·rw[List.mem_singleton.1 h]
     exact⟨rfl,j+1,rfl,by omega,Nat.le_refl _⟩
    ·simp at h
theorem zS (fc gx:Int→Int→Int) {m:bA} (hm:m.Fit) (d:Int) {e:Event}: ∀k,e ∈ gV fc gx m d k→ ∃q:lG m,q.e.id=e.id∧(q.n:Int)=e.n∧cw m q.e=d
 | 0,h=>by simp[gV] at h
 | k+1,h=>by
   rcases List.mem_append.1 h with h| h
   ·exact zS fc gx hm d k h
   ·unfold zx at h
    split at h
    ·rename_i x hx
     split at h
     ·rename_i hs
      obtain⟨s1,s2⟩:=hs
      obtain⟨h1,n,h2,n1,n2⟩:=Ha fc gx _ _ h
      exact⟨⟨k,n,x,_,_,_,hx,s1,n1,List.getElem?_eq_getElem (show n - 1 <x.line.length by omega),List.getElem?_eq_getElem (show n<x.line.length by omega),List.getElem?_eq_getElem (show n+1 <x.line.length by omega),hm.e,hm.el x (List.mem_of_getElem? hx)⟩,h1.symm,h2.symm,s2⟩
     ·simp at h
    ·simp at h
theorem zT {m:bA} (h:m.Fit) (h1:m.aH.length≤25) (hl: ∀e ∈ m.aH,e.line.length< 10) (d:Int): ∃l:List Event,l.length≤7*m.aH.length∧(∀e ∈ l,1≤d∧ ∃q:lG m,q.e.id=e.id∧(q.n:Int)=e.n∧cw m q.e=d∧Ev E 526 [m.v,vi e.id,vi e.n] ⟨vi 0,[]⟩)∧Ev E 529 [m.v,vi d] ⟨.own 5 (l.map Event.v),[]⟩:=by
 obtain⟨fc,hc⟩:=Ns (xP h)
 obtain⟨gx,hx⟩:=Ns (uy h)
 have LQ:=qi fc gx m d hl m.aH.length
 obtain⟨l,p1,so⟩:=zk (l:=if d< 1 then [] else gV fc gx m d m.aH.length) (by split;all_goals first| omega| simp)
 refine⟨l,?_,fun e he=> ?_,xO hc hx (fun id=>kE h id) (fun e=>qh h e) h1 hl d p1 so⟩
 ·rw[p1.length_eq]
  split
  ·simp
  ·exact LQ
 ·have:=p1.mem_iff.1 he
  split at this
  ·simp at this
  ·obtain⟨q,q1,q2,q3⟩:=zS fc gx h d _ this
   have k:=hc e.id e.n
   rw[(zH fc gx m d _ this).2.2.1] at k
   exact⟨by omega,q,q1,q2,q3,k⟩
structure Iz (m:bA):Prop where
 e:m.aH.length≤18
 el: ∀e ∈ m.aH,e.line.length< 10
 f:m.b9.length≤36
 w:m.ways.length≤12
 wl: ∀w ∈ m.ways,w.line.length< 10
 p:m.bL.length≤6
theorem Iz.fit {m:bA} (h:Iz m):m.Fit:=by
 have h1:=h.e;have h2:=h.f;have h3:=h.w;have h4:=h.p
 exact⟨by omega,by omega,by omega,by omega,fun e he=>by have:=h.el e he;omega,fun w hw=>by have:=h.wl w hw;omega⟩
theorem Iz.drop {m:bA} (h:Iz m) (q:lG m):Iz ⟨q.es,m.b9,m.ways,m.bL⟩:=by
 refine⟨by show (m.aH.set _ _).length≤18;rw[List.length_set];exact h.e,fun e he=> ?_,h.f,h.w,h.wl,h.p⟩
 rcases List.mem_or_eq_of_mem_set he with he| rfl
 ·exact h.el e he
 ·have:=h.el _ (List.mem_of_getElem? q.he)
  show q.rest.length< 10
  unfold lG.rest
  rw[List.length_eraseIdx]
  split<;>omega
theorem L3 {m:bA} (hf:m.Pk):Iz m:=
 ⟨hf.aH.1,fun e he=>by have:=(hf.aH.2 e he).2;omega,hf.b9,hf.ways.1,fun w hw=>by have:=hf.ways.2 w hw;have:=this.2;omega,by have:=hf.bL.1;omega⟩
structure B6 (d0:Int) (m x:bA):Prop where
 d:fJ d0 m x
 f:Iz x
 z:d0< 1→x=m
theorem B6.all {d0:Int} {m x:bA} (h:B6 d0 m x) (hm:Iz m) (pH:uA m) {d:Int} (bQ:d≠d0): ∃l:List Event,l.length≤126∧Ev E 529 [m.v,vi d] ⟨.own 5 (l.map Event.v),[]⟩∧Ev E 529 [x.v,vi d] ⟨.own 5 (l.map Event.v),[]⟩:=by
 have he:=hm.e
 by_cases h0:d0< 1
 ·obtain⟨l,h1,_,h3⟩:=zT hm.fit (by omega) hm.el d
  exact⟨l,by omega,h3,by rw[h.z h0];exact h3⟩
 ·obtain⟨l,h1,h2,h3⟩:=G2 h.d pH (by omega) bQ hm.fit h.f.fit (by omega) hm.el h.f.el
  exact⟨l,by omega,h2,h3⟩
theorem B6.step {d0:Int} {m x:bA} (h:B6 d0 m x): ∃l:List Event,l.length≤126∧Ev E 529 [x.v,vi d0] ⟨.own 5 (l.map Event.v),[]⟩∧ ∀e ∈ l,∃ (v:V) (M:bA),Ev E 524 [x.v,vi e.id,vi e.n] ⟨v,[]⟩∧U4 v (.tuple [M.v,vi 0])∧B6 d0 m M:=by
 have he:=h.f.e
 obtain⟨l,h1,h2,h3⟩:=zT h.f.fit (by omega) h.f.el d0
 refine⟨l,by omega,h3,fun e qg=> ?_⟩
 obtain⟨k,q,q1,q2,q3,q4⟩:=h2 e qg
 rw[←q1,←q2] at q4 ⊢
 exact⟨_,_,GG h.f.fit q q4,S7 (m:=⟨q.es,x.b9,x.ways,x.bL⟩) (.inl rfl) (.inl rfl) (.inl rfl) (.inl rfl),h.d.drop q q3,h.f.drop q,fun h0=>by omega⟩
end Go.AM.Dr
namespace Go.AM.Dr
theorem Ez {ls:List (List Int)} (hs:si ls): ∃m:bA,Iz m∧uA m∧Ev E 522 [eb ls] ⟨m.v,[]⟩:=by
 have W4:si (ls.take 8):=⟨by have:=hs.1;simp;omega,fun l h=>hs.2 l (List.mem_of_mem_take h)⟩
 have hl:=hs.1
 obtain⟨res,h,m,⟨hm,nd,cz,S,gM,hG⟩,rfl⟩:=B5 W4
 refine⟨m,L3 hm,G0 gM hG,?_⟩
 have h8: ∀n:Nat,n=ls.length→(if (8:Int) < (n:Int) then(8:Int) else(n:Int)).toNat=min 8 ls.length:=fun n hn=>by
  rw[hn];split<;>omega
 unfold bA.vo at h
 refine Ev.aO rfl rfl rfl ?_
 conv=>whnf
 repeat' (first| intro g| refine wi (zQ (k:=8) (h8 _ (by first| (simp;done) | fail))) ?_| apply ca h| refine st ?_| refine br ?_ ?_<;>intro hc| rfl) <;>conv=>whnf
theorem EA {l:List Event} (h:l.length< 1000000):Ev E 10 [.lit 5 (l.map Event.v),.lit 5 (l.map Event.v)] ⟨.bool true,[]⟩:=by
 refine Ev.aO rfl rfl rfl ?_
 conv=>whnf
 repeat' (first| intro g| refine st ?_| refine br ?_ ?_<;>intro hc| rfl) <;>conv=>whnf
 refine a8.by (fun (i:Nat)=> ⟨[(0,.lit 5 (l.map Event.v)),(1,.lit 5 (l.map Event.v)),(5,aL i)],[]⟩) (fun i=>i≤l.length) (fun i=>l.length - i) 0 su (by simp) ?_
 intro i hi
 conv=>whnf
 repeat' (first| intro g| refine st ?_| refine br ?_ ?_<;>intro hc| rfl) <;>conv=>whnf
 all_goals first| exact bo.mk (i+1) om (by omega) su| (simp at hc;done) | trace_state
abbrev W5 (ls:List (List Int)) (ws:List Int):aN→SS→Prop:=D9 2 (thenS (vy N7.results [eb ls,.lit 1 (ws.map (V.int .u8))] fun r=>r=⟨.bool true,[]⟩) fun S'=>oe E (xE Lk 8) S' (vy N7.results [eb ls,.lit 1 (ws.map (V.int .u8))] fun r=>r=⟨.bool true,[]⟩))
theorem yb (ls:List (List Int)) (ws:List Int) {d0:Int} {ds:List Int} {m x:bA} (hm:Iz m) (pH:uA m) (hx:B6 d0 m x) (Pl: ∀d ∈ ds,d0<d) (Pm:ds.length≤1000) {g6 gx:Nat} {S:SS}
  (hS:SS.Sub ⟨[(5,.bool true),(6,.ptr 112 g6 0 0),(8,.ptr 144 gx 0 0),(68,.lit 1 (ds.map vi)),(69,aL ds.length),(70,aL 0)],[(112,⟨g6,4,false,false,some [m.v]⟩),(144,⟨gx,4,false,false,some [x.v]⟩)]⟩ S):
  a8 E IZ S (W5 ls ws):=by
 refine a8.by (fun (k:Nat)=> ⟨[(5,.bool true),(6,.ptr 112 g6 0 0),(8,.ptr 144 gx 0 0),(68,.lit 1 (ds.map vi)),(69,aL ds.length),(70,aL k)],[(112,⟨g6,4,false,false,some [m.v]⟩),(144,⟨gx,4,false,false,some [x.v]⟩)]⟩)
  (fun k=>k≤ds.length) (fun k=>ds.length - k) 0 hS (by omega) ?_
 intro k hk
 by_cases bz:k<ds.length
 case neg=>
  conv=>whnf
  repeat' (first| intro g| refine st ?_| refine br ?_ ?_<;>intro hc| rfl) <;>conv=>whnf
 obtain⟨d,hd⟩: ∃d,ds[k]? =some d:=⟨_,bp bz⟩
 have bQ:d≠d0:=by have:=Pl d (List.mem_of_getElem? hd);omega
 obtain⟨l,h1,h2,h3⟩:=hx.all hm pH bQ
 have h4:=EA (l:=l) (by omega)
 conv=>whnf
 repeat' (first| intro g| refine wi (aA hd rfl) ?_| apply ca h2| apply ca h3| apply ca h4| refine st ?_| refine br ?_ ?_<;>intro hc| rfl) <;>conv=>whnf
 exact bo.mk (k+1) om (by omega) su
theorem rI (Pn:Ev E 521 [] ⟨.bool true,[]⟩) {ls:List (List Int)} (hs:si ls) {ws:List Int} (kZ:ws.length< 9223372036854775808) (hw: ∀x ∈ ws,0≤x∧x< 256):Ev E 781 [eb ls,.lit 1 (ws.map (V.int .u8))] ⟨.bool true,[]⟩:=by
 obtain⟨m,B7,pH,Kz⟩:=Ez hs
 obtain⟨ds,Pm,W6,Vg⟩:=G9 B7.f B7.w B7.p
 have Po:du E 524=[]:=rfl
 refine Ev.aO rfl rfl rfl ?_
 conv=>whnf
 repeat' (first| ((exfalso;omega)) | intro g| apply ca Pn| apply ca Kz| apply ca Vg| refine st ?_| refine br ?_ ?_<;>intro hc| rfl) <;>conv=>whnf
 rename_i g6
 obtain⟨d0,KA,rfl⟩: ∃d KA,ds=d::KA:=by
  cases ds with
  | nil=>exact absurd (by decide) hc
  | cons d KA=>exact⟨d,KA,rfl⟩
 obtain⟨Pl,-⟩:=List.pairwise_cons.1 W6
 have L4:KA.length≤1000:=by simp at Pm;omega
 obtain⟨gx,hg⟩: ∃x,x=g:=⟨_,rfl⟩
 rw[←hg];clear hg g
 refine a8.by (fun ((k,x):Nat×bA)=> ⟨[(1,.lit 1 (ws.map (V.int .u8))),(5,.bool true),(6,.ptr 112 g6 0 0),(7,.lit 1 ((d0::KA).map vi)),(8,.ptr 144 gx 0 0),(9,aL k)],[(112,⟨g6,4,false,false,some [m.v]⟩),(144,⟨gx,4,false,false,some [x.v]⟩)]⟩)
  (fun (k,x)=>k≤4∧B6 d0 m x) (fun (k,_)=>4 - k) (0,m) su ⟨by omega,⟨.refl _ _,B7,fun _=>rfl⟩⟩ ?_
 clear Vg Kz Pn hs
 rintro⟨k,x⟩ ⟨hk,hx⟩
 try dsimp only at hk hx
 obtain⟨l,Ny,xD,N5⟩:=hx.step
 by_cases bz:k<ws.length
 case neg=>
  conv=>whnf
  repeat' (first| intro g| refine st ?_| refine br ?_ ?_<;>intro hc| rfl) <;>conv=>whnf
  exact yb ls ws B7 pH hx Pl L4 su
 by_cases YR:k< 4
 case neg=>
  conv=>whnf
  repeat' (first| intro g| refine st ?_| refine br ?_ ?_<;>intro hc| rfl) <;>conv=>whnf
  exact yb ls ws B7 pH hx Pl L4 su
 obtain⟨t,ht⟩: ∃x,ws[k]? =some x:=⟨_,bp bz⟩
 obtain⟨YS,YT⟩:=hw t (List.mem_of_getElem? ht)
 by_cases hz:l.length=0
 ·obtain rfl:=List.length_eq_zero_iff.1 hz
  conv=>whnf
  repeat' (first| intro g| apply ca xD| refine st ?_| refine br ?_ ?_<;>intro hc| rfl) <;>conv=>whnf
  exact yb ls ws B7 pH hx Pl L4 su
 have w1:IntKind.i64.wrap t=t:=wrap64 (by omega) (by omega)
 have j0:0≤(IntKind.i64.wrap t).tmod ((l.map Event.v).length:Int):=Int.tmod_nonneg _ (by omega)
 have j1: (IntKind.i64.wrap t).tmod ((l.map Event.v).length:Int) <l.length:=by rw[List.length_map];exact Int.tmod_lt_of_pos _ (by omega)
 obtain⟨e,he⟩: ∃e,l[((IntKind.i64.wrap t).tmod ((l.map Event.v).length:Int)).toNat]? =some e:=⟨_,bp (by omega)⟩
 have nQ: (l.map Event.v)[((IntKind.i64.wrap t).tmod ((l.map Event.v).length:Int)).toNat]? =some e.v:=by rw[List.getElem?_map,he];rfl
 clear w1
 obtain⟨v,M,k1,k2,k3⟩:=N5 e (List.mem_of_getElem? he)
 have hp:V.al [x.v,vi e.id,vi e.n]=true:=rfl
 conv=>whnf
 repeat' (first| refine GH Po hp k1 k2 ?_| intro g| refine nd ⟨j0,rfl⟩ ?_| refine wi (aA ht rfl) ?_| refine wi nQ ?_| apply ca xD| refine st ?_| refine br ?_ ?_<;>intro hc| rfl) <;>conv=>whnf
 exact bo.mk (k+1,M) om ⟨by omega,k3⟩ su
end Go.AM.Dr
