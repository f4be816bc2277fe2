/-
  Texts of the proof, joined by program: SMadeK, SMadeL. Own work.
-/
import Derived.Test.YtkdfnbahehdhmaaGreatData
import Derived.Test.YtkdfnbahehdhmaaGreatMd
import Derived.Test.YtkdfnbahehdhmaaGreatMc
set_option linter.unusedSimpArgs false
set_option linter.unusedVariables false
set_option maxRecDepth 20000
namespace Go.AM
def vf (ps:List Place) (n:Nat):Prop:=ps.length≤n∧ ∀ (i:Nat) (p:Place),ps[i]? =some p→p.id=61+(i:Int)
theorem vf.snoc {ps:List Place} {n:Nat} {p:Place} (h:vf ps n) (k:p.id=61+(ps.length:Int)):vf (ps++[p]) (n+1):=by
 refine⟨by have:=h.1;simp;omega,fun i x hx=> ?_⟩
 by_cases hi:i<ps.length
 · rw[List.getElem?_append_left hi] at hx
   exact h.2 i x hx
 · rw[List.getElem?_append_right (by omega)] at hx
   have hl:i - ps.length=0:=by
    have:=(List.getElem?_eq_some_iff.1 hx).1
    simp at this;omega
   rw[hl] at hx
   obtain rfl:p=x:=by simpa using hx
   rw[k];congr 1;omega
theorem vf.mono {ps:List Place} {n m:Nat} (h:vf ps n) (k:n≤m):vf ps m:=⟨Nat.le_trans h.1 k,h.2⟩
set_option maxHeartbeats 4000000 in
theorem AY {l:List Int} (hl:l.length< 9223372036854775808) {m:cJ} {n:Nat} (he:fB m.aY n) (hn:n< 1000) (hf:m.de.length< 1000): ∃res,Ev E 87 [m.v,.lit 1 (l.map vi)] res∧ ∃ps:List Place,vf ps 6∧res=⟨.own 7 (ps.map Place.v),[]⟩:=by
 refine Ev.bT U8 (U9 _) rfl ?_
 have n2:=fun a=>bI hl 2 (a:=a) (by omega) (by omega)
 have n3:=fun a=>bI hl 3 (a:=a) (by omega) (by omega)
 have n5:=fun a=>bI hl 5 (a:=a) (by omega) (by omega)
 have Y3:=fun a=>bI hl 10 (a:=a) (by omega) (by omega)
 have Y4:=fun a=>bI hl 51 (a:=a) (by omega) (by omega)
 have QQ:=fun a=>bI hl 60 (a:=a) (by omega) (by omega)
 have n7:=bI hl 7 (a:=0) (by omega) (by omega)
 have hb:=dX (l:=l) (a:=0) (n:=7) (by omega) (by omega)
 generalize dp l 0 7=many at hb n7
 have pz: ∀x y,∃rb:Int×Bool,Ev E 121 [.lit 4 (m.aY.map Edge.v),.agg [vi x,vi y]] ⟨.tuple [vi rb.1,.bool rb.2],[]⟩:=by
   intro x y
   obtain⟨r,b,h⟩:=K5 he hn ⟨x,y⟩
   exact⟨(r,b),h⟩
 obtain⟨fr,pz⟩: ∃f:Int→Int→Int×Bool,∀x y,Ev E 121 [.lit 4 (m.aY.map Edge.v),.agg [vi x,vi y]] ⟨.tuple [vi (f x y).1,.bool (f x y).2],[]⟩:=⟨fun x y=> (pz x y).choose,fun x y=> (pz x y).choose_spec⟩
 obtain⟨fd,hd⟩: ∃f:Int→Int,∀x,Ev E 122 [m.v,vi x] ⟨vi (f x),[]⟩:=⟨fun x=> (nY m hf x).choose,fun x=> (nY m hf x).choose_spec⟩
 (conv=>whnf);repeat' ((first| intro g| refine ak.mk _ (n7) ?_| refine st ?_| (refine bd.bo ?_;intro s) | (first| refine b1 ?_ ?_| refine b2 ?_ ?_| refine Br.mk ?_ ?_) <;>intro hc| exact rfl) <;>conv=>whnf)
 rename_i g2 _ gd
 refine a9.by (fun ((k,ps,a,g):Nat×List Place×Nat×Nat)=> ⟨[(2,.ptr 48 g2 0 0),(5,.ptr 256 gd 0 0),(6,.sl 113 g 0 ps.length),(7,aM many),(8,aM k)],
    [(48,⟨g2,4,false,false,some [m.v]⟩),(256,⟨gd,2,false,false,some [cz l a]⟩),(113,⟨g,7,true,false,some (ps.map Place.v)⟩)]⟩)
   (fun (k,ps,a,g)=>k≤many∧vf ps k) (fun (k,_)=>many - k) (0,[],bF l 0,g) (by(refine⟨?_,?_⟩ <;>repeat' (first| exact True.intro| refine ai ?_| refine And.intro ?_ ?_))) ⟨by simp,by simp,by simp⟩ ?_
 rintro⟨k,ps,a,g⟩ ⟨hk,hp⟩
 try dsimp only at hk hp
 by_cases bJ:k<many
 · have Uh:=hp.1
   have yG:IntKind.i64.wrap (61+(ps.length:Int))=61+(ps.length:Int):=wrap64 (by omega) (by omega)
   (conv=>whnf);repeat' ((first| intro g| refine ak.mk _ (n2 _) ?_| refine ak.mk _ (n3 _) ?_| refine ak.mk _ (n5 _) ?_| refine ak.mk _ (Y3 _) ?_| refine ak.mk _ (Y4 _) ?_| refine ak.mk _ (QQ _) ?_| refine ak.mk _ (pz _ _) ?_| refine ak.mk _ (hd _) ?_| refine st ?_| (refine bd.bo ?_;intro s) | (first| refine b1 ?_ ?_| refine b2 ?_ ?_| refine Br.mk ?_ ?_) <;>intro hc| exact rfl) <;>conv=>whnf)
   · exact br.mk (k+1,ps++[⟨IntKind.i64.wrap (61+(ps.length:Int)),_,_,_,_,_,_⟩],_,g) (by first| omega| (dsimp only;omega)) ⟨(by first| omega| (dsimp only;omega)),hp.snoc yG⟩ (by(refine⟨?_,?_⟩ <;>repeat' (first| exact True.intro| refine ai ?_| refine And.intro ?_ ?_)))
   · exact br.mk (k+1,ps,_,_) (by first| omega| (dsimp only;omega)) ⟨(by first| omega| (dsimp only;omega)),hp.mono (by omega)⟩ (by(refine⟨?_,?_⟩ <;>repeat' (first| exact True.intro| refine ai ?_| refine And.intro ?_ ?_)))
   · exact br.mk (k+1,ps,_,_) (by first| omega| (dsimp only;omega)) ⟨(by first| omega| (dsimp only;omega)),hp.mono (by omega)⟩ (by(refine⟨?_,?_⟩ <;>repeat' (first| exact True.intro| refine ai ?_| refine And.intro ?_ ?_)))
   · exact br.mk (k+1,ps++[⟨IntKind.i64.wrap (61+(ps.length:Int)),_,_,_,_,_,_⟩],_,g) (by first| omega| (dsimp only;omega)) ⟨(by first| omega| (dsimp only;omega)),hp.snoc yG⟩ (by(refine⟨?_,?_⟩ <;>repeat' (first| exact True.intro| refine ai ?_| refine And.intro ?_ ?_)))
   · exact br.mk (k+1,ps,_,_) (by first| omega| (dsimp only;omega)) ⟨(by first| omega| (dsimp only;omega)),hp.mono (by omega)⟩ (by(refine⟨?_,?_⟩ <;>repeat' (first| exact True.intro| refine ai ?_| refine And.intro ?_ ?_)))
   · exact br.mk (k+1,ps,_,_) (by first| omega| (dsimp only;omega)) ⟨(by first| omega| (dsimp only;omega)),hp.mono (by omega)⟩ (by(refine⟨?_,?_⟩ <;>repeat' (first| exact True.intro| refine ai ?_| refine And.intro ?_ ?_)))
 · (conv=>whnf);repeat' ((first| intro g| refine st ?_| (refine bd.bo ?_;intro s) | (first| refine b1 ?_ ?_| refine b2 ?_ ?_| refine Br.mk ?_ ?_) <;>intro hc| exact rfl) <;>conv=>whnf)
   exact⟨ps,hp.mono (by omega),rfl⟩
end Go.AM
set_option maxRecDepth 20000
namespace Go.AM
theorem vg {ls:List (List Int)} (hs:pU ls) (i:Nat) (hi:i< 1000): ∃l:List Int,l.length< 9223372036854775808∧Ev E 84 [dI ls,aM i] ⟨dM l,[]⟩:=by
 have hl:=hs.1
 by_cases h:i<ls.length
 · obtain⟨l,hx⟩: ∃l,ls[i]? =some l:=⟨_,bu h⟩
   refine⟨l,hs.2 _ (List.mem_of_getElem? hx),?_⟩
   refine Ev.bY N1 (N2 _) rfl ?_
   (conv=>whnf);repeat' ((first| intro g| refine bd.mk _ (fC hx) ?_| refine st ?_| (refine bd.bo ?_;intro s) | (first| refine b1 ?_ ?_| refine b2 ?_ ?_| refine Br.mk ?_ ?_) <;>intro hc| exact rfl) <;>conv=>whnf)
 · refine⟨[],by simp,?_⟩
   refine Ev.bY N1 (N2 _) rfl ?_
   (conv=>whnf);repeat' ((first| intro g| refine st ?_| (refine bd.bo ?_;intro s) | (first| refine b1 ?_ ?_| refine b2 ?_ ?_| refine Br.mk ?_ ?_) <;>intro hc| exact rfl) <;>conv=>whnf)
theorem wy {α:Type} {f:α→V} {l:List α} {k n:Nat} (h:n=min k l.length):aF (l.map f) 0 n=(l.take k).map f:=by
 subst h
 unfold aF
 rw[List.drop_zero,←List.map_take,List.take_eq_take_min (i:=k)]
theorem Vy {α:Type} {f:α→V} {l:List α} {k:Nat} {a b c:V} (x:α): (((((l.map f).set ((k:Int)).toNat a).set ((k:Int)).toNat b).set ((k:Int)).toNat c).set ((k:Int)).toNat (f x))=(l.set k x).map f:=by
 simp only[List.set_set,List.map_set,Int.toNat_natCast]
theorem Vz (n:Nat): (if (3:Int) < (n:Int) then(3:Int) else(n:Int)).toNat=min 3 n:=by
 split<;>omega
structure cJ.QU (m:cJ):Prop where
 aY:fB m.aY 18
 de:m.de.length≤36
 ways:pw m.ways 12
 eH:vf m.eH 6
def cJ.vo (m:cJ):V:= .agg [.lit 4 (m.aY.map Edge.v),.lit 5 (m.de.map df.v),.lit 8 (m.ways.map Way.v),.own 7 (m.eH.map Place.v)]
set_option maxHeartbeats 4000000 in
theorem AZ {ls:List (List Int)} (hs:pU ls): ∃res,Ev E 77 [dI ls] res∧ ∃m:cJ,cJ.QU m∧res=⟨m.vo,[]⟩:=by
 refine Ev.bT U0 (U1 _) rfl ?_
 have z6:pU (ls.take 3):=⟨by have:=hs.1;simp;omega,fun l h=>hs.2 l (List.mem_of_mem_take h)⟩
 obtain⟨l3,h3,p3⟩:=vg hs 3 (by omega)
 obtain⟨l4,h4,p4⟩:=vg hs 4 (by omega)
 obtain⟨l5,h5,p5⟩:=vg hs 5 (by omega)
 have n2:=fun a=>bI h3 2 (a:=a) (by omega) (by omega)
 have n3:=fun a=>bI h3 3 (a:=a) (by omega) (by omega)
 have n4:=fun a=>bI h3 4 (a:=a) (by omega) (by omega)
 have n6:=fun a=>bI h3 6 (a:=a) (by omega) (by omega)
 have QQ:=fun a=>bI h3 60 (a:=a) (by omega) (by omega)
 have hl:=hs.1
 (conv=>whnf);repeat' ((first| intro g| refine bd.mk _ (wy (k:=3) (by rw[List.length_map];exact Vz _)) ?_| refine st ?_| (refine bd.bo ?_;intro s) | (first| refine b1 ?_ ?_| refine b2 ?_ ?_| refine Br.mk ?_ ?_) <;>intro hc| exact rfl) <;>conv=>whnf)
 refine ak.ex (AV z6) ?_
 rintro _ ⟨es,fs,he,hf,rfl⟩
 (conv=>whnf);repeat' ((first| intro g| refine ak.mk _ (p3) ?_| refine st ?_| (refine bd.bo ?_;intro s) | (first| refine b1 ?_ ?_| refine b2 ?_ ?_| refine Br.mk ?_ ?_) <;>intro hc| exact rfl) <;>conv=>whnf)
 rename_i g2 g3 gf
 obtain⟨n,hn⟩: ∃n,fs.length=n:=⟨_,rfl⟩
 refine a9.by (fun ((k,fs,a):Nat×List df×Nat)=> ⟨[(0,dI ls),(2,.ptr 48 g2 0 0),(3,.ptr 64 g3 0 0),(4,.ptr 352 g 0 0),(5,aM k)],
    [(48,⟨g2,4,false,false,some [.agg [.lit 4 [],.lit 5 [],.lit 8 [],.lit 7 []]]⟩),(64,⟨g3,4,false,false,some [.agg [.lit 4 (es.map Edge.v),.sl 232 gf 0 n,.lit 8 [],.lit 7 []]]⟩),(232,⟨gf,5,true,false,some (fs.map df.v)⟩),(352,⟨g,2,false,false,some [cz l3 a]⟩)]⟩)
   (fun (k,fs,a)=>k≤n∧fs.length=n) (fun (k,fs,_)=>n - k) (0,fs,0) (by subst hn; (refine⟨?_,?_⟩ <;>repeat' (first| exact True.intro| refine ai ?_| refine And.intro ?_ ?_))) ⟨by simp,hn⟩ ?_
 rw[hn] at hf;clear hn
 rintro⟨k,fs,a⟩ ⟨hk,qV⟩
 try dsimp only at hk qV
 by_cases bJ:k<n
 · obtain⟨f,hx⟩: ∃f,fs[k]? =some f:=⟨_,bu (by omega)⟩
   (conv=>whnf);repeat' ((first| intro g| refine bd.mk _ (lM (lM (lM (aJ hx rfl)))) ?_| refine bd.mk _ (lM (lM (aJ hx rfl))) ?_| refine bd.mk _ (lM (aJ hx rfl)) ?_| refine bd.mk _ (aJ hx rfl) ?_| refine ak.mk _ (n2 _) ?_| refine ak.mk _ (n3 _) ?_| refine ak.mk _ (n4 _) ?_| refine ak.mk _ (n6 _) ?_| refine ak.mk _ (QQ _) ?_| refine st ?_| (refine bd.bo ?_;intro s) | (first| refine b1 ?_ ?_| refine b2 ?_ ?_| refine Br.mk ?_ ?_) <;>intro hc| exact rfl) <;>conv=>whnf)
   have CU: ∀c nm w d (x y z:V),((((fs.map df.v).set ((k:Int)).toNat x).set ((k:Int)).toNat y).set ((k:Int)).toNat z).set ((k:Int)).toNat (df.v ⟨f.id,c,nm,w,d⟩)=(fs.set k ⟨f.id,c,nm,w,d⟩).map df.v:=fun c nm w d x y z=>Vy (f:=df.v) _
   rename_i cl
   exact br.mk (k+1,fs.set k ⟨f.id,cl,s,IntKind.i64.wrap (1+((dp l3 (bF l3 (bF l3 a)) 60:Nat):Int)),IntKind.i64.wrap (1+(IntKind.i64.wrap (((dp l3 (bF l3 (bF l3 (bF l3 a))) 4:Nat):Int)*((dp l3 (bF l3 (bF l3 (bF l3 (bF l3 a)))) 2:Nat):Int))).tmod 3)⟩,(bF l3 (bF l3 (bF l3 (bF l3 (bF l3 a)))))) (by first| omega| (dsimp only;omega)) ⟨(by first| omega| (dsimp only;omega)),by simp[qV]⟩ (by(refine⟨?_,?_⟩ <;>repeat' (first| exact True.intro| refine And.intro (congrArg (fun L=> (⟨gf,5,true,false,some L⟩:Obj)) (CU cl s (IntKind.i64.wrap (1+((dp l3 (bF l3 (bF l3 a)) 60:Nat):Int))) (IntKind.i64.wrap (1+(IntKind.i64.wrap (((dp l3 (bF l3 (bF l3 (bF l3 a))) 4:Nat):Int)*((dp l3 (bF l3 (bF l3 (bF l3 (bF l3 a)))) 2:Nat):Int))).tmod 3)) _ _ _)) ?_| refine ai ?_| refine And.intro ?_ ?_)))
 · obtain rfl:k=n:=by omega
   (conv=>whnf);repeat' ((first| intro g| refine ak.mk _ (p4) ?_| refine st ?_| (refine bd.bo ?_;intro s) | (first| refine b1 ?_ ?_| refine b2 ?_ ?_| refine Br.mk ?_ ?_) <;>intro hc| exact rfl) <;>conv=>whnf)
   refine ak.ex (FU h4) ?_
   rintro _ ⟨ws,hw,rfl⟩
   (conv=>whnf);repeat' ((first| intro g| refine ak.mk _ (p5) ?_| refine st ?_| (refine bd.bo ?_;intro s) | (first| refine b1 ?_ ?_| refine b2 ?_ ?_| refine Br.mk ?_ ?_) <;>intro hc| exact rfl) <;>conv=>whnf)
   refine ak.ex (AY h5 (m:=⟨es,fs,ws,[]⟩) he (by omega) (by dsimp only;omega)) ?_
   rintro _ ⟨ps,hp,rfl⟩
   (conv=>whnf);repeat' ((first| intro g| refine st ?_| (refine bd.bo ?_;intro s) | (first| refine b1 ?_ ?_| refine b2 ?_ ?_| refine Br.mk ?_ ?_) <;>intro hc| exact rfl) <;>conv=>whnf)
   exact⟨⟨es,fs,ws,ps⟩,⟨he,by dsimp only;omega,hw,hp⟩,rfl⟩
end Go.AM
