/-
  Texts of the proof, joined by program: SMadeK, SMadeL. Own work.
-/
import Derived.Test.YtkdfnbahehdhmaaGreatData
import Derived.Test.YtkdfnbahehdhmaaGreatMd
import Derived.Test.YtkdfnbahehdhmaaGreatMc
set_option linter.unusedSimpArgs false
set_option linter.unusedVariables false
set_option maxRecDepth 20000
namespace Go.AM
def yc (ps:List Place) (n:Nat):Prop:=ps.length≤n∧ ∀ (i:Nat) (p:Place),ps[i]? =some p→p.id=61+(i:Int)
theorem yc.snoc {ps:List Place} {n:Nat} {p:Place} (h:yc ps n) (k:p.id=61+(ps.length:Int)):yc (ps++[p]) (n+1):=by
 refine⟨by have:=h.1;simp;omega,fun i x hx=> ?_⟩
 by_cases hi:i<ps.length
 · rw[List.getElem?_append_left hi] at hx
   exact h.2 i x hx
 · rw[List.getElem?_append_right (by omega)] at hx
   have hl:i - ps.length=0:=by
    have:=(List.getElem?_eq_some_iff.1 hx).1
    simp at this;omega
   rw[hl] at hx
   obtain rfl:p=x:=by simpa using hx
   rw[k];congr 1;omega
theorem yc.mono {ps:List Place} {n m:Nat} (h:yc ps n) (k:n≤m):yc ps m:=⟨Nat.le_trans h.1 k,h.2⟩
set_option maxHeartbeats 4000000 in
theorem Ep {l:List Int} (hl:l.length< 9223372036854775808) {m:aQ} {n:Nat} (he:ij m.aH n) (hn:n< 1000) (hf:m.bn.length< 1000): ∃res,Ev E 87 [m.v,.lit 1 (l.map vi)] res∧ ∃ps:List Place,yc ps 6∧res=⟨.own 7 (ps.map Place.v),[]⟩:=by
 refine Ev.cO aa6 (aa7 _) rfl ?_
 have n2:=fun a=>b8 hl 2 (a:=a) (by omega) (by omega)
 have n3:=fun a=>b8 hl 3 (a:=a) (by omega) (by omega)
 have n5:=fun a=>b8 hl 5 (a:=a) (by omega) (by omega)
 have n10:=fun a=>b8 hl 10 (a:=a) (by omega) (by omega)
 have n51:=fun a=>b8 hl 51 (a:=a) (by omega) (by omega)
 have Xb:=fun a=>b8 hl 60 (a:=a) (by omega) (by omega)
 have n7:=b8 hl 7 (a:=0) (by omega) (by omega)
 have hb:=gH (l:=l) (a:=0) (n:=7) (by omega) (by omega)
 generalize fm l 0 7=many at hb n7
 have nk: ∀x y,∃rb:Int×Bool,Ev E 121 [.lit 4 (m.aH.map Edge.v),.agg [vi x,vi y]] ⟨.tuple [vi rb.1,.bool rb.2],[]⟩:=by
   intro x y
   obtain⟨r,b,h⟩:=Rg he hn ⟨x,y⟩
   exact⟨(r,b),h⟩
 obtain⟨fr,nk⟩: ∃f:Int→Int→Int×Bool,∀x y,Ev E 121 [.lit 4 (m.aH.map Edge.v),.agg [vi x,vi y]] ⟨.tuple [vi (f x y).1,.bool (f x y).2],[]⟩:=⟨fun x y=> (nk x y).choose,fun x y=> (nk x y).choose_spec⟩
 obtain⟨fd,hd⟩: ∃f:Int→Int,∀x,Ev E 122 [m.v,vi x] ⟨vi (f x),[]⟩:=⟨fun x=> (qF m hf x).choose,fun x=> (qF m hf x).choose_spec⟩
 (conv=>whnf);repeat' ((first| intro g| refine ag.mk _ (n7) ?_| refine st ?_| (refine aL.bP ?_;intro s) | (first| refine b1 ?_ ?_| refine b2 ?_ ?_| refine Br.mk ?_ ?_) <;>intro hc| exact rfl) <;>conv=>whnf)
 rename_i g2 _ gd
 refine aV.by (fun ((k,ps,a,g):Nat×List Place×Nat×Nat)=> ⟨[(2,.ptr 48 g2 0 0),(5,.ptr 256 gd 0 0),(6,.sl 113 g 0 ps.length),(7,aD many),(8,aD k)],
    [(48,⟨g2,4,false,false,some [m.v]⟩),(256,⟨gd,2,false,false,some [c8 l a]⟩),(113,⟨g,7,true,false,some (ps.map Place.v)⟩)]⟩)
   (fun (k,ps,a,g)=>k≤many∧yc ps k) (fun (k,_)=>many - k) (0,[],b5 l 0,g) (by(refine⟨?_,?_⟩ <;>repeat' (first| exact True.intro| refine ai ?_| refine And.intro ?_ ?_))) ⟨by simp,by simp,by simp⟩ ?_
 rintro⟨k,ps,a,g⟩ ⟨hk,hp⟩
 try dsimp only at hk hp
 by_cases bl:k<many
 · have hpl:=hp.1
   have GN:IntKind.i64.wrap (61+(ps.length:Int))=61+(ps.length:Int):=wrap64 (by omega) (by omega)
   (conv=>whnf);repeat' ((first| intro g| refine ag.mk _ (n2 _) ?_| refine ag.mk _ (n3 _) ?_| refine ag.mk _ (n5 _) ?_| refine ag.mk _ (n10 _) ?_| refine ag.mk _ (n51 _) ?_| refine ag.mk _ (Xb _) ?_| refine ag.mk _ (nk _ _) ?_| refine ag.mk _ (hd _) ?_| refine st ?_| (refine aL.bP ?_;intro s) | (first| refine b1 ?_ ?_| refine b2 ?_ ?_| refine Br.mk ?_ ?_) <;>intro hc| exact rfl) <;>conv=>whnf)
   · exact a9.mk (k+1,ps++[⟨IntKind.i64.wrap (61+(ps.length:Int)),_,_,_,_,_,_⟩],_,g) (by first| omega| (dsimp only;omega)) ⟨(by first| omega| (dsimp only;omega)),hp.snoc GN⟩ (by(refine⟨?_,?_⟩ <;>repeat' (first| exact True.intro| refine ai ?_| refine And.intro ?_ ?_)))
   · exact a9.mk (k+1,ps,_,_) (by first| omega| (dsimp only;omega)) ⟨(by first| omega| (dsimp only;omega)),hp.mono (by omega)⟩ (by(refine⟨?_,?_⟩ <;>repeat' (first| exact True.intro| refine ai ?_| refine And.intro ?_ ?_)))
   · exact a9.mk (k+1,ps,_,_) (by first| omega| (dsimp only;omega)) ⟨(by first| omega| (dsimp only;omega)),hp.mono (by omega)⟩ (by(refine⟨?_,?_⟩ <;>repeat' (first| exact True.intro| refine ai ?_| refine And.intro ?_ ?_)))
   · exact a9.mk (k+1,ps++[⟨IntKind.i64.wrap (61+(ps.length:Int)),_,_,_,_,_,_⟩],_,g) (by first| omega| (dsimp only;omega)) ⟨(by first| omega| (dsimp only;omega)),hp.snoc GN⟩ (by(refine⟨?_,?_⟩ <;>repeat' (first| exact True.intro| refine ai ?_| refine And.intro ?_ ?_)))
   · exact a9.mk (k+1,ps,_,_) (by first| omega| (dsimp only;omega)) ⟨(by first| omega| (dsimp only;omega)),hp.mono (by omega)⟩ (by(refine⟨?_,?_⟩ <;>repeat' (first| exact True.intro| refine ai ?_| refine And.intro ?_ ?_)))
   · exact a9.mk (k+1,ps,_,_) (by first| omega| (dsimp only;omega)) ⟨(by first| omega| (dsimp only;omega)),hp.mono (by omega)⟩ (by(refine⟨?_,?_⟩ <;>repeat' (first| exact True.intro| refine ai ?_| refine And.intro ?_ ?_)))
 · (conv=>whnf);repeat' ((first| intro g| refine st ?_| (refine aL.bP ?_;intro s) | (first| refine b1 ?_ ?_| refine b2 ?_ ?_| refine Br.mk ?_ ?_) <;>intro hc| exact rfl) <;>conv=>whnf)
   exact⟨ps,hp.mono (by omega),rfl⟩
end Go.AM
set_option maxRecDepth 20000
namespace Go.AM
theorem yd {ls:List (List Int)} (hs:sJ ls) (i:Nat) (hi:i< 1000): ∃l:List Int,l.length< 9223372036854775808∧Ev E 84 [fU ls,aD i] ⟨fb l,[]⟩:=by
 have hl:=hs.1
 by_cases h:i<ls.length
 · obtain⟨l,hx⟩: ∃l,ls[i]? =some l:=⟨_,aE h⟩
   refine⟨l,hs.2 _ (List.mem_of_getElem? hx),?_⟩
   refine Ev.aG UF (UG _) rfl ?_
   (conv=>whnf);repeat' ((first| intro g| refine aL.mk _ (ik hx) ?_| refine st ?_| (refine aL.bP ?_;intro s) | (first| refine b1 ?_ ?_| refine b2 ?_ ?_| refine Br.mk ?_ ?_) <;>intro hc| exact rfl) <;>conv=>whnf)
 · refine⟨[],by simp,?_⟩
   refine Ev.aG UF (UG _) rfl ?_
   (conv=>whnf);repeat' ((first| intro g| refine st ?_| (refine aL.bP ?_;intro s) | (first| refine b1 ?_ ?_| refine b2 ?_ ?_| refine Br.mk ?_ ?_) <;>intro hc| exact rfl) <;>conv=>whnf)
theorem qG {α:Type} {f:α→V} {l:List α} {k n:Nat} (h:n=min k l.length):aN (l.map f) 0 n=(l.take k).map f:=by
 subst h
 unfold aN
 rw[List.drop_zero,←List.map_take,List.take_eq_take_min (i:=k)]
theorem abr {α:Type} {f:α→V} {l:List α} {k:Nat} {a b c:V} (x:α): (((((l.map f).set ((k:Int)).toNat a).set ((k:Int)).toNat b).set ((k:Int)).toNat c).set ((k:Int)).toNat (f x))=(l.set k x).map f:=by
 simp only[List.set_set,List.map_set,Int.toNat_natCast]
theorem abt (n:Nat): (if (3:Int) < (n:Int) then(3:Int) else(n:Int)).toNat=min 3 n:=by
 split<;>omega
structure aQ.Kl (m:aQ):Prop where
 aH:ij m.aH 18
 bn:m.bn.length≤36
 ways:rX m.ways 12
 aZ:yc m.aZ 6
def aQ.vo (m:aQ):V:= .agg [.lit 4 (m.aH.map Edge.v),.lit 5 (m.bn.map aI.v),.lit 8 (m.ways.map Way.v),.own 7 (m.aZ.map Place.v)]
set_option maxHeartbeats 4000000 in
theorem Er {ls:List (List Int)} (hs:sJ ls): ∃res,Ev E 77 [fU ls] res∧ ∃m:aQ,aQ.Kl m∧res=⟨m.vo,[]⟩:=by
 refine Ev.cO aaU (aaV _) rfl ?_
 have C2:sJ (ls.take 3):=⟨by have:=hs.1;simp;omega,fun l h=>hs.2 l (List.mem_of_mem_take h)⟩
 obtain⟨l3,h3,p3⟩:=yd hs 3 (by omega)
 obtain⟨l4,h4,p4⟩:=yd hs 4 (by omega)
 obtain⟨l5,h5,p5⟩:=yd hs 5 (by omega)
 have n2:=fun a=>b8 h3 2 (a:=a) (by omega) (by omega)
 have n3:=fun a=>b8 h3 3 (a:=a) (by omega) (by omega)
 have n4:=fun a=>b8 h3 4 (a:=a) (by omega) (by omega)
 have n6:=fun a=>b8 h3 6 (a:=a) (by omega) (by omega)
 have Xb:=fun a=>b8 h3 60 (a:=a) (by omega) (by omega)
 have hl:=hs.1
 (conv=>whnf);repeat' ((first| intro g| refine aL.mk _ (qG (k:=3) (by rw[List.length_map];exact abt _)) ?_| refine st ?_| (refine aL.bP ?_;intro s) | (first| refine b1 ?_ ?_| refine b2 ?_ ?_| refine Br.mk ?_ ?_) <;>intro hc| exact rfl) <;>conv=>whnf)
 refine ag.ex (El C2) ?_
 rintro _ ⟨es,fs,he,hf,rfl⟩
 (conv=>whnf);repeat' ((first| intro g| refine ag.mk _ (p3) ?_| refine st ?_| (refine aL.bP ?_;intro s) | (first| refine b1 ?_ ?_| refine b2 ?_ ?_| refine Br.mk ?_ ?_) <;>intro hc| exact rfl) <;>conv=>whnf)
 rename_i g2 g3 gf
 obtain⟨n,hn⟩: ∃n,fs.length=n:=⟨_,rfl⟩
 refine aV.by (fun ((k,fs,a):Nat×List aI×Nat)=> ⟨[(0,fU ls),(2,.ptr 48 g2 0 0),(3,.ptr 64 g3 0 0),(4,.ptr 352 g 0 0),(5,aD k)],
    [(48,⟨g2,4,false,false,some [.agg [.lit 4 [],.lit 5 [],.lit 8 [],.lit 7 []]]⟩),(64,⟨g3,4,false,false,some [.agg [.lit 4 (es.map Edge.v),.sl 232 gf 0 n,.lit 8 [],.lit 7 []]]⟩),(232,⟨gf,5,true,false,some (fs.map aI.v)⟩),(352,⟨g,2,false,false,some [c8 l3 a]⟩)]⟩)
   (fun (k,fs,a)=>k≤n∧fs.length=n) (fun (k,fs,_)=>n - k) (0,fs,0) (by subst hn; (refine⟨?_,?_⟩ <;>repeat' (first| exact True.intro| refine ai ?_| refine And.intro ?_ ?_))) ⟨by simp,hn⟩ ?_
 rw[hn] at hf;clear hn
 rintro⟨k,fs,a⟩ ⟨hk,tZ⟩
 try dsimp only at hk tZ
 by_cases bl:k<n
 · obtain⟨f,hx⟩: ∃f,fs[k]? =some f:=⟨_,aE (by omega)⟩
   (conv=>whnf);repeat' ((first| intro g| refine aL.mk _ (lV (lV (lV (aq hx rfl)))) ?_| refine aL.mk _ (lV (lV (aq hx rfl))) ?_| refine aL.mk _ (lV (aq hx rfl)) ?_| refine aL.mk _ (aq hx rfl) ?_| refine ag.mk _ (n2 _) ?_| refine ag.mk _ (n3 _) ?_| refine ag.mk _ (n4 _) ?_| refine ag.mk _ (n6 _) ?_| refine ag.mk _ (Xb _) ?_| refine st ?_| (refine aL.bP ?_;intro s) | (first| refine b1 ?_ ?_| refine b2 ?_ ?_| refine Br.mk ?_ ?_) <;>intro hc| exact rfl) <;>conv=>whnf)
   have jP: ∀c nm w d (x y z:V),((((fs.map aI.v).set ((k:Int)).toNat x).set ((k:Int)).toNat y).set ((k:Int)).toNat z).set ((k:Int)).toNat (aI.v ⟨f.id,c,nm,w,d⟩)=(fs.set k ⟨f.id,c,nm,w,d⟩).map aI.v:=fun c nm w d x y z=>abr (f:=aI.v) _
   rename_i cl
   exact a9.mk (k+1,fs.set k ⟨f.id,cl,s,IntKind.i64.wrap (1+((fm l3 (b5 l3 (b5 l3 a)) 60:Nat):Int)),IntKind.i64.wrap (1+(IntKind.i64.wrap (((fm l3 (b5 l3 (b5 l3 (b5 l3 a))) 4:Nat):Int)*((fm l3 (b5 l3 (b5 l3 (b5 l3 (b5 l3 a)))) 2:Nat):Int))).tmod 3)⟩,(b5 l3 (b5 l3 (b5 l3 (b5 l3 (b5 l3 a)))))) (by first| omega| (dsimp only;omega)) ⟨(by first| omega| (dsimp only;omega)),by simp[tZ]⟩ (by(refine⟨?_,?_⟩ <;>repeat' (first| exact True.intro| refine And.intro (congrArg (fun L=> (⟨gf,5,true,false,some L⟩:Obj)) (jP cl s (IntKind.i64.wrap (1+((fm l3 (b5 l3 (b5 l3 a)) 60:Nat):Int))) (IntKind.i64.wrap (1+(IntKind.i64.wrap (((fm l3 (b5 l3 (b5 l3 (b5 l3 a))) 4:Nat):Int)*((fm l3 (b5 l3 (b5 l3 (b5 l3 (b5 l3 a)))) 2:Nat):Int))).tmod 3)) _ _ _)) ?_| refine ai ?_| refine And.intro ?_ ?_)))
 · obtain rfl:k=n:=by omega
   (conv=>whnf);repeat' ((first| intro g| refine ag.mk _ (p4) ?_| refine st ?_| (refine aL.bP ?_;intro s) | (first| refine b1 ?_ ?_| refine b2 ?_ ?_| refine Br.mk ?_ ?_) <;>intro hc| exact rfl) <;>conv=>whnf)
   refine ag.ex (Ke h4) ?_
   rintro _ ⟨ws,hw,rfl⟩
   (conv=>whnf);repeat' ((first| intro g| refine ag.mk _ (p5) ?_| refine st ?_| (refine aL.bP ?_;intro s) | (first| refine b1 ?_ ?_| refine b2 ?_ ?_| refine Br.mk ?_ ?_) <;>intro hc| exact rfl) <;>conv=>whnf)
   refine ag.ex (Ep h5 (m:=⟨es,fs,ws,[]⟩) he (by omega) (by dsimp only;omega)) ?_
   rintro _ ⟨ps,hp,rfl⟩
   (conv=>whnf);repeat' ((first| intro g| refine st ?_| (refine aL.bP ?_;intro s) | (first| refine b1 ?_ ?_| refine b2 ?_ ?_| refine Br.mk ?_ ?_) <;>intro hc| exact rfl) <;>conv=>whnf)
   exact⟨⟨es,fs,ws,ps⟩,⟨he,by dsimp only;omega,hw,hp⟩,rfl⟩
end Go.AM
