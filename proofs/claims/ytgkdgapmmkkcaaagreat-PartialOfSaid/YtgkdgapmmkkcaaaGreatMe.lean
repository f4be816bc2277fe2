/-
  Texts of the proof, joined by program: SMadeK, SMadeL. Own work.
-/
import Derived.Test.YtgkdgapmmkkcaaaGreatData
import Derived.Test.YtgkdgapmmkkcaaaGreatMd
import Derived.Test.YtgkdgapmmkkcaaaGreatMc
set_option linter.unusedSimpArgs false
set_option linter.unusedVariables false
set_option maxRecDepth 20000
namespace Go.AM
def vG (ps:List Place) (n:Nat):Prop:=ps.length≤n∧ ∀ (i:Nat) (p:Place),ps[i]? =some p→p.id=61+(i:Int)
theorem vG.snoc {ps:List Place} {n:Nat} {p:Place} (h:vG ps n) (k:p.id=61+(ps.length:Int)):vG (ps++[p]) (n+1):=by
 refine⟨by have:=h.1;simp;omega,fun i x hx=> ?_⟩
 by_cases hi:i<ps.length
 · rw[List.getElem?_append_left hi] at hx
   exact h.2 i x hx
 · rw[List.getElem?_append_right (by omega)] at hx
   have hl:i - ps.length=0:=by
    have:=(List.getElem?_eq_some_iff.1 hx).1
    simp at this;omega
   rw[hl] at hx
   obtain rfl:p=x:=by simpa using hx
   rw[k];congr 1;omega
theorem vG.mono {ps:List Place} {n m:Nat} (h:vG ps n) (k:n≤m):vG ps m:=⟨Nat.le_trans h.1 k,h.2⟩
set_option maxHeartbeats 4000000 in
theorem A3 {l:List Int} (hl:l.length< 9223372036854775808) {m:br} {n:Nat} (he:gz m.bZ n) (hn:n< 1000) (hf:m.bp.length< 1000): ∃res,Ev E 87 [m.v,.lit 1 (l.map vi)] res∧ ∃ps:List Place,vG ps 6∧res=⟨.own 7 (ps.map Place.v),[]⟩:=by
 refine Ev.cQ Vo (Vp _) rfl ?_
 have n2:=fun a=>b0 hl 2 (a:=a) (by omega) (by omega)
 have n3:=fun a=>b0 hl 3 (a:=a) (by omega) (by omega)
 have n5:=fun a=>b0 hl 5 (a:=a) (by omega) (by omega)
 have Yu:=fun a=>b0 hl 10 (a:=a) (by omega) (by omega)
 have n51:=fun a=>b0 hl 51 (a:=a) (by omega) (by omega)
 have n60:=fun a=>b0 hl 60 (a:=a) (by omega) (by omega)
 have n7:=b0 hl 7 (a:=0) (by omega) (by omega)
 have hb:=fP (l:=l) (a:=0) (n:=7) (by omega) (by omega)
 generalize eI l 0 7=many at hb n7
 have A4: ∀x y,∃rb:Int×Bool,Ev E 121 [.lit 4 (m.bZ.map Edge.v),.agg [vi x,vi y]] ⟨.tuple [vi rb.1,.bool rb.2],[]⟩:=by
   intro x y
   obtain⟨r,b,h⟩:=KJ he hn ⟨x,y⟩
   exact⟨(r,b),h⟩
 obtain⟨fr,A4⟩: ∃f:Int→Int→Int×Bool,∀x y,Ev E 121 [.lit 4 (m.bZ.map Edge.v),.agg [vi x,vi y]] ⟨.tuple [vi (f x y).1,.bool (f x y).2],[]⟩:=⟨fun x y=> (A4 x y).choose,fun x y=> (A4 x y).choose_spec⟩
 obtain⟨fd,hd⟩: ∃f:Int→Int,∀x,Ev E 122 [m.v,vi x] ⟨vi (f x),[]⟩:=⟨fun x=> (pb m hf x).choose,fun x=> (pb m hf x).choose_spec⟩
 (conv=>whnf);repeat' ((first| intro g| refine ag.mk _ (n7) ?_| refine st ?_| (refine aL.bK ?_;intro s) | (first| refine b1 ?_ ?_| refine b2 ?_ ?_| refine Br.mk ?_ ?_) <;>intro hc| exact rfl) <;>conv=>whnf)
 rename_i g2 _ gd
 refine ba.by (fun ((k,ps,a,g):Nat×List Place×Nat×Nat)=> ⟨[(2,.ptr 48 g2 0 0),(5,.ptr 256 gd 0 0),(6,.sl 113 g 0 ps.length),(7,aT many),(8,aT k)],
    [(48,⟨g2,4,false,false,some [m.v]⟩),(256,⟨gd,2,false,false,some [cT l a]⟩),(113,⟨g,7,true,false,some (ps.map Place.v)⟩)]⟩)
   (fun (k,ps,a,g)=>k≤many∧vG ps k) (fun (k,_)=>many - k) (0,[],bW l 0,g) (by(refine⟨?_,?_⟩ <;>repeat' (first| exact True.intro| refine ai ?_| refine And.intro ?_ ?_))) ⟨by simp,by simp,by simp⟩ ?_
 rintro⟨k,ps,a,g⟩ ⟨hk,hp⟩
 try dsimp only at hk hp
 by_cases bA:k<many
 · have GF:=hp.1
   have CA:IntKind.i64.wrap (61+(ps.length:Int))=61+(ps.length:Int):=wrap64 (by omega) (by omega)
   (conv=>whnf);repeat' ((first| intro g| refine ag.mk _ (n2 _) ?_| refine ag.mk _ (n3 _) ?_| refine ag.mk _ (n5 _) ?_| refine ag.mk _ (Yu _) ?_| refine ag.mk _ (n51 _) ?_| refine ag.mk _ (n60 _) ?_| refine ag.mk _ (A4 _ _) ?_| refine ag.mk _ (hd _) ?_| refine st ?_| (refine aL.bK ?_;intro s) | (first| refine b1 ?_ ?_| refine b2 ?_ ?_| refine Br.mk ?_ ?_) <;>intro hc| exact rfl) <;>conv=>whnf)
   · exact bI.mk (k+1,ps++[⟨IntKind.i64.wrap (61+(ps.length:Int)),_,_,_,_,_,_⟩],_,g) (by first| omega| (dsimp only;omega)) ⟨(by first| omega| (dsimp only;omega)),hp.snoc CA⟩ (by(refine⟨?_,?_⟩ <;>repeat' (first| exact True.intro| refine ai ?_| refine And.intro ?_ ?_)))
   · exact bI.mk (k+1,ps,_,_) (by first| omega| (dsimp only;omega)) ⟨(by first| omega| (dsimp only;omega)),hp.mono (by omega)⟩ (by(refine⟨?_,?_⟩ <;>repeat' (first| exact True.intro| refine ai ?_| refine And.intro ?_ ?_)))
   · exact bI.mk (k+1,ps,_,_) (by first| omega| (dsimp only;omega)) ⟨(by first| omega| (dsimp only;omega)),hp.mono (by omega)⟩ (by(refine⟨?_,?_⟩ <;>repeat' (first| exact True.intro| refine ai ?_| refine And.intro ?_ ?_)))
   · exact bI.mk (k+1,ps++[⟨IntKind.i64.wrap (61+(ps.length:Int)),_,_,_,_,_,_⟩],_,g) (by first| omega| (dsimp only;omega)) ⟨(by first| omega| (dsimp only;omega)),hp.snoc CA⟩ (by(refine⟨?_,?_⟩ <;>repeat' (first| exact True.intro| refine ai ?_| refine And.intro ?_ ?_)))
   · exact bI.mk (k+1,ps,_,_) (by first| omega| (dsimp only;omega)) ⟨(by first| omega| (dsimp only;omega)),hp.mono (by omega)⟩ (by(refine⟨?_,?_⟩ <;>repeat' (first| exact True.intro| refine ai ?_| refine And.intro ?_ ?_)))
   · exact bI.mk (k+1,ps,_,_) (by first| omega| (dsimp only;omega)) ⟨(by first| omega| (dsimp only;omega)),hp.mono (by omega)⟩ (by(refine⟨?_,?_⟩ <;>repeat' (first| exact True.intro| refine ai ?_| refine And.intro ?_ ?_)))
 · (conv=>whnf);repeat' ((first| intro g| refine st ?_| (refine aL.bK ?_;intro s) | (first| refine b1 ?_ ?_| refine b2 ?_ ?_| refine Br.mk ?_ ?_) <;>intro hc| exact rfl) <;>conv=>whnf)
   exact⟨ps,hp.mono (by omega),rfl⟩
end Go.AM
set_option maxRecDepth 20000
namespace Go.AM
theorem vH {ls:List (List Int)} (hs:sD ls) (i:Nat) (hi:i< 1000): ∃l:List Int,l.length< 9223372036854775808∧Ev E 84 [fR ls,aT i] ⟨eD l,[]⟩:=by
 have hl:=hs.1
 by_cases h:i<ls.length
 · obtain⟨l,hx⟩: ∃l,ls[i]? =some l:=⟨_,aJ h⟩
   refine⟨l,hs.2 _ (List.mem_of_getElem? hx),?_⟩
   refine Ev.cY Ov (Ow _) rfl ?_
   (conv=>whnf);repeat' ((first| intro g| refine aL.mk _ (gA hx) ?_| refine st ?_| (refine aL.bK ?_;intro s) | (first| refine b1 ?_ ?_| refine b2 ?_ ?_| refine Br.mk ?_ ?_) <;>intro hc| exact rfl) <;>conv=>whnf)
 · refine⟨[],by simp,?_⟩
   refine Ev.cY Ov (Ow _) rfl ?_
   (conv=>whnf);repeat' ((first| intro g| refine st ?_| (refine aL.bK ?_;intro s) | (first| refine b1 ?_ ?_| refine b2 ?_ ?_| refine Br.mk ?_ ?_) <;>intro hc| exact rfl) <;>conv=>whnf)
theorem sH {α:Type} {f:α→V} {l:List α} {k n:Nat} (h:n=min k l.length):aH (l.map f) 0 n=(l.take k).map f:=by
 subst h
 unfold aH
 rw[List.drop_zero,←List.map_take,List.take_eq_take_min (i:=k)]
theorem VD {α:Type} {f:α→V} {l:List α} {k:Nat} {a b c:V} (x:α): (((((l.map f).set ((k:Int)).toNat a).set ((k:Int)).toNat b).set ((k:Int)).toNat c).set ((k:Int)).toNat (f x))=(l.set k x).map f:=by
 simp only[List.set_set,List.map_set,Int.toNat_natCast]
theorem VE (n:Nat): (if (3:Int) < (n:Int) then(3:Int) else(n:Int)).toNat=min 3 n:=by
 split<;>omega
structure br.KL (m:br):Prop where
 bZ:gz m.bZ 18
 bp:m.bp.length≤36
 ways:qk m.ways 12
 aW:vG m.aW 6
def br.vo (m:br):V:= .agg [.lit 4 (m.bZ.map Edge.v),.lit 5 (m.bp.map aK.v),.lit 8 (m.ways.map Way.v),.own 7 (m.aW.map Place.v)]
set_option maxHeartbeats 4000000 in
theorem A5 {ls:List (List Int)} (hs:sD ls): ∃res,Ev E 77 [fR ls] res∧ ∃m:br,br.KL m∧res=⟨m.vo,[]⟩:=by
 refine Ev.cQ Vi (Vj _) rfl ?_
 have zM:sD (ls.take 3):=⟨by have:=hs.1;simp;omega,fun l h=>hs.2 l (List.mem_of_mem_take h)⟩
 obtain⟨l3,h3,p3⟩:=vH hs 3 (by omega)
 obtain⟨l4,h4,p4⟩:=vH hs 4 (by omega)
 obtain⟨l5,h5,p5⟩:=vH hs 5 (by omega)
 have n2:=fun a=>b0 h3 2 (a:=a) (by omega) (by omega)
 have n3:=fun a=>b0 h3 3 (a:=a) (by omega) (by omega)
 have n4:=fun a=>b0 h3 4 (a:=a) (by omega) (by omega)
 have n6:=fun a=>b0 h3 6 (a:=a) (by omega) (by omega)
 have n60:=fun a=>b0 h3 60 (a:=a) (by omega) (by omega)
 have hl:=hs.1
 (conv=>whnf);repeat' ((first| intro g| refine aL.mk _ (sH (k:=3) (by rw[List.length_map];exact VE _)) ?_| refine st ?_| (refine aL.bK ?_;intro s) | (first| refine b1 ?_ ?_| refine b2 ?_ ?_| refine Br.mk ?_ ?_) <;>intro hc| exact rfl) <;>conv=>whnf)
 refine ag.ex (AY zM) ?_
 rintro _ ⟨es,fs,he,hf,rfl⟩
 (conv=>whnf);repeat' ((first| intro g| refine ag.mk _ (p3) ?_| refine st ?_| (refine aL.bK ?_;intro s) | (first| refine b1 ?_ ?_| refine b2 ?_ ?_| refine Br.mk ?_ ?_) <;>intro hc| exact rfl) <;>conv=>whnf)
 rename_i g2 g3 gf
 obtain⟨n,hn⟩: ∃n,fs.length=n:=⟨_,rfl⟩
 refine ba.by (fun ((k,fs,a):Nat×List aK×Nat)=> ⟨[(0,fR ls),(2,.ptr 48 g2 0 0),(3,.ptr 64 g3 0 0),(4,.ptr 352 g 0 0),(5,aT k)],
    [(48,⟨g2,4,false,false,some [.agg [.lit 4 [],.lit 5 [],.lit 8 [],.lit 7 []]]⟩),(64,⟨g3,4,false,false,some [.agg [.lit 4 (es.map Edge.v),.sl 232 gf 0 n,.lit 8 [],.lit 7 []]]⟩),(232,⟨gf,5,true,false,some (fs.map aK.v)⟩),(352,⟨g,2,false,false,some [cT l3 a]⟩)]⟩)
   (fun (k,fs,a)=>k≤n∧fs.length=n) (fun (k,fs,_)=>n - k) (0,fs,0) (by subst hn; (refine⟨?_,?_⟩ <;>repeat' (first| exact True.intro| refine ai ?_| refine And.intro ?_ ?_))) ⟨by simp,hn⟩ ?_
 rw[hn] at hf;clear hn
 rintro⟨k,fs,a⟩ ⟨hk,pQ⟩
 try dsimp only at hk pQ
 by_cases bA:k<n
 · obtain⟨f,hx⟩: ∃f,fs[k]? =some f:=⟨_,aJ (by omega)⟩
   (conv=>whnf);repeat' ((first| intro g| refine aL.mk _ (kG (kG (kG (au hx rfl)))) ?_| refine aL.mk _ (kG (kG (au hx rfl))) ?_| refine aL.mk _ (kG (au hx rfl)) ?_| refine aL.mk _ (au hx rfl) ?_| refine ag.mk _ (n2 _) ?_| refine ag.mk _ (n3 _) ?_| refine ag.mk _ (n4 _) ?_| refine ag.mk _ (n6 _) ?_| refine ag.mk _ (n60 _) ?_| refine st ?_| (refine aL.bK ?_;intro s) | (first| refine b1 ?_ ?_| refine b2 ?_ ?_| refine Br.mk ?_ ?_) <;>intro hc| exact rfl) <;>conv=>whnf)
   have je: ∀c nm w d (x y z:V),((((fs.map aK.v).set ((k:Int)).toNat x).set ((k:Int)).toNat y).set ((k:Int)).toNat z).set ((k:Int)).toNat (aK.v ⟨f.id,c,nm,w,d⟩)=(fs.set k ⟨f.id,c,nm,w,d⟩).map aK.v:=fun c nm w d x y z=>VD (f:=aK.v) _
   rename_i cl
   exact bI.mk (k+1,fs.set k ⟨f.id,cl,s,IntKind.i64.wrap (1+((eI l3 (bW l3 (bW l3 a)) 60:Nat):Int)),IntKind.i64.wrap (1+(IntKind.i64.wrap (((eI l3 (bW l3 (bW l3 (bW l3 a))) 4:Nat):Int)*((eI l3 (bW l3 (bW l3 (bW l3 (bW l3 a)))) 2:Nat):Int))).tmod 3)⟩,(bW l3 (bW l3 (bW l3 (bW l3 (bW l3 a)))))) (by first| omega| (dsimp only;omega)) ⟨(by first| omega| (dsimp only;omega)),by simp[pQ]⟩ (by(refine⟨?_,?_⟩ <;>repeat' (first| exact True.intro| refine And.intro (congrArg (fun L=> (⟨gf,5,true,false,some L⟩:Obj)) (je cl s (IntKind.i64.wrap (1+((eI l3 (bW l3 (bW l3 a)) 60:Nat):Int))) (IntKind.i64.wrap (1+(IntKind.i64.wrap (((eI l3 (bW l3 (bW l3 (bW l3 a))) 4:Nat):Int)*((eI l3 (bW l3 (bW l3 (bW l3 (bW l3 a)))) 2:Nat):Int))).tmod 3)) _ _ _)) ?_| refine ai ?_| refine And.intro ?_ ?_)))
 · obtain rfl:k=n:=by omega
   (conv=>whnf);repeat' ((first| intro g| refine ag.mk _ (p4) ?_| refine st ?_| (refine aL.bK ?_;intro s) | (first| refine b1 ?_ ?_| refine b2 ?_ ?_| refine Br.mk ?_ ?_) <;>intro hc| exact rfl) <;>conv=>whnf)
   refine ag.ex (Fs h4) ?_
   rintro _ ⟨ws,hw,rfl⟩
   (conv=>whnf);repeat' ((first| intro g| refine ag.mk _ (p5) ?_| refine st ?_| (refine aL.bK ?_;intro s) | (first| refine b1 ?_ ?_| refine b2 ?_ ?_| refine Br.mk ?_ ?_) <;>intro hc| exact rfl) <;>conv=>whnf)
   refine ag.ex (A3 h5 (m:=⟨es,fs,ws,[]⟩) he (by omega) (by dsimp only;omega)) ?_
   rintro _ ⟨ps,hp,rfl⟩
   (conv=>whnf);repeat' ((first| intro g| refine st ?_| (refine aL.bK ?_;intro s) | (first| refine b1 ?_ ?_| refine b2 ?_ ?_| refine Br.mk ?_ ?_) <;>intro hc| exact rfl) <;>conv=>whnf)
   exact⟨⟨es,fs,ws,ps⟩,⟨he,by dsimp only;omega,hw,hp⟩,rfl⟩
end Go.AM
