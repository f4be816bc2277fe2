/-
  Texts of the proof, joined by program: SMadeK, SMadeL, FkL0. Own work.
-/
import Derived.Test.YtinmckmdbepjcaaData
import Derived.Test.YtinmckmdbepjcaaMd
import Derived.Test.YtinmckmdbepjcaaMc
import Derived.Test.YtinmckmdbepjcaaGc
set_option linter.unusedSimpArgs false
set_option linter.unusedVariables false
set_option maxRecDepth 20000
namespace Go.AM
def xh (ps:List Place) (n:Nat):Prop:=ps.length≤n∧(∀ (i:Nat) (p:Place),ps[i]? =some p→p.id=61+(i:Int))∧ ∀p ∈ ps,p.bg< 99
theorem xh.snoc {ps:List Place} {n:Nat} {p:Place} (h:xh ps n) (k:p.id=61+(ps.length:Int)) (kd:p.bg< 99):xh (ps++[p]) (n+1):=by
 refine⟨by have:=h.1;simp;omega,fun i x hx=> ?_,fun x hx=>by
   rcases List.mem_append.1 hx with hx| hx
   · exact h.2.2 x hx
   · have:x=p:=by simpa using hx
     subst this;exact kd⟩
 by_cases hi:i<ps.length
 · rw[List.getElem?_append_left hi] at hx
   exact h.2.1 i x hx
 · rw[List.getElem?_append_right (by omega)] at hx
   have hl:i - ps.length=0:=by
     have:=(List.getElem?_eq_some_iff.1 hx).1
     simp at this;omega
   rw[hl] at hx
   obtain rfl:p=x:=by simpa using hx
   rw[k];congr 1;omega
theorem xh.mono {ps:List Place} {n m:Nat} (h:xh ps n) (k:n≤m):xh ps m:=⟨Nat.le_trans h.1 k,h.2⟩
set_option maxHeartbeats 4000000 in
theorem Dd {l:List Int} (hl:l.length< 9223372036854775808) {m:aG} {n:Nat} (he:hG m.an n) (hn:n< 1000) (hf:m.ah.length< 1000) (Zb: ∀f ∈ m.ah,f.bg< 99): ∃res,Ev E 87 [m.v,.lit 1 (l.map vi)] res∧ ∃ps:List Place,xh ps 6∧res=⟨.own 7 (ps.map Place.v),[]⟩:=by
 refine Ev.cQ SM (SN _) rfl ?_
 have n2:=fun a=>cg hl 2 (a:=a) (by omega) (by omega)
 have n3:=fun a=>cg hl 3 (a:=a) (by omega) (by omega)
 have n5:=fun a=>cg hl 5 (a:=a) (by omega) (by omega)
 have Wm:=fun a=>cg hl 10 (a:=a) (by omega) (by omega)
 have n51:=fun a=>cg hl 51 (a:=a) (by omega) (by omega)
 have n60:=fun a=>cg hl 60 (a:=a) (by omega) (by omega)
 have n7:=cg hl 7 (a:=0) (by omega) (by omega)
 have hb:=gA (l:=l) (a:=0) (n:=7) (by omega) (by omega)
 generalize fg l 0 7=many at hb n7
 have De: ∀x y,∃rb:Int×Bool,Ev E 121 [.lit 4 (m.an.map Edge.v),.agg [vi x,vi y]] ⟨.tuple [vi rb.1,.bool rb.2],[]⟩:=by
   intro x y
   obtain⟨r,b,h⟩:=LJ he hn ⟨x,y⟩
   exact⟨(r,b),h⟩
 obtain⟨fr,De⟩: ∃f:Int→Int→Int×Bool,∀x y,Ev E 121 [.lit 4 (m.an.map Edge.v),.agg [vi x,vi y]] ⟨.tuple [vi (f x y).1,.bool (f x y).2],[]⟩:=⟨fun x y=> (De x y).choose,fun x y=> (De x y).choose_spec⟩
 obtain⟨fd,hd9,hd⟩: ∃f:Int→Int,(∀x,f x< 99)∧ ∀x,Ev E 122 [m.v,vi x] ⟨vi (f x),[]⟩:=⟨fun x=> (qA m hf x).choose,fun x=>by
   show (qA m hf x).choose< 99
   rcases(qA m hf x).choose_spec.1 with h| ⟨f,h1,h2⟩
   · rw[h];decide
   · rw[←h2];exact Zb f h1,fun x=> (qA m hf x).choose_spec.2⟩
 (conv=>whnf);repeat' ((first| intro g| refine ag.mk _ (n7) ?_| refine st ?_| (refine aH.bR ?_;intro s) | (first| refine b1 ?_ ?_| refine b2 ?_ ?_| refine Br.mk ?_ ?_) <;>intro hc| exact rfl) <;>conv=>whnf)
 rename_i g2 _ gd
 refine ba.by (fun ((k,ps,a,g):Nat×List Place×Nat×Nat)=> ⟨[(2,.ptr 48 g2 0 0),(5,.ptr 256 gd 0 0),(6,.sl 113 g 0 ps.length),(7,aF many),(8,aF k)],
    [(48,⟨g2,4,false,false,some [m.v]⟩),(256,⟨gd,2,false,false,some [de l a]⟩),(113,⟨g,7,true,false,some (ps.map Place.v)⟩)]⟩)
   (fun (k,ps,a,g)=>k≤many∧xh ps k) (fun (k,_)=>many - k) (0,[],b8 l 0,g) (by(refine⟨?_,?_⟩ <;>repeat' (first| exact True.intro| refine ai ?_| refine And.intro ?_ ?_))) ⟨by simp,by simp,by simp,by simp⟩ ?_
 rintro⟨k,ps,a,g⟩ ⟨hk,hp⟩
 try dsimp only at hk hp
 by_cases bk:k<many
 · have RZ:=hp.1
   have E7:IntKind.i64.wrap (61+(ps.length:Int))=61+(ps.length:Int):=wrap64 (by omega) (by omega)
   (conv=>whnf);repeat' ((first| intro g| refine ag.mk _ (n2 _) ?_| refine ag.mk _ (n3 _) ?_| refine ag.mk _ (n5 _) ?_| refine ag.mk _ (Wm _) ?_| refine ag.mk _ (n51 _) ?_| refine ag.mk _ (n60 _) ?_| refine ag.mk _ (De _ _) ?_| refine ag.mk _ (hd _) ?_| refine st ?_| (refine aH.bR ?_;intro s) | (first| refine b1 ?_ ?_| refine b2 ?_ ?_| refine Br.mk ?_ ?_) <;>intro hc| exact rfl) <;>conv=>whnf)
   · exact bc.mk (k+1,ps++[⟨IntKind.i64.wrap (61+(ps.length:Int)),_,_,_,_,_,_⟩],_,g) (by first| omega| (dsimp only;omega)) ⟨(by first| omega| (dsimp only;omega)),hp.snoc E7 (hd9 _)⟩ (by(refine⟨?_,?_⟩ <;>repeat' (first| exact True.intro| refine ai ?_| refine And.intro ?_ ?_)))
   · exact bc.mk (k+1,ps,_,_) (by first| omega| (dsimp only;omega)) ⟨(by first| omega| (dsimp only;omega)),hp.mono (by omega)⟩ (by(refine⟨?_,?_⟩ <;>repeat' (first| exact True.intro| refine ai ?_| refine And.intro ?_ ?_)))
   · exact bc.mk (k+1,ps,_,_) (by first| omega| (dsimp only;omega)) ⟨(by first| omega| (dsimp only;omega)),hp.mono (by omega)⟩ (by(refine⟨?_,?_⟩ <;>repeat' (first| exact True.intro| refine ai ?_| refine And.intro ?_ ?_)))
   · exact bc.mk (k+1,ps++[⟨IntKind.i64.wrap (61+(ps.length:Int)),_,_,_,_,_,_⟩],_,g) (by first| omega| (dsimp only;omega)) ⟨(by first| omega| (dsimp only;omega)),hp.snoc E7 (hd9 _)⟩ (by(refine⟨?_,?_⟩ <;>repeat' (first| exact True.intro| refine ai ?_| refine And.intro ?_ ?_)))
   · exact bc.mk (k+1,ps,_,_) (by first| omega| (dsimp only;omega)) ⟨(by first| omega| (dsimp only;omega)),hp.mono (by omega)⟩ (by(refine⟨?_,?_⟩ <;>repeat' (first| exact True.intro| refine ai ?_| refine And.intro ?_ ?_)))
   · exact bc.mk (k+1,ps,_,_) (by first| omega| (dsimp only;omega)) ⟨(by first| omega| (dsimp only;omega)),hp.mono (by omega)⟩ (by(refine⟨?_,?_⟩ <;>repeat' (first| exact True.intro| refine ai ?_| refine And.intro ?_ ?_)))
 · (conv=>whnf);repeat' ((first| intro g| refine st ?_| (refine aH.bR ?_;intro s) | (first| refine b1 ?_ ?_| refine b2 ?_ ?_| refine Br.mk ?_ ?_) <;>intro hc| exact rfl) <;>conv=>whnf)
   exact⟨ps,hp.mono (by omega),rfl⟩
end Go.AM
set_option maxRecDepth 20000
namespace Go.AM
theorem xi {ls:List (List Int)} (hs:wa ls) (i:Nat) (hi:i< 1000): ∃l:List Int,l.length< 9223372036854775808∧Ev E 84 [fU ls,aF i] ⟨eV l,[]⟩:=by
 have hl:=hs.1
 by_cases h:i<ls.length
 · obtain⟨l,hx⟩: ∃l,ls[i]? =some l:=⟨_,aL h⟩
   refine⟨l,hs.2 _ (List.mem_of_getElem? hx),?_⟩
   refine Ev.bU NW (NX _) rfl ?_
   (conv=>whnf);repeat' ((first| intro g| refine aH.mk _ (hN hx) ?_| refine st ?_| (refine aH.bR ?_;intro s) | (first| refine b1 ?_ ?_| refine b2 ?_ ?_| refine Br.mk ?_ ?_) <;>intro hc| exact rfl) <;>conv=>whnf)
 · refine⟨[],by simp,?_⟩
   refine Ev.bU NW (NX _) rfl ?_
   (conv=>whnf);repeat' ((first| intro g| refine st ?_| (refine aH.bR ?_;intro s) | (first| refine b1 ?_ ?_| refine b2 ?_ ?_| refine Br.mk ?_ ?_) <;>intro hc| exact rfl) <;>conv=>whnf)
theorem ur {α:Type} {f:α→V} {l:List α} {k n:Nat} (h:n=min k l.length):aO (l.map f) 0 n=(l.take k).map f:=by
 subst h
 unfold aO
 rw[List.drop_zero,←List.map_take,List.take_eq_take_min (i:=k)]
theorem Tc {α:Type} {f:α→V} {l:List α} {k:Nat} {a b c:V} (x:α): (((((l.map f).set ((k:Int)).toNat a).set ((k:Int)).toNat b).set ((k:Int)).toNat c).set ((k:Int)).toNat (f x))=(l.set k x).map f:=by
 simp only[List.set_set,List.map_set,Int.toNat_natCast]
theorem aaZ {fs:List ar} {k:Nat} {f f':ar} (h:fs[k]? =some f) (e:f'.id=f.id): (fs.set k f').map (·.id)=fs.map (·.id):=by
 rw[List.map_set,e]
 apply List.ext_getElem?;intro i
 rw[List.getElem?_set]
 split
 · rename_i hi;subst hi
   rw[if_pos (by have:=(List.getElem?_eq_some_iff.1 h).1;simpa using this)]
   simp[h]
 · rfl
theorem YX.abK {fs gs:List ar} (h:YX fs) (e:gs.map (·.id)=fs.map (·.id)):YX gs:=by
 unfold YX at*
 have h1: (fs.map (·.id)).Pairwise (· < ·):=List.pairwise_map.2 h
 rw[←e] at h1
 exact List.pairwise_map.1 h1
theorem Td (n:Nat): (if (3:Int) < (n:Int) then(3:Int) else(n:Int)).toNat=min 3 n:=by
 split<;>omega
theorem Z0 (x y:Nat) (hx:x< 4) (hy:y< 2):IntKind.i64.wrap (1+(IntKind.i64.wrap ((x:Int)*(y:Int))).tmod 3) < 99:=by
 rcases(by omega:x=0∨x=1∨x=2∨x=3) with rfl| rfl| rfl| rfl<;>rcases(by omega:y=0∨y=1) with rfl| rfl<;>decide
structure aG.LK (m:aG):Prop where
 an:hG m.an 18
 ah:m.ah.length≤36
 fst:YX m.ah
 has:Has m.an
 acL:0 <m.ah.length
 ack: ∀f ∈ m.ah,f.bg< 99
 ways:rM m.ways 12
 aw:xh m.aw 6
def aG.vo (m:aG):V:= .agg [.lit 4 (m.an.map Edge.v),.lit 5 (m.ah.map ar.v),.lit 8 (m.ways.map Way.v),.own 7 (m.aw.map Place.v)]
set_option maxHeartbeats 4000000 in
theorem Df {ls:List (List Int)} (hs:wa ls): ∃res,Ev E 77 [fU ls] res∧ ∃m:aG,aG.LK m∧res=⟨m.vo,[]⟩:=by
 refine Ev.cQ SE (SF _) rfl ?_
 have BN:wa (ls.take 3):=⟨by have:=hs.1;simp;omega,fun l h=>hs.2 l (List.mem_of_mem_take h)⟩
 obtain⟨l3,h3,p3⟩:=xi hs 3 (by omega)
 obtain⟨l4,h4,p4⟩:=xi hs 4 (by omega)
 obtain⟨l5,h5,p5⟩:=xi hs 5 (by omega)
 have n2:=fun a=>cg h3 2 (a:=a) (by omega) (by omega)
 have n3:=fun a=>cg h3 3 (a:=a) (by omega) (by omega)
 have n4:=fun a=>cg h3 4 (a:=a) (by omega) (by omega)
 have n6:=fun a=>cg h3 6 (a:=a) (by omega) (by omega)
 have n60:=fun a=>cg h3 60 (a:=a) (by omega) (by omega)
 have hl:=hs.1
 (conv=>whnf);repeat' ((first| intro g| refine aH.mk _ (ur (k:=3) (by rw[List.length_map];exact Td _)) ?_| refine st ?_| (refine aH.bR ?_;intro s) | (first| refine b1 ?_ ?_| refine b2 ?_ ?_| refine Br.mk ?_ ?_) <;>intro hc| exact rfl) <;>conv=>whnf)
 refine ag.ex (Da BN) ?_
 rintro _ ⟨es,fs0,⟨he,aaO⟩,⟨hf,oK,hfp⟩,rfl⟩
 (conv=>whnf);repeat' ((first| intro g| refine ag.mk _ (p3) ?_| refine st ?_| (refine aH.bR ?_;intro s) | (first| refine b1 ?_ ?_| refine b2 ?_ ?_| refine Br.mk ?_ ?_) <;>intro hc| exact rfl) <;>conv=>whnf)
 rename_i g2 g3 gf
 obtain⟨n,hn⟩: ∃n,fs0.length=n:=⟨_,rfl⟩
 refine ba.by (fun ((k,fs,a):Nat×List ar×Nat)=> ⟨[(0,fU ls),(2,.ptr 48 g2 0 0),(3,.ptr 64 g3 0 0),(4,.ptr 352 g 0 0),(5,aF k)],
    [(48,⟨g2,4,false,false,some [.agg [.lit 4 [],.lit 5 [],.lit 8 [],.lit 7 []]]⟩),(64,⟨g3,4,false,false,some [.agg [.lit 4 (es.map Edge.v),.sl 232 gf 0 n,.lit 8 [],.lit 7 []]]⟩),(232,⟨gf,5,true,false,some (fs.map ar.v)⟩),(352,⟨g,2,false,false,some [de l3 a]⟩)]⟩)
   (fun (k,fs,a)=>k≤n∧fs.length=n∧fs.map (·.id)=fs0.map (·.id)∧ ∀ (i:Nat) (f:ar),i<k→fs[i]? =some f→f.bg< 99) (fun (k,fs,_)=>n - k) (0,fs0,0) (by subst hn; (refine⟨?_,?_⟩ <;>repeat' (first| exact True.intro| refine ai ?_| refine And.intro ?_ ?_))) ⟨by simp,hn,rfl,by intro i f h;omega⟩ ?_
 rw[hn] at hf hfp;clear hn
 rintro⟨k,fs,a⟩ ⟨hk,ra,abL,Zb⟩
 try dsimp only at hk ra abL Zb
 by_cases bk:k<n
 · obtain⟨f,hx⟩: ∃f,fs[k]? =some f:=⟨_,aL (by omega)⟩
   (conv=>whnf);repeat' ((first| intro g| refine aH.mk _ (lH (lH (lH (aC hx rfl)))) ?_| refine aH.mk _ (lH (lH (aC hx rfl))) ?_| refine aH.mk _ (lH (aC hx rfl)) ?_| refine aH.mk _ (aC hx rfl) ?_| refine ag.mk _ (n2 _) ?_| refine ag.mk _ (n3 _) ?_| refine ag.mk _ (n4 _) ?_| refine ag.mk _ (n6 _) ?_| refine ag.mk _ (n60 _) ?_| refine st ?_| (refine aH.bR ?_;intro s) | (first| refine b1 ?_ ?_| refine b2 ?_ ?_| refine Br.mk ?_ ?_) <;>intro hc| exact rfl) <;>conv=>whnf)
   have jG: ∀c nm w d (x y z:V),((((fs.map ar.v).set ((k:Int)).toNat x).set ((k:Int)).toNat y).set ((k:Int)).toNat z).set ((k:Int)).toNat (ar.v ⟨f.id,c,nm,w,d⟩)=(fs.set k ⟨f.id,c,nm,w,d⟩).map ar.v:=fun c nm w d x y z=>Tc (f:=ar.v) _
   rename_i cl
   have Yy:=gA (l:=l3) (a:=b8 l3 (b8 l3 (b8 l3 a))) (n:=4) (by omega) (by omega)
   have b2:=gA (l:=l3) (a:=b8 l3 (b8 l3 (b8 l3 (b8 l3 a)))) (n:=2) (by omega) (by omega)
   have acM: ∀c nm w,∀ (i:Nat) (f':ar),i<k+1→(fs.set k ⟨f.id,c,nm,w,IntKind.i64.wrap (1+(IntKind.i64.wrap (((fg l3 (b8 l3 (b8 l3 (b8 l3 a))) 4:Nat):Int)*((fg l3 (b8 l3 (b8 l3 (b8 l3 (b8 l3 a)))) 2:Nat):Int))).tmod 3)⟩)[i]? =some f'→f'.bg< 99:=fun c nm w i f' hi D8=>by
    by_cases vz:i=k
    · subst vz
      rw[List.getElem?_set_self (by omega)] at D8
      obtain rfl:=Option.some.inj D8
      exact Z0 _ _ Yy b2
    · rw[List.getElem?_set_ne (by omega)] at D8
      exact Zb i f' (by omega) D8
   exact bc.mk (k+1,fs.set k ⟨f.id,cl,s,IntKind.i64.wrap (1+((fg l3 (b8 l3 (b8 l3 a)) 60:Nat):Int)),IntKind.i64.wrap (1+(IntKind.i64.wrap (((fg l3 (b8 l3 (b8 l3 (b8 l3 a))) 4:Nat):Int)*((fg l3 (b8 l3 (b8 l3 (b8 l3 (b8 l3 a)))) 2:Nat):Int))).tmod 3)⟩,(b8 l3 (b8 l3 (b8 l3 (b8 l3 (b8 l3 a)))))) (by first| omega| (dsimp only;omega)) ⟨(by first| omega| (dsimp only;omega)),by simp[ra],(aaZ (f':=⟨f.id,cl,s,_,_⟩) hx rfl).trans abL,acM cl s _⟩ (by(refine⟨?_,?_⟩ <;>repeat' (first| exact True.intro| refine And.intro (congrArg (fun L=> (⟨gf,5,true,false,some L⟩:Obj)) (jG cl s (IntKind.i64.wrap (1+((fg l3 (b8 l3 (b8 l3 a)) 60:Nat):Int))) (IntKind.i64.wrap (1+(IntKind.i64.wrap (((fg l3 (b8 l3 (b8 l3 (b8 l3 a))) 4:Nat):Int)*((fg l3 (b8 l3 (b8 l3 (b8 l3 (b8 l3 a)))) 2:Nat):Int))).tmod 3)) _ _ _)) ?_| refine ai ?_| refine And.intro ?_ ?_)))
 · obtain rfl:k=n:=by omega
   (conv=>whnf);repeat' ((first| intro g| refine ag.mk _ (p4) ?_| refine st ?_| (refine aH.bR ?_;intro s) | (first| refine b1 ?_ ?_| refine b2 ?_ ?_| refine Br.mk ?_ ?_) <;>intro hc| exact rfl) <;>conv=>whnf)
   refine ag.ex (HE h4) ?_
   rintro _ ⟨ws,hw,rfl⟩
   (conv=>whnf);repeat' ((first| intro g| refine ag.mk _ (p5) ?_| refine st ?_| (refine aH.bR ?_;intro s) | (first| refine b1 ?_ ?_| refine b2 ?_ ?_| refine Br.mk ?_ ?_) <;>intro hc| exact rfl) <;>conv=>whnf)
   have acm: ∀f ∈ fs,f.bg< 99:=fun f hf=>by
    obtain⟨i,hi⟩:=List.getElem?_of_mem hf
    exact Zb i f (by have:=(List.getElem?_eq_some_iff.1 hi).1;omega) hi
   refine ag.ex (Dd h5 (m:=⟨es,fs,ws,[]⟩) he (by omega) (by dsimp only;omega) acm) ?_
   rintro _ ⟨ps,hp,rfl⟩
   (conv=>whnf);repeat' ((first| intro g| refine st ?_| (refine aH.bR ?_;intro s) | (first| refine b1 ?_ ?_| refine b2 ?_ ?_| refine Br.mk ?_ ?_) <;>intro hc| exact rfl) <;>conv=>whnf)
   exact⟨⟨es,fs,ws,ps⟩,⟨he,by dsimp only;omega,oK.abK abL,aaO,by dsimp only;omega,acm,hw,hp⟩,rfl⟩
end Go.AM
set_option maxRecDepth 20000
namespace Go.AM
theorem nH {E:Env} {r:Nat} {g:Nat} {args:List V} {v v':V} {S:SS} {Q:KK} (hm:gv E g=[]) (hp:V.aq args=true) (he:Ev E g args ⟨v,[]⟩) (hv: ∀ (r:Nat) (k:V→bB),da false r [] v k=k v') (k:Q v' S [] []):eM E (lD E r false g args) S Q:=by
 have key: ∀ (as:List V) (i:Nat) (kk:List V→List Nat→List dZ→bB),V.aq as=true→eN (r+8) as [] i kk=kk as [] []:=by
  intro as
  induction as with
  | nil=>intro i kk _;rfl
  | cons a as ih=>
    intro i kk h
    simp only[V.aq,Bool.and_eq_true] at h
    simp only[eN,gr,h.1,cond_true,List.nil_append]
    rw[ih (i+1) _ h.2]
 unfold lD
 rw[hm,key args 0 _ hp]
 refine⟨rfl,⟨⟨v,[]⟩,he,?_⟩⟩
 simp only[gu,hv,eM]
 exact k
structure zD (n:Nat) (m:aG):Prop where
 e:m.an.length≤40+n
 f:m.ah.length≤40+n
 w:m.ways.length≤40+n
 p:m.aw.length≤40+100*n
 el: ∀e ∈ m.an,e.line.length< 1000
 wl: ∀w ∈ m.ways,w.line.length< 1000
theorem zD.Ch {m:aG} (hm:m.LK):zD 0 m:=by
 have h1:=hm.aw.1
 have h2:=hm.an.1;have h3:=hm.ah;have h4:=hm.ways.1
 have hl: ∀e ∈ m.an,2≤e.line.length∧e.line.length≤5:=hm.an.2.1
 have hw: ∀w ∈ m.ways,2≤w.line.length∧w.line.length≤5:=hm.ways.2.1
 exact⟨by omega,by omega,by omega,by omega,fun e he=>by have:=hl e he;omega,fun e he=>by have:=hw e he;omega⟩
theorem zD.acN {n:Nat} {m:aG} (h:zD n m) (hn:n≤2):aat m∧m.ah.length< 1000:=by
 have h1:=h.e;have h2:=h.f;have h3:=h.w;have h4:=h.p
 exact⟨⟨⟨by omega,fun e he=>by have:=h.el e he;omega⟩,by omega⟩,by omega⟩
theorem Mx (m:aG): ∀ (r:Nat) (k:V→bB),da false r [] m.vo k=k m.v:=fun _ _=>rfl
end Go.AM
