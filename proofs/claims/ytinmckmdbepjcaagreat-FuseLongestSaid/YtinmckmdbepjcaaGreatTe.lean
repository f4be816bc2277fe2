/-
  Texts of the proof, joined by program: FlG. Own work.
-/
import Derived.Test.YtinmckmdbepjcaaGreatFd
import Derived.Test.YtinmckmdbepjcaaGreatFb
import Derived.Test.YtinmckmdbepjcaaGreatFc
import Derived.Test.YtinmckmdbepjcaaGreatSan
import Derived.Test.YtinmckmdbepjcaaGreatMe
set_option linter.unusedSimpArgs false
set_option linter.unusedVariables false
set_option maxRecDepth 20000
namespace Go.AM
def ae4 (sz:Nat):List V→V
 | []=> .nils
 | x::l=> .lit sz (x::l)
def abh (m:aG) (d:Int) (es:List Edge) (ws:List Way) (ps:List Place):V:= .agg [ae4 4 (es.map Edge.v),ae4 5 ((Zg m d).map ar.v),ae4 8 (ws.map Way.v),ae4 7 (ps.map Place.v)]
theorem abi (m:aG) (d:Int) (es:List Edge) (ws:List Way) (ps:List Place): ∀ (r:Nat) (k:V→bB),da false r [] (aaF m d es ws ps) k=k (abh m d es ws ps):=by
 intro r k
 unfold aaF abh
 cases es<;>cases Zg m d<;>cases ws<;>cases ps<;>rfl
theorem aaw {fs:List ar} (oK:Y9 fs) {f:ar} (h:f ∈ fs): ∃i:Nat,fs[i]? =some f∧findF fs f.id=some i:=by
 obtain⟨i,hi,rfl⟩:=List.mem_iff_getElem.1 h
 refine⟨i,List.getElem?_eq_getElem hi,aba (List.getElem?_eq_getElem hi) rfl fun j g hj hg=> ?_⟩
 obtain⟨hj2,rfl⟩:=List.getElem?_eq_some_iff.1 hg
 have:=(List.pairwise_iff_getElem.1 oK) j i hj2 hi hj
 omega
set_option maxHeartbeats 4000000 in
theorem ZW {ls:List (List Int)} (hs:wa ls):Ev E 482 [fU ls] ⟨.bool true,[]⟩:=by
 have XC:gv E 77=[]:=rfl
 have aey:gv E 96=[]:=rfl
 have aea:gv E 492=[]:=rfl
 have abJ:gv E 498=[]:=rfl
 obtain⟨_,Jh,m,hm,rfl⟩:=Df hs
 have n0:=zD.Ch hm
 have gO:rJ m:=⟨by have:=n0.e;omega,by have:=n0.f;omega,by have:=n0.w;omega,by have:=n0.p;omega,n0.el,n0.wl⟩
 have xJ:aa5 m:=(n0.aev (by omega)).1
 have abf:aac m.an:=hm.an.2.2
 have oK:Y9 m.ah:=hm.fst
 have Vs:EP m:=⟨xJ.1.1,xJ.2⟩
 have aeb:=aa4 gO.f gO.w gO.p
 have h0:V.aE m.v=true:=aG.ug false m
 have VB:V.aq [m.v]=true:=by simp only[V.aq,h0];rfl
 have R5:V.aq [fU ls]=true:=rfl
 have i96: ∀ (r:Nat) (k:V→bB),da false r [] (.own 1 ((ZO m).map vi)) k=k (.lit 1 ((ZO m).map vi)):=fun _ _=>rfl
 have hl:=hs.1
 have BP: (ZO m).length< 1000000:=by
   have h1:=aal (Zk m)
   have h2: (Zk m).length< 3000:=by
     have:=gO.f;have:=gO.w;have:=gO.p
     simp[Zk];omega
   unfold ZO;omega
 refine Ev.bU adl (adm _) rfl ?_
 generalize ZO m=D at*
 (conv=>whnf);repeat' ((first| refine nH XC R5 Jh (Mx m) ?_| refine nH aey VB aeb i96 ?_| intro g| refine ag.mk _ (Gr) ?_| refine st ?_| (first| refine b1 ?_ ?_| refine b2 ?_ ?_| refine Br.mk ?_ ?_) <;>intro hc| exact rfl) <;>conv=>whnf)
 clear Jh R5 hm aeb i96
 refine ba.by (fun (k:Nat)=> ⟨flT g (D.map vi) D.length k [],[(80,⟨g,4,false,false,some [m.v]⟩)]⟩) (fun k=>k≤D.length) (fun k=>D.length - k) 0 ?_ (by omega) ?_
 · (refine⟨?_,?_⟩ <;>repeat' (first| exact True.intro| refine And.intro ((by(conv=>whnf);simp)) ?_| refine ai ?_| refine And.intro ?_ ?_))
 intro kd FT
 try dsimp only at FT
 by_cases bk:kd<D.length
 · obtain⟨d,hd⟩: ∃y,D[kd]? =some y:=⟨_,aL bk⟩
   have qm:=acq xJ d
   have MG:V.aq [m.v,vi d]=true:=by simp only[V.aq,h0];rfl
   have aec: ∀ (r:Nat) (k:V→bB),da false r [] (.own 5 ((Y5 m d).map Event.v)) k=k (.lit 5 ((Y5 m d).map Event.v)):=fun _ _=>rfl
   (conv=>whnf);repeat' ((first| refine nH aea MG qm aec ?_| intro g| refine aH.mk _ (aC hd rfl) ?_| refine st ?_| (first| refine b1 ?_ ?_| refine b2 ?_ ?_| refine Br.mk ?_ ?_) <;>intro hc| exact rfl) <;>conv=>whnf)
   rename_i g4
   clear qm aec MG
   have sm: (Y5 m d).length< 1000000:=by
     have h1:=ZQ m d (Y4 m).length
     have h2:=ZB m
     have h3:=xJ.2
     unfold Y5;omega
   refine ba.by (fun (k:Nat)=> ⟨flT g4 (D.map vi) D.length kd [(7,vi d),(8,.mp 480 g),(9,.lit 5 ((Y5 m d).map Event.v)),(33,.lit 5 ((Y5 m d).map Event.v)),(34,aF (Y5 m d).length),(35,aF k)],[(80,⟨g4,4,false,false,some [m.v]⟩),(480,⟨g,0,false,false,some (((Y5 m d).take k).map aae)⟩)]⟩) (fun k=>k≤(Y5 m d).length) (fun k=> (Y5 m d).length - k) 0 ?_ (by omega) ?_
   · (refine⟨?_,?_⟩ <;>repeat' (first| exact True.intro| refine And.intro ((by(conv=>whnf);simp)) ?_| refine ai ?_| refine And.intro ?_ ?_))
   intro k hk
   try dsimp only at hk
   by_cases fS:k< (Y5 m d).length
   · obtain⟨e,he⟩: ∃y,(Y5 m d)[k]? =some y:=⟨_,aL fS⟩
     obtain⟨q1,q2,q3,q4,i,f,hi,hf,hfd⟩:=ZM (abl (List.mem_of_getElem? he))
     have hdi:=aar xJ.2 hi hf
     rw[hfd] at hdi
     have gZ:=aaX he
     have sA: ((Y5 m d).map Event.v)[k]? =some e.v:=by simp[he]
     by_cases hk0:k=0
     · subst hk0
       exact abP sA (by simp) fS sm q2 q3 q4 hdi gZ fun T' O' dg=>bc.mk 1 (by first| omega| (dsimp only;omega)) (by omega) dg
     · obtain⟨e',vd⟩: ∃y,(Y5 m d)[k - 1]? =some y:=⟨_,aL (by omega)⟩
       have PF:=abL (by omega) he vd
       have hyv: ((Y5 m d).map Event.v)[k - 1]? =some e'.v:=by simp[vd]
       exact abQ sA hyv (by simp) fS (by omega) sm PF q2 q3 q4 hdi gZ fun T' O' dg=>bc.mk (k+1) (by first| omega| (dsimp only;omega)) (by omega) dg
   obtain rfl:k=(Y5 m d).length:=by omega
   obtain⟨_,abj,es,ws,ps,rfl⟩:=abk gO d
   have hpp:V.aq [m.v,vi d]=true:=by simp only[V.aq,h0];rfl
   have ZX:=abi m d es ws ps
   unfold abh at ZX
   try dsimp only
   rw[List.take_length]
   by_cases hpf:Zg m d=[]
   · rw[hpf] at ZX
     simp only[List.map_nil,ae4] at ZX
     generalize (Y5 m d).map aae=ents at*
     (conv=>whnf);repeat' ((first| refine nH abJ hpp abj ZX ?_| intro g| refine st ?_| (first| refine b1 ?_ ?_| refine b2 ?_ ?_| refine Br.mk ?_ ?_) <;>intro hc| exact rfl) <;>conv=>whnf)
     refine ba.by (fun (_:Unit)=> ⟨flT g4 (D.map vi) D.length kd [(85,.nils),(86,aF 0),(87,aF 0)],[(80,⟨g4,4,false,false,some [m.v]⟩)]⟩) (fun _=>True) (fun _=>0) () (by(refine⟨?_,?_⟩ <;>repeat' (first| exact True.intro| refine ai ?_| refine And.intro ?_ ?_))) trivial ?_
     intro _ _
     (conv=>whnf);repeat' ((first| intro g| refine st ?_| (first| refine b1 ?_ ?_| refine b2 ?_ ?_| refine Br.mk ?_ ?_) <;>intro hc| exact rfl) <;>conv=>whnf)
     exact bc.mk (kd+1) (by first| omega| (dsimp only;omega)) (by omega) (by(refine⟨?_,?_⟩ <;>repeat' (first| exact True.intro| refine ai ?_| refine And.intro ?_ ?_)))
   have hoi:ae4 5 ((Zg m d).map ar.v)= .lit 5 ((Zg m d).map ar.v):=by
     cases hq:Zg m d with
     | nil=>exact absurd hq hpf
     | cons a l=>rfl
   rw[hoi] at ZX
   have aed: ∀x,x ∈ Y4 m→_:=fun x hx=>aaY (d:=d) hx
   generalize (Y5 m d).map aae=ents at*
   have aez: ∀f ∈ Zg m d,f ∈ m.ah∧f.bg=d:=fun f hf=>by simpa [Zg] using hf
   have RZ: (Zg m d).length< 1000000:=Nat.lt_of_le_of_lt (List.length_filter_le ..) xJ.2
   generalize Zg m d=aeT at*
   (conv=>whnf);repeat' ((first| refine nH abJ hpp abj ZX ?_| intro g| refine st ?_| (first| refine b1 ?_ ?_| refine b2 ?_ ?_| refine Br.mk ?_ ?_) <;>intro hc| exact rfl) <;>conv=>whnf)
   clear abj ZX
   refine ba.by (fun (aeV:Nat)=>foS g4 (D.map vi) D.length kd g m.v (aeT.map ar.v) ents aeT.length aeV) (fun aeV=>aeV≤aeT.length) (fun aeV=>aeT.length - aeV) 0 ?_ (by omega) ?_
   · (refine⟨?_,?_⟩ <;>repeat' (first| exact True.intro| refine And.intro ((by(conv=>whnf);simp)) ?_| refine ai ?_| refine And.intro ?_ ?_))
   intro aeV hkp
   try dsimp only at hkp
   by_cases PF:aeV<aeT.length
   · obtain⟨f,hf⟩: ∃y,aeT[aeV]? =some y:=⟨_,aL PF⟩
     obtain⟨VJ,hfd⟩:=aez f (List.mem_of_getElem? hf)
     obtain⟨i,hi,hmi⟩:=aaw oK VJ
     have ns:=aed f.id (Z3 hmi)
     rcases aaL hmi hi hfd with⟨C6,kf⟩ | ⟨best,C6,hcb,aa6⟩
     · rw[C6] at ns
       exact abn xJ Vs (f:=f) (by simp[hf]) (by simp) PF RZ ns kf fun T' O' dg=>bc.mk (aeV+1) (by first| omega| (dsimp only;omega)) (by omega) dg
     · rw[C6] at ns
       exact abo xJ abf Vs (f:=f) (best:=best) (by simp[hf]) (by simp) PF RZ ns hcb aa6 fun T' O' dg=>bc.mk (aeV+1) (by first| omega| (dsimp only;omega)) (by omega) dg
   obtain rfl:aeV=aeT.length:=by omega
   (conv=>whnf);repeat' ((first| intro g| refine st ?_| (first| refine b1 ?_ ?_| refine b2 ?_ ?_| refine Br.mk ?_ ?_) <;>intro hc| exact rfl) <;>conv=>whnf)
   exact bc.mk (kd+1) (by first| omega| (dsimp only;omega)) (by omega) (by(refine⟨?_,?_⟩ <;>repeat' (first| exact True.intro| refine ai ?_| refine And.intro ?_ ?_)))
 · obtain rfl:kd=D.length:=by omega
   (conv=>whnf);repeat' ((first| intro g| refine st ?_| (first| refine b1 ?_ ?_| refine b2 ?_ ?_| refine Br.mk ?_ ?_) <;>intro hc| exact rfl) <;>conv=>whnf)
end Go.AM
