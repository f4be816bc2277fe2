/-
  Texts of the proof, joined by program: FlQ. Own work.
-/
import Derived.Test.YtinmckmdbepjcaaGreatFa
import Derived.Test.YtinmckmdbepjcaaGreatGb
import Derived.Test.YtinmckmdbepjcaaGreatLc
set_option linter.unusedSimpArgs false
set_option linter.unusedVariables false
set_option maxRecDepth 20000
namespace Go.AM
def aeI (sz:Nat):List V→V
 | []=> .nils
 | x::l=> .own sz (x::l)
def Zg (m:aG) (d:Int):List ar:=m.ah.filter fun f=>decide (f.bg=d)
def aaF (m:aG) (d:Int) (es:List Edge) (ws:List Way) (ps:List Place):V:= .agg [aeI 4 (es.map Edge.v),aeI 5 ((Zg m d).map ar.v),aeI 8 (ws.map Way.v),aeI 7 (ps.map Place.v)]
theorem ZD {α:Type} (f:α→V) (sz:Nat) {o:Option Nat} {L:List α} (h:o=none↔L=[]): (o=none∧L=[])∨(∃g,o=some g)∧aeI sz (L.map f)= .own sz (L.map f):=by
 cases o with
 | none=>exact .inl ⟨rfl,h.1 rfl⟩
 | some g=>
   refine .inr ⟨⟨g,rfl⟩,?_⟩
   cases L with
   | nil=>simp at h
   | cons e l=>rfl
set_option maxHeartbeats 4000000 in
theorem abk {m:aG} (hs:rJ m) (d:Int): ∃res,Ev E 498 [m.v,vi d] res∧ ∃es ws ps,res=⟨aaF m d es ws ps,[]⟩:=by
 have hE:m.an.length< 1000:=hs.e
 have hF:m.ah.length< 1000:=hs.f
 have hW:m.ways.length< 1000:=hs.w
 have hP:m.aw.length< 1000:=hs.p
 refine Ev.cQ acL (acM _) rfl ?_
 (conv=>whnf);repeat' ((first| intro g| refine st ?_| (first| refine b1 ?_ ?_| refine b2 ?_ ?_| refine Br.mk ?_ ?_) <;>intro hc| exact rfl) <;>conv=>whnf)
 rename_i g2 g4 g5
 refine ba.by (fun ((k,og,ents):Nat×Option Nat×List V)=> ⟨Z0 ⟨g2,g4,g5,g⟩ d [(17,.lit 5 (m.ah.map ar.v)),(18,aF m.ah.length),(19,aF k)],Z1 ⟨g2,g4,g5,g⟩ m.v ents .nils (lV 99 og ((m.ah.take k).filter fun f=>decide (f.bg=d)).length) .nils .nils (lR 99 5 og (((m.ah.take k).filter fun f=>decide (f.bg=d)).map ar.v))⟩)
   (fun (k,og,ents)=>k≤m.ah.length∧(og=none↔(m.ah.take k).filter (fun f=>decide (f.bg=d))=[])∧aaR ents) (fun (k,_)=>m.ah.length - k) (0,none,[]) ?_ ⟨by simp,by simp,by intro e he;simp at he⟩ ?_
 · (refine⟨?_,?_⟩ <;>repeat' (first| exact True.intro| refine And.intro ((by(conv=>whnf);first| rfl| simp)) ?_| refine ai ?_| refine And.intro ?_ ?_))
 rintro⟨k,og,ents⟩ ⟨hk,gC,how⟩
 try dsimp only at hk gC how
 by_cases bk:k<m.ah.length
 · obtain⟨x,hx⟩: ∃x,m.ah[k]? =some x:=⟨_,aL bk⟩
   have oK:=Zj (p:=fun f:ar=>decide (f.bg=d)) hx
   by_cases hd:x.bg=d
   · obtain⟨Zp,gZ,aee⟩:=aaD x.id how
     simp only[hd,decide_true,if_true] at oK
     refine acF (G:=⟨g2,g4,g5,g⟩) (x:=x) (by simp[hx]) (by simp) bk hF (Nat.le_trans (List.length_filter_le _ _) (by simp;omega)) gC.1 hd gZ fun T' O' g' dg=>bc.mk (k+1,some g',Zp) (by first| omega| (dsimp only;omega)) ⟨by omega,by simp[oK],aee⟩ ?_
     simp only[oK]
     exact dg
   · simp only[hd,decide_false,Bool.false_eq_true,if_false,List.append_nil] at oK
     refine acE (G:=⟨g2,g4,g5,g⟩) (x:=x) (by simp[hx]) (by simp) bk hF hd fun T' O' dg=>bc.mk (k+1,og,ents) (by first| omega| (dsimp only;omega)) ⟨by omega,by rw[oK];exact gC,how⟩ ?_
     simp only[oK]
     exact dg
 obtain rfl:k=m.ah.length:=by omega
 simp only[List.take_length] at gC ⊢
 have hpf:m.ah.filter (fun f=>decide (f.bg=d))=Zg m d:=rfl
 rw[hpf] at gC ⊢
 unfold aaF
 generalize Zg m d=aeJ at*
 clear hk bk
 have hec: ∀x ∈ m.an,Ev E 32 [iP x.line] ⟨.own 2 (x.line.map Pt.v),[]⟩:=fun x hx=>uj x.line (by have:=hs.el x hx;omega)
 have hwc: ∀x ∈ m.ways,Ev E 32 [iP x.line] ⟨.own 2 (x.line.map Pt.v),[]⟩:=fun x hx=>uj x.line (by have:=hs.wl x hx;omega)
 clear hs
 (conv=>whnf);repeat' ((first| intro g| refine st ?_| (first| refine b1 ?_ ?_| refine b2 ?_ ?_| refine Br.mk ?_ ?_) <;>intro hc| exact rfl) <;>conv=>whnf)
 refine ba.by (fun ((k,oe,L):Nat×Option Nat×List Edge)=> ⟨Z0 ⟨g2,g4,g5,g⟩ d [(38,.lit 4 (m.an.map Edge.v)),(39,aF m.an.length),(40,aF k)],Z1 ⟨g2,g4,g5,g⟩ m.v ents (lV 98 oe L.length) (lV 99 og aeJ.length) .nils .nils (lR 98 4 oe (L.map Edge.v)++lR 99 5 og (aeJ.map ar.v))⟩)
   (fun (k,oe,L)=>k≤m.an.length∧L.length≤k∧(oe=none↔L=[])) (fun (k,_)=>m.an.length - k) (0,none,[]) ?_ ⟨by simp,by simp,by simp⟩ ?_
 · cases og<;> (refine⟨?_,?_⟩ <;>repeat' (first| exact True.intro| refine And.intro ((by(conv=>whnf);first| rfl| simp)) ?_| refine ai ?_| refine And.intro ?_ ?_))
 rintro⟨k,oe,aeK⟩ ⟨hk,hL,vc⟩
 try dsimp only at hk hL vc
 by_cases bk:k<m.an.length
 · obtain⟨x,hx⟩: ∃x,m.an[k]? =some x:=⟨_,aL bk⟩
   obtain⟨b1,h1⟩:=aaE how x.left
   obtain⟨b2,h2⟩:=aaE how x.right
   have mG:=hec x (List.mem_of_getElem? hx)
   cases GC:b1
   · cases MK:b2
     · subst GC MK
       exact acG (G:=⟨g2,g4,g5,g⟩) (x:=x) (by simp[hx]) (by simp) bk hE h1 h2 fun T' O' dg=>bc.mk (k+1,oe,aeK) (by first| omega| (dsimp only;omega)) ⟨by omega,by omega,vc⟩ dg
     · exact abF (G:=⟨g2,g4,g5,g⟩) (x:=x) (by simp[hx]) (by simp) bk hE hL vc.1 h1 h2 (.inr ⟨GC,MK⟩) mG fun T' O' g' dg=>bc.mk (k+1,some g',aeK++[x]) (by first| omega| (dsimp only;omega)) ⟨by omega,by simp;omega,by simp⟩ dg
   · exact abF (G:=⟨g2,g4,g5,g⟩) (x:=x) (by simp[hx]) (by simp) bk hE hL vc.1 h1 h2 (.inl GC) mG fun T' O' g' dg=>bc.mk (k+1,some g',aeK++[x]) (by first| omega| (dsimp only;omega)) ⟨by omega,by simp;omega,by simp⟩ dg
 obtain rfl:k=m.an.length:=by omega
 clear hk bk hec how
 try dsimp only
 (conv=>whnf);repeat' ((first| intro g| refine st ?_| (first| refine b1 ?_ ?_| refine b2 ?_ ?_| refine Br.mk ?_ ?_) <;>intro hc| exact rfl) <;>conv=>whnf)
 refine ba.by (fun ((k,ow,L):Nat×Option Nat×List Way)=> ⟨Z0 ⟨g2,g4,g5,g⟩ d [(66,.lit 8 (m.ways.map Way.v)),(67,aF m.ways.length),(68,aF k)],Z1 ⟨g2,g4,g5,g⟩ m.v ents (lV 98 oe aeK.length) (lV 99 og aeJ.length) (lV 100 ow L.length) .nils (lR 100 8 ow (L.map Way.v)++lR 98 4 oe (aeK.map Edge.v)++lR 99 5 og (aeJ.map ar.v))⟩)
   (fun (k,ow,L)=>k≤m.ways.length∧L.length≤k∧(ow=none↔L=[])) (fun (k,_)=>m.ways.length - k) (0,none,[]) ?_ ⟨by simp,by simp,by simp⟩ ?_
 · cases og<;>cases oe<;> (refine⟨?_,?_⟩ <;>repeat' (first| exact True.intro| refine And.intro ((by(conv=>whnf);first| rfl| simp)) ?_| refine ai ?_| refine And.intro ?_ ?_))
 rintro⟨k,ow,W1⟩ ⟨hk,hL,how⟩
 try dsimp only at hk hL how
 by_cases bk:k<m.ways.length
 · obtain⟨x,hx⟩: ∃x,m.ways[k]? =some x:=⟨_,aL bk⟩
   by_cases hd:x.bg=d
   · exact acI (G:=⟨g2,g4,g5,g⟩) (x:=x) (by simp[hx]) (by simp) bk hW hL how.1 hd (hwc x (List.mem_of_getElem? hx)) fun T' O' g' dg=>bc.mk (k+1,some g',W1++[x]) (by first| omega| (dsimp only;omega)) ⟨by omega,by simp;omega,by simp⟩ dg
   · exact acH (G:=⟨g2,g4,g5,g⟩) (x:=x) (by simp[hx]) (by simp) bk hW hd fun T' O' dg=>bc.mk (k+1,ow,W1) (by first| omega| (dsimp only;omega)) ⟨by omega,by omega,how⟩ dg
 obtain rfl:k=m.ways.length:=by omega
 clear hk bk hwc
 try dsimp only
 (conv=>whnf);repeat' ((first| intro g| refine st ?_| (first| refine b1 ?_ ?_| refine b2 ?_ ?_| refine Br.mk ?_ ?_) <;>intro hc| exact rfl) <;>conv=>whnf)
 refine ba.by (fun ((k,op,L):Nat×Option Nat×List Place)=> ⟨Z0 ⟨g2,g4,g5,g⟩ d [(88,.lit 7 (m.aw.map Place.v)),(89,aF m.aw.length),(90,aF k)],Z1 ⟨g2,g4,g5,g⟩ m.v ents (lV 98 oe aeK.length) (lV 99 og aeJ.length) (lV 100 ow W1.length) (lV 101 op L.length) (lR 101 7 op (L.map Place.v)++lR 98 4 oe (aeK.map Edge.v)++lR 99 5 og (aeJ.map ar.v)++lR 100 8 ow (W1.map Way.v))⟩)
   (fun (k,op,L)=>k≤m.aw.length∧L.length≤k∧(op=none↔L=[])) (fun (k,_)=>m.aw.length - k) (0,none,[]) ?_ ⟨by simp,by simp,by simp⟩ ?_
 · cases og<;>cases oe<;>cases ow<;> (refine⟨?_,?_⟩ <;>repeat' (first| exact True.intro| refine And.intro ((by(conv=>whnf);first| rfl| simp)) ?_| refine ai ?_| refine And.intro ?_ ?_))
 rintro⟨k,op,aeL⟩ ⟨hk,hL,dX⟩
 try dsimp only at hk hL dX
 by_cases bk:k<m.aw.length
 · obtain⟨x,hx⟩: ∃x,m.aw[k]? =some x:=⟨_,aL bk⟩
   by_cases hd:x.bg=d
   · exact acK (G:=⟨g2,g4,g5,g⟩) (x:=x) (by simp[hx]) (by simp) bk hP hL dX.1 hd fun T' O' g' dg=>bc.mk (k+1,some g',aeL++[x]) (by first| omega| (dsimp only;omega)) ⟨by omega,by simp;omega,by simp⟩ dg
   · exact acJ (G:=⟨g2,g4,g5,g⟩) (x:=x) (by simp[hx]) (by simp) bk hP hd fun T' O' dg=>bc.mk (k+1,op,aeL) (by first| omega| (dsimp only;omega)) ⟨by omega,by omega,dX⟩ dg
 obtain rfl:k=m.aw.length:=by omega
 clear hk bk
 try dsimp only
 have o1:=ZD Edge.v 4 vc
 have o2:=ZD ar.v 5 gC
 have o3:=ZD Way.v 8 how
 have o4:=ZD Place.v 7 dX
 clear vc gC how dX
 rcases o1 with⟨rfl,e1⟩ | ⟨⟨ge,rfl⟩,e1⟩ <;>rcases o2 with⟨rfl,e2⟩ | ⟨⟨gf,rfl⟩,e2⟩ <;>rcases o3 with⟨rfl,e3⟩ | ⟨⟨gw,rfl⟩,e3⟩ <;>rcases o4 with⟨rfl,e4⟩ | ⟨⟨gp,rfl⟩,e4⟩
 all_goals
   (conv=>whnf);repeat' ((first| intro g| refine aH.mk _ (dU (by simp)) ?_| refine st ?_| (first| refine b1 ?_ ?_| refine b2 ?_ ?_| refine Br.mk ?_ ?_) <;>intro hc| exact rfl) <;>conv=>whnf)
   refine⟨aeK,W1,aeL,?_⟩
   simp only[e1,e2,e3,e4,List.map_nil] <;>rfl
end Go.AM
