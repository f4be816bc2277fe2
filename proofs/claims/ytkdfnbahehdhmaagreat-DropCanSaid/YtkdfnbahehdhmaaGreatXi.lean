/-
  Texts of the proof, joined by program: DcLaw0. Own work.
-/
import Derived.Test.YtkdfnbahehdhmaaGreatXs
set_option linter.unusedSimpArgs false
set_option linter.unusedVariables false
set_option maxRecDepth 20000
set_option maxHeartbeats 4000000
namespace Go.AM
theorem vE {E:Env} {r:Nat} {g:Nat} {args:List V} {v v':V} {S:SS} {Q:KK} (hm:df E g=[]) (hp:V.an args=true) (he:Ev E g args ⟨v,[]⟩) (hv: ∀ (r:Nat) (k:V→bz),dk false r [] v k=k v') (k:Q v' S [] []):ed E (lQ E r false g args) S Q:=by
 have key: ∀ (as0:List V) (i:Nat) (kk:List V→List Nat→List dV→bz),V.an as0=true→eQ (r+8) as0 [] i kk=kk as0 [] []:=by
  intro as0
  induction as0 with
  | nil=>intro i kk _;rfl
  | cons a as0 ih=>
    intro i kk h
    simp only[V.an,Bool.and_eq_true] at h
    simp only[eQ,gA,h.1,cond_true,List.nil_append]
    rw[ih (i+1) _ h.2]
 unfold lQ
 rw[hm,key args 0 _ hp]
 refine⟨rfl,⟨⟨v,[]⟩,he,?_⟩⟩
 simp only[gB,hv,ed]
 exact k
theorem Ia {m M:aQ} {L:List Pt} {k n HJ Mc g5 H9 ko:Nat} {ms:List V} {p pp:Pt} {a b:Bool} {c x:Int} {v1 v2:V} {Q:bd→SS→Prop} (hx:L[k]? =some p) (hn:L.length=n) (hb:n< 2000000)
  (h1:Ev E 524 [m.v,vi p.x,vi p.y] ⟨v1,[]⟩) (h2:Ev E 525 [m.v,vi p.x,vi p.y] ⟨v2,[]⟩) (i1: ∀ (r:Nat) (k:V→bz),dk false r [] v1 k=k (.tuple [M.v,vi c])) (i2: ∀ (r:Nat) (k:V→bz),dk false r [] v2 k=k (.tuple [M.nv a b,vi c]))
  (h3:Ev E 526 [m.v,vi p.x,vi p.y] ⟨vi c,[]⟩) (h4:Ev E 527 [m.v,vi p.x,vi p.y] ⟨vi x,[]⟩) (h5:Ev E 528 [m.v,vi p.x,vi p.y] ⟨vi x,[]⟩)
  (hs:Ev E 89 [M.v,M.nv a b] ⟨.bool true,[]⟩)
  (hQ: ∀T' O',SS.Sub ⟨[(10,.ptr 176 HJ 0 0),(47,.sl 193 Mc 0 n),(48,aD n),(49,aD (k+1)),(5,.ptr 96 g5 0 0),(7,.bool true),(25,.sl 416 H9 0 2),(26,aD 2),(27,aD ko)],[(176,⟨HJ,4,false,false,some [m.v]⟩),(193,⟨Mc,2,true,false,some (L.map Pt.v)⟩),(416,⟨H9,4,true,false,some ms⟩),(96,⟨g5,2,false,false,some [pp.v]⟩)]⟩ ⟨T',O'⟩→Q .normal ⟨T',O'⟩):
  oN E CQ ⟨[(10,.ptr 176 HJ 0 0),(47,.sl 193 Mc 0 n),(48,aD n),(49,aD k),(5,.ptr 96 g5 0 0),(7,.bool true),(25,.sl 416 H9 0 2),(26,aD 2),(27,aD ko)],[(176,⟨HJ,4,false,false,some [m.v]⟩),(193,⟨Mc,2,true,false,some (L.map Pt.v)⟩),(416,⟨H9,4,true,false,some ms⟩),(96,⟨g5,2,false,false,some [pp.v]⟩)]⟩ Q:=by
 have hk:=(List.getElem?_eq_some_iff.1 hx).1
 have hm1:df E 524=[]:=rfl
 have KL:df E 525=[]:=rfl
 have hp:V.an [m.v,vi p.x,vi p.y]=true:=rfl
 cases a<;>cases b
 all_goals
  (conv=>whnf);repeat' ((first| refine vE hm1 hp h1 i1 ?_| refine vE KL hp h2 i2 ?_| intro g| refine aL.mk _ (aq hx rfl) ?_| refine ag.mk _ (h3) ?_| refine ag.mk _ (h4) ?_| refine ag.mk _ (h5) ?_| refine ag.mk _ (hs) ?_| refine st ?_| (first| refine b1 ?_ ?_| refine b2 ?_ ?_| refine Br.mk ?_ ?_) <;>intro hc| exact rfl) <;>conv=>whnf)
  all_goals exact hQ _ _ (by(refine⟨?_,?_⟩ <;>repeat' (first| exact True.intro| refine ai ?_| refine And.intro ?_ ?_)))
end Go.AM
