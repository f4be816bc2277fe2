/-
  Texts of the proof, joined by program: QaP. Own work.
-/
import Derived.Test.YtgkdgapmmkkcaaaGreatXa
set_option linter.unusedSimpArgs false
set_option linter.unusedVariables false
set_option maxRecDepth 20000
namespace Go.AM
def putAt (l:List eX) (s:eX):Nat→Nat
 | 0=>0
 | k+1=>if Op.bytesLess (l.getD k []) s=true then k+1 else putAt l s k
theorem tI (l:List eX) (s:eX): ∀k,putAt l s k≤k
 | 0=>Nat.le_refl _
 | k+1=>by
   have:=tI l s k
   unfold putAt;split<;>omega
def jA (l:List eX) (s:eX):List eX:=
 if l[putAt l s l.length]? =some s then l else l.take (putAt l s l.length)++[s]++l.drop (putAt l s l.length)
theorem Gh {l:List eX} {k:Nat} {x:eX} (h:l[k]? =some x):l.getD k []=x:=by simp[List.getD_eq_getElem?_getD,h]
theorem An {l:List eX} {p:Nat} (h:p≤l.length):aH (l.map V.str) 0 ((p:Int).toNat - 0)=(l.take p).map V.str:=by
 unfold aH;simp[List.map_take]
theorem Ao {l:List eX} {p:Nat} (h:p≤l.length):aH (l.map V.str) (p:Int).toNat ((l.map V.str).length - (p:Int).toNat)=(l.drop p).map V.str:=by
 unfold aH;rw[List.take_of_length_le (by simp)];simp[List.map_drop]
set_option maxHeartbeats 2000000 in
theorem Ap {l:List eX} (s:eX) (hl:l.length< 1000000):Ev E 462 [.lit 1 (l.map V.str),.str s] ⟨if l[putAt l s l.length]? =some s then .lit 1 ((jA l s).map V.str) else .own 1 ((jA l s).map V.str),[]⟩:=by
 refine Ev.cY OX (OY _) rfl ?_
 (conv=>whnf);repeat' ((first| intro g| refine st ?_| (first| refine b1 ?_ ?_| refine b2 ?_ ?_| refine Br.mk ?_ ?_) <;>intro hc| exact rfl) <;>conv=>whnf)
 refine ba.by (fun k:Nat=> ⟨[(0,.lit 1 (l.map V.str)),(1,.str s),(5,aT k)],[]⟩) (fun k=>k≤l.length∧putAt l s l.length=putAt l s k) (fun k=>k) l.length (by(refine⟨?_,?_⟩ <;>repeat' (first| exact True.intro| refine ai ?_| refine And.intro ?_ ?_))) ⟨Nat.le_refl _,rfl⟩ ?_
 rintro k ⟨hk,he⟩
 try dsimp only at hk he
 by_cases hk0:0 <k
 · obtain⟨k,rfl⟩: ∃k',k=k'+1:=⟨k - 1,by omega⟩
   obtain⟨x,hx⟩: ∃x,l[k]? =some x:=⟨_,aJ (by omega)⟩
   have hw:IntKind.i64.wrap (((k+1:Nat):Int) - 1)=(k:Int):=(wrap64 (by omega) (by omega)).trans (by omega)
   cases hb:Op.bytesLess x s with
   | true=>
     have hn: (!Op.bytesLess x s)=false:=by rw[hb];rfl
     have mW:putAt l s l.length=k+1:=by rw[he,putAt,Gh hx,if_pos hb]
     by_cases GF: (k+1) <l.length
     · obtain⟨y,hy⟩: ∃y,l[(k+1)]? =some y:=⟨_,aJ GF⟩
       by_cases KW:y=s
       · subst KW
         have hr:l[putAt l y l.length]? =some y:=by rw[mW,hy]
         have hv:jA l y=l:=by unfold jA;rw[if_pos hr]
         rw[if_pos hr,hv]
         (conv=>whnf);repeat' ((first| intro g| refine aL.mk _ (au hx hw) ?_| refine aL.mk _ (au hy (by first| rfl| simp)) ?_| refine st ?_| (first| refine b1 ?_ ?_| refine b2 ?_ ?_| refine Br.mk ?_ ?_) <;>intro hc| exact rfl) <;>conv=>whnf)
       · have hr: ¬l[putAt l s l.length]? =some s:=by rw[mW,hy];intro h;injection h with h;exact KW h
         have hv:jA l s=l.take (k+1)++[s]++l.drop (k+1):=by unfold jA;rw[if_neg hr,mW]
         rw[if_neg hr,hv]
         (conv=>whnf);repeat' ((first| intro g| refine aL.mk _ (au hx hw) ?_| refine aL.mk _ (au hy (by first| rfl| simp)) ?_| refine aL.mk _ (An hk) ?_| refine aL.mk _ (Ao hk) ?_| refine st ?_| (first| refine b1 ?_ ?_| refine b2 ?_ ?_| refine Br.mk ?_ ?_) <;>intro hc| exact rfl) <;>conv=>whnf)
         all_goals simp only[List.nil_append,List.map_append,List.map_cons,List.map_nil]
     · have hp: (k+1)=l.length:=by omega
       have hr: ¬l[putAt l s l.length]? =some s:=by rw[mW,hp];simp
       have hv:jA l s=l.take (k+1)++[s]++l.drop (k+1):=by unfold jA;rw[if_neg hr,mW]
       rw[if_neg hr,hv]
       (conv=>whnf);repeat' ((first| intro g| refine aL.mk _ (au hx hw) ?_| refine aL.mk _ (An hk) ?_| refine aL.mk _ (Ao hk) ?_| refine st ?_| (first| refine b1 ?_ ?_| refine b2 ?_ ?_| refine Br.mk ?_ ?_) <;>intro hc| exact rfl) <;>conv=>whnf)
       all_goals simp only[List.nil_append,List.map_append,List.map_cons,List.map_nil]
   | false=>
     have hn: (!Op.bytesLess x s)=true:=by rw[hb];rfl
     have mW:putAt l s (k+1)=putAt l s k:=by rw[putAt,Gh hx,if_neg (by rw[hb];simp)]
     (conv=>whnf);repeat' ((first| intro g| refine aL.mk _ (au hx hw) ?_| refine st ?_| (first| refine b1 ?_ ?_| refine b2 ?_ ?_| refine Br.mk ?_ ?_) <;>intro hc| exact rfl) <;>conv=>whnf)
     refine bI.mk k (by first| omega| (dsimp only;omega)) ⟨by omega,by rw[he,mW]⟩ ?_
     (refine⟨?_,?_⟩ <;>repeat' (first| exact True.intro| refine And.intro ((by(conv=>whnf);rw[hw])) ?_| refine ai ?_| refine And.intro ?_ ?_))
 · have Xh:k=0:=by omega
   subst Xh
   have mW:putAt l s l.length=0:=he
   by_cases GF:0 <l.length
   · obtain⟨y,hy⟩: ∃y,l[0]? =some y:=⟨_,aJ GF⟩
     by_cases KW:y=s
     · subst KW
       have hr:l[putAt l y l.length]? =some y:=by rw[mW,hy]
       have hv:jA l y=l:=by unfold jA;rw[if_pos hr]
       rw[if_pos hr,hv]
       (conv=>whnf);repeat' ((first| intro g| refine aL.mk _ (au hy (by first| rfl| simp)) ?_| refine st ?_| (first| refine b1 ?_ ?_| refine b2 ?_ ?_| refine Br.mk ?_ ?_) <;>intro hc| exact rfl) <;>conv=>whnf)
     · have hr: ¬l[putAt l s l.length]? =some s:=by rw[mW,hy];intro h;injection h with h;exact KW h
       have hv:jA l s=l.take 0++[s]++l.drop 0:=by unfold jA;rw[if_neg hr,mW]
       rw[if_neg hr,hv]
       (conv=>whnf);repeat' ((first| intro g| refine aL.mk _ (au hy (by first| rfl| simp)) ?_| refine aL.mk _ (An hk) ?_| refine aL.mk _ (Ao hk) ?_| refine st ?_| (first| refine b1 ?_ ?_| refine b2 ?_ ?_| refine Br.mk ?_ ?_) <;>intro hc| exact rfl) <;>conv=>whnf)
       all_goals simp only[List.nil_append,List.map_append,List.map_cons,List.map_nil]
   · have hp:0=l.length:=by omega
     have hr: ¬l[putAt l s l.length]? =some s:=by rw[mW,hp];simp
     have hv:jA l s=l.take 0++[s]++l.drop 0:=by unfold jA;rw[if_neg hr,mW]
     rw[if_neg hr,hv]
     (conv=>whnf);repeat' ((first| intro g| refine aL.mk _ (An hk) ?_| refine aL.mk _ (Ao hk) ?_| refine st ?_| (first| refine b1 ?_ ?_| refine b2 ?_ ?_| refine Br.mk ?_ ?_) <;>intro hc| exact rfl) <;>conv=>whnf)
     all_goals simp only[List.nil_append,List.map_append,List.map_cons,List.map_nil]
end Go.AM
