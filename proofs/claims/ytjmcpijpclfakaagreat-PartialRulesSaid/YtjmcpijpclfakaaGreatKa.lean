/-
  Texts of the proof: PSimA, PSimB, PSimS.
-/
import Derived.Test.YtjmcpijpclfakaaGreatIb
import Derived.Test.YtjmcpijpclfakaaGreatJa
set_option maxRecDepth 20000
set_option maxHeartbeats 4000000
set_option linter.unusedSimpArgs false
set_option linter.unusedVariables false
namespace Go.AM
def pM (v:Va):Ex:= .mk 1 0 v false []
def eS (t:Int) (b:Bd):Option Ex:=
 if t=3 then(match b.ws with
  | [s]=>if (Va.mk 3 0 false s).right then some (pM ⟨3,0,false,s⟩) else none
  | _=>none)
 else if b.lo=b.hi then some (pM (if t=2 then⟨2,0,decide (b.lo=1),[]⟩ else⟨t,b.lo,false,[]⟩)) else none
def A3 (b:Bd):Prop:= ∀s ∈ b.ws,s.length< 4611686018427387904
theorem vM {s:dE}: ∀ {l a:List dE},s ∈ union a l→s ∈ a∨s ∈ l
 | [],_,h=> .inl h
 | x::l,a,h=>by
   unfold union at h
   rcases vM h with h1| h1
   · split at h1
     · exact .inl h1
     · rcases List.mem_append.1 h1 with h1| h1
       · exact .inl h1
       · simp at h1;subst h1;exact .inr (by simp)
   · exact .inr (by simp[h1])
theorem Lp {l:List bH} (h:gZ l) (v:Int):A3 (aH l v):=by
 unfold aH
 split
 · intro s hs
   simp only[jc] at hs
   cases ho:cY v l with
   | nil=>rw[ho] at hs;simp[fA] at hs
   | cons k own=>
     rw[ho] at hs
     have hk:k ∈ l:=(List.mem_filter.1 (show k ∈ cY v l by rw[ho];simp)).1
     simp only[fA] at hs
     rcases vM hs with h1| h1
     · simp at h1
     · exact h.str k hk s (List.mem_filter.1 h1).1
 · unfold pL;split<;> (intro s hs;simp[nb] at hs)
theorem yT {l:List bH} (h:gZ l): ∀ (k:Nat) (e:Ex),e.size≤k→e.Fit→e.b4≠0→A3 (e.bd (aH l))
 | 0,e,h,_,_=>by have:=e.size_pos;omega
 | k+1,.mk op var val nl l',hk,hf,ht=>by
   have hc:=eT ht
   rw[Ex.nc]
   have cJ: (Ex.mk op var val nl l').size=1+Ex.bK l':=by simp only[Ex.size]
   have hnb: ∀a b,A3 (nb a b):=fun a b s hs=>by simp[nb] at hs
   rcases hc with⟨rfl,rfl,_,hr,e⟩ | ⟨rfl,rfl,_,hv,e⟩ | ⟨x,rfl,rfl,_,_,hx,e⟩ | ⟨x,y,ho,rfl,_,_,hx,hy,e,_⟩ | ⟨x,y,z,rfl,rfl,_,_,hx,hy,hz,e⟩
   · simp only[List.map_nil,cS,if_true]
     unfold gK
     have hfv:=hf.val
     split
     · intro s hs;simp at hs;subst hs;exact hfv
     split
     · cases val.b<;>exact hnb _ _
     · exact hnb _ _
   · simp only[List.map_nil,cS,Int.reduceEq,if_false]
     exact Lp h var
   · exact hnb _ _
   · simp only[List.map_cons,List.map_nil,cS]
     obtain⟨a,b,Ny⟩:=Cn op (x.bd (aH l)) (y.bd (aH l))
     rw[Ny];exact hnb _ _
   · have sx:Ex.bK [x,y,z]=x.size+(y.size+z.size):=by simp[Ex.bK]
     have iy:=yT h k y (by omega) (hf.mem y (by simp)) hy
     have iz:=yT h k z (by omega) (hf.mem z (by simp)) (by omega)
     simp only[List.map_cons,List.map_nil,cS]
     split
     · exact iy
     split
     · exact iz
     · unfold either
       split
       · split
         · intro s hs
           rcases vM hs with h1| h1
           · exact iy s h1
           · exact iz s h1
         · intro s hs;simp at hs
       · exact hnb _ _
def jq (o:Option Ex) (v:V):Prop:= ∃X:Ex,v= .tuple [X.v,.bool o.isSome]∧ ∀c,o=some c→X=c
theorem uj (v:Va): (pM v).v= .agg [vi 1,vi 0,vi v.t,vi v.n,.bool v.b,.str v.s,.lit 7 []]:=by
 rw[pM,Ex.bN];rfl
theorem Jn (s:dE) (h:s.length< 4611686018427387904): ∃t er,Ev E 338 [(pM ⟨3,0,false,s⟩).v] ⟨.tuple [vi t,vi er],[]⟩∧(er=0↔(Va.mk 3 0 false s).right=true):=by
 have dj:=kS (pM ⟨3,0,false,s⟩) (by simp[pM,Ex.size,Ex.bK]) (.mk _ _ _ _ _ h (by simp))
 refine⟨_,_,dj,?_⟩
 simp only[Ex.err,pM,Ex.size,Ex.bK,Ex.b4,Ex.xq,jt,eJ,many]
 cases hr: (Va.mk 3 0 false s).right<;>simp
theorem Lq {es:List V} {a b c d:Int} {e:Bool} {f:dE} {L:V} {bx:Bd} {t:Int} (eZ:V.aj (.mlit es)=true) (hp:V.aj (.agg [vi a,vi b,vi c,vi d,.bool e,.str f,L])=true)
   (A4:Ev E 340 [.mlit es,.agg [vi a,vi b,vi c,vi d,.bool e,.str f,L]] ⟨bx.v,[]⟩) (ht:t=1∨t=2∨t=3) (WX:A3 bx):
   ∃v,Ev E 387 [.mlit es,.agg [vi a,vi b,vi c,vi d,.bool e,.str f,L],vi t] ⟨v,[]⟩∧jq (eS t bx) v:=by
 have cm:aD E 340=[]:=rfl
 have gR:aD E 416=[]:=rfl
 have fS:=aQ eZ hp
 have hsg:=vH bx
 obtain⟨lo,hi,nl,ws,so,tx⟩:=bx
 have yS: ∀W,V.aj W=true→V.ae [.agg [vi lo,vi hi,W,.bool so,.bool tx]]=true:=fun W h=>by simp[V.ae,V.aj,h]
 rcases ht with rfl| rfl| rfl
 · refine⟨.tuple [(pM ⟨1,lo,false,[]⟩).v,.bool (decide (lo=hi))],?_,pM ⟨1,lo,false,[]⟩,?_,?_⟩
   · have hW:=gB nl ws
     simp only[Bd.v] at A4 hsg
     have yS:=yS _ hW
     generalize lh nl ws=W at*
     rw[uj]
     have Nz:V.aj (.agg [vi lo,vi hi,W,.bool so,.bool tx])=true:=by simpa [V.ae] using yS
     refine Ev.aG Hm (Hn _) rfl ?_
     (conv=>whnf);repeat' ((first| refine aq cm fS A4 Nz ?_| refine aq gR yS hsg rfl ?_| intro g| refine st ?_| (first| refine b1 ?_ ?_| refine b2 ?_ ?_| refine Br.mk ?_ ?_) <;>intro hc| exact rfl) <;>conv=>whnf)
   · by_cases h:lo=hi<;>simp[eS,h]
   · intro c hc
     simp only[eS,Int.reduceEq,if_false] at hc
     split at hc
     · exact Option.some.inj hc
     · cases hc
 · refine⟨.tuple [(pM ⟨2,0,decide (lo=1),[]⟩).v,.bool (decide (lo=hi))],?_,pM ⟨2,0,decide (lo=1),[]⟩,?_,?_⟩
   · have hW:=gB nl ws
     simp only[Bd.v] at A4 hsg
     have yS:=yS _ hW
     generalize lh nl ws=W at*
     rw[uj]
     have Nz:V.aj (.agg [vi lo,vi hi,W,.bool so,.bool tx])=true:=by simpa [V.ae] using yS
     refine Ev.aG Hm (Hn _) rfl ?_
     (conv=>whnf);repeat' ((first| refine aq cm fS A4 Nz ?_| refine aq gR yS hsg rfl ?_| intro g| refine st ?_| (first| refine b1 ?_ ?_| refine b2 ?_ ?_| refine Br.mk ?_ ?_) <;>intro hc| exact rfl) <;>conv=>whnf)
   · by_cases h:lo=hi<;>simp[eS,h]
   · intro c hc
     simp only[eS,Int.reduceEq,if_false,if_true] at hc
     split at hc
     · exact Option.some.inj hc
     · cases hc
 · by_cases hl:ws.length=1
   · obtain⟨s,rfl⟩: ∃s,ws=[s]:=by
       match ws,hl with
       | [s],_=>exact⟨s,rfl⟩
     obtain⟨t',er,dj,her⟩:=Jn s (WX s (by simp))
     rw[uj] at dj
     refine⟨.tuple [(pM ⟨3,0,false,s⟩).v,.bool (decide (er=0))],?_,pM ⟨3,0,false,s⟩,?_,?_⟩
     · have afI:Ev E 340 [.mlit es,.agg [vi a,vi b,vi c,vi d,.bool e,.str f,L]] ⟨.agg [vi lo,vi hi,.lit 1 [.str s],.bool so,.bool tx],[]⟩:=A4
       rw[uj]
       refine Ev.aG Hm (Hn _) rfl ?_
       (conv=>whnf);repeat' ((first| refine aq cm fS afI rfl ?_| intro g| refine bD.mk _ (rfl) ?_| refine av.mk _ (dj) ?_| refine st ?_| (first| refine b1 ?_ ?_| refine b2 ?_ ?_| refine Br.mk ?_ ?_) <;>intro hc| exact rfl) <;>conv=>whnf)
     · simp only[eS,if_true]
       by_cases hr: (Va.mk 3 0 false s).right=true
       · simp[hr,her]
       · simp[hr,her]
     · intro c hc
       simp only[eS,if_true] at hc
       split at hc
       · exact Option.some.inj hc
       · cases hc
   · have uc:eS 3 ⟨lo,hi,nl,ws,so,tx⟩=none:=by
       simp only[eS,if_true]
       split
       · simp_all
       · rfl
     rw[uc]
     refine⟨.tuple [(Ex.mk 0 0 aM false []).v,.bool false],?_,_,rfl,by simp⟩
     have hX: (Ex.mk 0 0 aM false []).v= .agg [vi 0,vi 0,vi 0,vi 0,.bool false,.str [],.lit 7 []]:=by rw[Ex.bN];rfl
     rw[hX]
     have lm: (ws.map V.str).length=ws.length:=List.length_map ..
     simp only[Bd.v] at A4
     rcases lj nl ws with⟨e1,e2⟩ | e1<;>rw[e1] at A4
     all_goals
       refine Ev.aG Hm (Hn _) rfl ?_
       (conv=>whnf);repeat' ((first| refine aq cm fS A4 rfl ?_| intro g| refine st ?_| (first| refine b1 ?_ ?_| refine b2 ?_ ?_| refine Br.mk ?_ ?_) <;>intro hc| exact rfl) <;>conv=>whnf)
end Go.AM
namespace Go.AM
theorem DX {sv:V} (eN:Sv sv) {a b c d:Int} {e:Bool} {f:dE} {L:V} {bx:Bd} {t:Int} (hp:V.aj (.agg [vi a,vi b,vi c,vi d,.bool e,.str f,L])=true)
   (hb:t≠3→Ev E 342 [.agg [vi a,vi b,vi c,vi d,.bool e,.str f,L],sv] ⟨.tuple [vi bx.lo,vi bx.hi],[]⟩)
   (hw:t=3→ ∃v,Ev E 388 [.agg [vi a,vi b,vi c,vi d,.bool e,.str f,L],sv] ⟨v,[]⟩∧RW bx.ws bx.some v)
   (ht:t=1∨t=2∨t=3) (WX:A3 bx) (Ct:t=3→(bx.some=true↔bx.ws≠[])):
   ∃v,Ev E 345 [.agg [vi a,vi b,vi c,vi d,.bool e,.str f,L],vi t,sv] ⟨v,[]⟩∧jq (eS t bx) v:=by
 have cm:aD E 342=[]:=rfl
 have gR:aD E 388=[]:=rfl
 obtain⟨lo,hi,nl,ws,so,tx⟩:=bx
 dsimp only at hb hw Ct
 rcases ht with rfl| rfl| rfl
 · have hb:=hb (by decide)
   refine⟨.tuple [(pM ⟨1,lo,false,[]⟩).v,.bool (decide (lo=hi))],?_,pM ⟨1,lo,false,[]⟩,?_,?_⟩
   · rw[uj]
     rcases eN with rfl| ⟨ks,rfl⟩
     all_goals
       refine Ev.aG He (Hf _) rfl ?_
       (conv=>whnf);repeat' ((first| refine aq cm (aQ hp rfl) hb rfl ?_| intro g| refine av.mk _ (BP _) ?_| refine av.mk _ (ya _) ?_| refine st ?_| (first| refine b1 ?_ ?_| refine b2 ?_ ?_| refine Br.mk ?_ ?_) <;>intro hc| exact rfl) <;>conv=>whnf)
   · by_cases h:lo=hi<;>simp[eS,h]
   · intro c hc
     simp only[eS,Int.reduceEq,if_false] at hc
     split at hc
     · exact Option.some.inj hc
     · cases hc
 · have hb:=hb (by decide)
   refine⟨.tuple [(pM ⟨2,0,decide (lo=1),[]⟩).v,.bool (decide (lo=hi))],?_,pM ⟨2,0,decide (lo=1),[]⟩,?_,?_⟩
   · rw[uj]
     rcases eN with rfl| ⟨ks,rfl⟩
     all_goals
       refine Ev.aG He (Hf _) rfl ?_
       (conv=>whnf);repeat' ((first| refine aq cm (aQ hp rfl) hb rfl ?_| intro g| refine av.mk _ (BP _) ?_| refine av.mk _ (ya _) ?_| refine st ?_| (first| refine b1 ?_ ?_| refine b2 ?_ ?_| refine Br.mk ?_ ?_) <;>intro hc| exact rfl) <;>conv=>whnf)
   · by_cases h:lo=hi<;>simp[eS,h]
   · intro c hc
     simp only[eS,Int.reduceEq,if_false,if_true] at hc
     split at hc
     · exact Option.some.inj hc
     · cases hc
 · obtain⟨v,hwv,hr⟩:=hw rfl
   clear hw hb
   have Ct:=Ct rfl
   have himp:=fun r k=>hr.imp r k
   have lm: (ws.map V.str).length=ws.length:=List.length_map ..
   by_cases hl:ws.length=1
   · obtain⟨s,rfl⟩: ∃s,ws=[s]:=by
       match ws,hl with
       | [s],_=>exact⟨s,rfl⟩
     obtain rfl:so=true:=Ct.2 (by simp)
     have hri:=AK ⟨3,0,false,s⟩ (WX s (by simp))
     simp only[Va.v] at hri
     refine⟨.tuple [(pM ⟨3,0,false,s⟩).v,.bool (Va.mk 3 0 false s).right],?_,pM ⟨3,0,false,s⟩,?_,?_⟩
     · rw[uj]
       rcases eN with rfl| ⟨ks,rfl⟩
       all_goals
        refine Ev.aG He (Hf _) rfl ?_
        (conv=>whnf);repeat' ((first| refine bc gR (aQ hp rfl) hwv himp ?_| intro g| refine bD.mk _ (rfl) ?_| refine av.mk _ (GW _) ?_| refine av.mk _ (hri) ?_| refine st ?_| (first| refine b1 ?_ ?_| refine b2 ?_ ?_| refine Br.mk ?_ ?_) <;>intro hc| exact rfl) <;>conv=>whnf)
     · simp only[eS,if_true]
       cases hr: (Va.mk 3 0 false s).right<;>simp
     · intro c hc
       simp only[eS,if_true] at hc
       split at hc
       · exact Option.some.inj hc
       · cases hc
   · have uc:eS 3 ⟨lo,hi,nl,ws,so,tx⟩=none:=by
       simp only[eS,if_true]
       split
       · simp_all
       · rfl
     rw[uc]
     refine⟨.tuple [(Ex.mk 1 0 aM false []).v,.bool false],?_,_,rfl,by simp⟩
     have hX: (Ex.mk 1 0 aM false []).v= .agg [vi 1,vi 0,vi 0,vi 0,.bool false,.str [],.lit 7 []]:=by rw[Ex.bN];rfl
     rw[hX]
     rcases eN with rfl| ⟨ks,rfl⟩ <;>cases so
     all_goals
       refine Ev.aG He (Hf _) rfl ?_
       (conv=>whnf);repeat' ((first| refine bc gR (aQ hp rfl) hwv himp ?_| intro g| refine st ?_| (first| refine b1 ?_ ?_| refine b2 ?_ ?_| refine Br.mk ?_ ?_) <;>intro hc| exact rfl) <;>conv=>whnf)
def pick (op:Int) (bs:List Bd) (ss:List Ex):Option Ex:=
 match bs,ss with
 | [a,_,_],[_,y,z]=>if op=13 then(if a.lo=1 then some y else if a.hi=0 then some z else none) else none
 | [a,b],[x,y]=>if op=4 then(if a.lo=1 then some y else if b.lo=1 then some x else none) else if op=5 then(if a.hi=0 then some y else if b.hi=0 then some x else none) else none
 | _,_=>none
def ba (o:Option Ex) (op var:Int) (val:Va) (bs:List Bd) (ss:List Ex):Ex:=
 match o with
 | some c=>c
 | none=>match pick op bs ss with
   | some s=>s
   | none=> .mk op var val true ss
mutual
def Ex.cT (K:Int→Bd):Ex→Ex
 | .mk op var val nl l=>ba (eS (jt op var val l.length (Ex.xq l)) (cS K op var val (Ex.DR K l))) op var val (Ex.DR K l) (Ex.Gc K l)
def Ex.Gc (K:Int→Bd):List Ex→List Ex
 | []=> []
 | e::l=>e.cT K::Ex.Gc K l
end
theorem Ex.Hw (K:Int→Bd): ∀l:List Ex,Ex.Gc K l=l.map (Ex.cT K)
 | []=>by simp[Ex.Gc]
 | e::l=>by simp[Ex.Gc,Ex.Hw K l]
theorem Ex.pN (K:Int→Bd) (op var:Int) (val:Va) (nl:Bool) (l:List Ex): (Ex.mk op var val nl l).cT K=ba (eS (Ex.mk op var val nl l).b4 ((Ex.mk op var val nl l).bd K)) op var val (l.map (Ex.bd K)) (l.map (Ex.cT K)):=by
 rw[Ex.cT]
 simp only[Ex.b4,Ex.bd,Ex.FZ,Ex.Hw]
def iq (e:Ex) (r:V):Prop:=r=e.v∨ ∃op var val nl x l,e= .mk op var val nl (x::l)∧r= .agg [vi op,vi var,vi val.t,vi val.n,.bool val.b,.str val.s,.own 7 ((x::l).map Ex.v)]
theorem iq.imp {e:Ex} {v:V} (h:iq e v) (r:Nat) (k:V→bR):bC false r [] v k=k e.v:=by
 rcases h with rfl| ⟨op,var,val,nl,x,l,rfl,rfl⟩
 · simp only[bC,e.pure,cond_true]
 · rw[Ex.bN];rfl
theorem xu {f:Nat} {args:List V} {Q:V→Prop} (h: ∃r,Ev E f args r∧ ∃v,r=⟨v,[]⟩∧Q v): ∃v,Ev E f args ⟨v,[]⟩∧Q v:=by
 obtain⟨r,h1,v,rfl,h2⟩:=h
 exact⟨v,h1,h2⟩
theorem ir {l L:List Ex} {S:Ex→Ex} {op var:Int} {val:Va} (h:0 <l.length) (hL:L=l.map S):iq (.mk op var val true (l.map S)) (.agg [vi op,vi var,vi val.t,vi val.n,.bool val.b,.str val.s,.own 7 (L.map Ex.v)]):=by
 subst hL
 cases l with
 | nil=>simp at h
 | cons x l=>exact .inr ⟨op,var,val,true,S x,l.map S,rfl,rfl⟩
end Go.AM
namespace Go.AM
theorem Jo {t:Int} {b:Bd} {c:Ex} (h:eS t b=some c):c.size=1:=by
 have hc: ∀v,(pM v).size=1:=fun v=>by simp[pM,Ex.size,Ex.bK]
 unfold eS at h
 split at h
 · split at h
   · split at h
     · rw[←Option.some.inj h];exact hc _
     · cases h
   · cases h
 · split at h
   · rw[←Option.some.inj h];exact hc _
   · cases h
theorem DY {op:Int} {bs:List Bd} {ss:List Ex} {s:Ex} (h:pick op bs ss=some s):s ∈ ss:=by
 unfold pick at h
 split at h
 · repeat' split at h
   all_goals first| (cases h) | skip
   all_goals simp
 · repeat' split at h
   all_goals first| (cases h) | skip
   all_goals simp
 · cases h
mutual
theorem yU (K:Int→Bd): ∀e:Ex,(e.cT K).size≤e.size
 | .mk op var val nl l=>by
   have hs:=A5 K l
   rw[Ex.cT]
   unfold ba
   split
   · rename_i c hc
     rw[Jo hc]
     exact(Ex.mk op var val nl l).size_pos
   · split
     · rename_i s hp
       have:=Ex.eU (DY hp)
       simp only[Ex.size]
       omega
     · simp only[Ex.size]
       omega
theorem A5 (K:Int→Bd): ∀l:List Ex,Ex.bK (Ex.Gc K l)≤Ex.bK l
 | []=>Nat.le_refl _
 | e::l=>by
   have h1:=yU K e
   have h2:=A5 K l
   simp only[Ex.Gc,Ex.bK]
   omega
end
end Go.AM
