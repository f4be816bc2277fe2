/-
  Texts of the proof, joined by program: SOddB, SOddCA, SOddCB. Own work.
-/
import Derived.Test.YtkdfnbahehdhmaaGreatMe2
import Derived.KernelRfl
set_option linter.unusedSimpArgs false
set_option linter.unusedVariables false
set_option maxRecDepth 20000
namespace Go.AM
theorem Xh {α:Type} (f:Nat→α) (t:Nat) (v:α):dn f t v t=v:=by simp[dn]
theorem Rh {α:Type} (f:Nat→α) {t n:Nat} (v:α) (h:n≠t):dn f t v n=f n:=by simp[dn,h]
def wc (i:Nat) (g:Nat) (e:Edge):V:= .agg [vi e.id,.sl (16000464+16*i) g 0 e.line.length,vi e.left,vi e.right]
def bk:Nat→List (Nat×Edge)→List V
 | _,[]=> []
 | i,p::l=>wc i p.1 p.2::bk (i+1) l
def Et (p:Nat×Edge):Obj:=⟨p.1,2,true,false,some (p.2.line.map Pt.v)⟩
def ep:Nat→List (Nat×Edge)→List (Nat×Obj)
 | _,[]=> []
 | i,p::l=> (16000464+16*i,Et p)::ep (i+1) l
theorem dG: ∀ (i:Nat) (l:List (Nat×Edge)),(bk i l).length=l.length
 | _,[]=>rfl
 | i,_::l=>by simp[bk,dG (i+1) l]
theorem il: ∀ (i:Nat) (l:List (Nat×Edge)) (p:Nat×Edge),bk i (l++[p])=bk i l++[wc (i+l.length) p.1 p.2]
 | i,[],p=>rfl
 | i,q::l,p=>by
   have:i+1+l.length=i+(l.length+1):=by omega
   simp[bk,il (i+1) l p,this]
theorem ga: ∀ {i:Nat} {l:List (Nat×Edge)} {k:Nat} {p:Nat×Edge},l[k]? =some p→(bk i l)[k]? =some (wc (i+k) p.1 p.2)
 | i,[],k,p,h=>by simp at h
 | i,q::l,0,p,h=>by simp at h;subst h;rfl
 | i,q::l,k+1,p,h=>by
   have:=ga (i:=i+1) (l:=l) (k:=k) (p:=p) (by simpa using h)
   simp only[bk,List.getElem?_cons_succ,this]
   rw[show i+1+k=i+(k+1) from by omega]
theorem cC: ∀ {i:Nat} {l:List (Nat×Edge)} {k:Nat} {p:Nat×Edge},l[k]? =some p→lk (ep i l) (16000464+16*(i+k))=some (Et p)
 | i,[],k,p,h=>by simp at h
 | i,q::l,0,p,h=>by simp at h;subst h;simp[ep,eF]
 | i,q::l,k+1,p,h=>by
   have:=cC (i:=i+1) (l:=l) (k:=k) (p:=p) (by simpa using h)
   rw[ep,eF,if_neg (by simp only;omega),show i+(k+1)=i+1+k from by omega]
   exact this
theorem aM {α:Type} {i n:Nat} {o:α} {l:List (Nat×α)} (h:n< 16000464):lk ((16000464+16*i,o)::l) n=lk l n:=by
 rw[eF,if_neg (by simp only;omega)]
theorem aA {α:Type} {k i:Nat} {o:α} {l:List (Nat×α)} (h:k< 16000464):lk ((k,o)::l) (16000464+16*i)=lk l (16000464+16*i):=by
 rw[eF,if_neg (by simp only;omega)]
theorem aw {α:Type} {k:Nat} {o:α} {l:List (Nat×α)}:lk ((k,o)::l) k=some o:=by
 rw[eF,if_pos rfl]
theorem b9 {α:Type} {p:Nat×α} {l m:List (Nat×α)} (h:lk m p.1=some p.2) (k:tF l m):tF (p::l) m:=
 ⟨by rw[h],k⟩
theorem fq {M:List (Nat×Obj)}: ∀ {i:Nat} {l:List (Nat×Edge)},(∀k p,l[k]? =some p→lk M (16000464+16*(i+k))=some (Et p))→tF (ep i l) M
 | _,[],_=>trivial
 | i,p::l,h=>by
   refine b9 (h 0 p rfl) (fq fun k q hq=> ?_)
   rw[show i+1+k=i+(k+1) from by omega]
   exact h (k+1) q (by simpa using hq)
def pw (O:Nat→Obj) (c:V) (e:Edge):Prop:=
 c=e.v∨ ∃r g off es,c= .agg [vi e.id,.sl r g off e.line.length,vi e.left,vi e.right]∧16000000≤r∧(O r).gen=g∧(O r).sz=2∧(O r).arr=true∧(O r).es=some es∧
  off+e.line.length≤es.length∧aN es off e.line.length=e.line.map Pt.v
inductive br (O:Nat→Obj):List V→List Edge→Prop
 | nil:br O [] []
 | cons {c:V} {e:Edge} {cs:List V} {es:List Edge} (h:pw O c e) (t:br O cs es):br O (c::cs) (e::es)
def qH (O O':Nat→Obj):Prop:=(∀r,r< 16000000→O' r=O r)∧ ∀r,(O' r).gen=(O r).gen∧(O' r).sz=(O r).sz∧(O' r).arr=(O r).arr∧(O' r).es=(O r).es
theorem qH.refl (O:Nat→Obj):qH O O:=⟨fun _ _=>rfl,fun _=> ⟨rfl,rfl,rfl,rfl⟩⟩
theorem qH.trans {a b c:Nat→Obj} (h:qH a b) (k:qH b c):qH a c:=
 ⟨fun r hr=> (k.1 r hr).trans (h.1 r hr),fun r=> ⟨(k.2 r).1.trans (h.2 r).1,(k.2 r).2.1.trans (h.2 r).2.1,(k.2 r).2.2.1.trans (h.2 r).2.2.1,(k.2 r).2.2.2.trans (h.2 r).2.2.2⟩⟩
theorem pw.fz {O O':Nat→Obj} (h:qH O O') {c:V} {e:Edge} (k:pw O c e):pw O' c e:=by
 rcases k with k| ⟨r,g,off,es,h1,h2,h3,h4,h5,h6,h7,h8⟩
 · exact .inl k
 · obtain⟨a1,a2,a3,a4⟩:=h.2 r
   exact .inr ⟨r,g,off,es,h1,h2,by rw[a1,h3],by rw[a2,h4],by rw[a3,h5],by rw[a4,h6],h7,h8⟩
theorem br.fz {O O':Nat→Obj} (h:qH O O'): ∀ {cs:List V} {es:List Edge},br O cs es→br O' cs es
 | _,_,.nil=> .nil
 | _,_,.cons a t=> .cons (a.fz h) (t.fz h)
theorem br.length {O:Nat→Obj}: ∀ {cs:List V} {es:List Edge},br O cs es→cs.length=es.length
 | _,_,.nil=>rfl
 | _,_,.cons a t=>by simp[t.length]
theorem br.pure {O:Nat→Obj}: ∀ {cs:List V} {es:List Edge},br O cs es→V.an cs=true→cs=es.map Edge.v
 | _,_,.nil,_=>rfl
 | _,_,.cons a t,h=>by
   simp only[V.an,Bool.and_eq_true] at h
   rcases a with rfl| ⟨r,g,off,es,rfl,_⟩
   · simp[t.pure h.2]
   · have:=h.1
     simp[V.aC,V.an] at this
theorem br.append {O:Nat→Obj}: ∀ {cs ds:List V} {es fs:List Edge},br O cs es→br O ds fs→br O (cs++ds) (es++fs)
 | _,_,_,_,.nil,h=>h
 | _,_,_,_,.cons a t,h=> .cons a (t.append h)
theorem br.set {O:Nat→Obj}: ∀ {cs:List V} {es:List Edge} (k:Nat) {c:V} {e:Edge},br O cs es→pw O c e→br O (cs.set k c) (es.set k e)
 | _,_,_,_,_,.nil,_=> .nil
 | _,_,0,_,_,.cons a t,h=> .cons h t
 | _,_,k+1,_,_,.cons a t,h=> .cons a (t.set k h)
theorem br.take {O:Nat→Obj}: ∀ {cs:List V} {es:List Edge} (k:Nat),br O cs es→br O (cs.take k) (es.take k)
 | _,_,0,_=>by simp;exact .nil
 | _,_,_+1,.nil=>by simp;exact .nil
 | _,_,k+1,.cons a t=>by simp only[List.take_succ_cons];exact .cons a (t.take k)
theorem br.drop {O:Nat→Obj}: ∀ {cs:List V} {es:List Edge} (k:Nat),br O cs es→br O (cs.drop k) (es.drop k)
 | _,_,0,h=>by simpa using h
 | _,_,_+1,.nil=>by simp;exact .nil
 | _,_,k+1,.cons a t=>by simp only[List.drop_succ_cons];exact t.drop k
theorem GW {O:Nat→Obj} {T:Nat→V} {c:V} {e:Edge} (h:pw O c e) {k:V→Act} {Q:V→St→Prop} (hk: ∀O',qH O O'→rE E (k e.v) ⟨T,O'⟩ Q):rE E (sA c k) ⟨T,O⟩ Q:=by
 rcases h with rfl| ⟨r,g,off,es,rfl,h2,h3,h4,h5,h6,h7,h8⟩
 · have:V.aC e.v=true:=rfl
   unfold sA
   rw[if_pos this]
   exact hk O (qH.refl O)
 · have hp:V.aC (.agg [vi e.id,.sl r g off e.line.length,vi e.left,vi e.right])=false:=rfl
   unfold sA
   rw[hp]
   simp only[Bool.false_eq_true,if_false,dQ,cb]
   rw[kR]
   simp only[h6]
   rw[if_pos ⟨h3,h5,h7,by rw[h8];exact Pt.bZ _⟩,mV,h4,h8]
   refine hk _ ⟨fun r' rY=> ?_,fun r'=> ?_⟩
   · show dn O r _ r'=_
     rw[Rh _ _ (by omega)]
   · show (dn O r _ r').gen=_∧_
     by_cases e:r'=r
     · subst e;simp[Xh,h4,h6]
     · simp[Rh _ _ e]
theorem GX {T:Nat→V} {Q:V→St→Prop}: ∀ {cs:List V} {es:List Edge} {O:Nat→Obj} {k:List V→Act},br O cs es→(∀O',qH O O'→rE E (k (es.map Edge.v)) ⟨T,O'⟩ Q)→rE E (gv.go cs k) ⟨T,O⟩ Q
 | _,_,O,k,.nil,hk=>by simp only[gv.go];exact hk O (qH.refl O)
 | _,_,O,k,.cons a t,hk=>by
   simp only[gv.go]
   exact GW a fun O1 h1=>GX (t.fz h1) fun O2 h2=>hk O2 (h1.trans h2)
theorem Kn {T:Nat→V} {Q:V→St→Prop} {cs:List V} {es:List Edge} {O:Nat→Obj} {k:List V→Act} (h:br O cs es) (hk: ∀O',qH O O'→rE E (k (es.map Edge.v)) ⟨T,O'⟩ Q):rE E (gv cs k) ⟨T,O⟩ Q:=by
 unfold gv
 cases hp:V.an cs with
 | true=>rw[if_pos rfl,h.pure hp];exact hk O (qH.refl O)
 | false=>rw[if_neg (by simp)];exact GX h hk
theorem DT.any {E:Env} {a:Act} {S:SS} {Q:KK} (h: ∀σ,S.On σ→rE E a σ fun v σ'=> ∃S',S'.On σ'∧ ∀r w,Q v S' r w):DT E a S Q:=
 ⟨fun σ ho=>by
   obtain⟨n,v,σ',h1,S',h2,h3⟩:=h σ ho
   exact⟨n,v,σ',h1,S',h2,h3 _ _⟩⟩
theorem bT {T:List (Nat×V)} {O:List (Nat×Obj)} {Q:KK} {g n:Nat} {cells:List V} {L:List Edge} {fo:Obj} (rZ:lk O 145=some ⟨g,4,true,false,some cells⟩) (abu:lk O 193=some fo)
   (hc: ∀σ,SS.On ⟨T,O⟩ σ→br σ.O cells L) (hq: ∀r w,Q (.sl 145 g 0 n) ⟨T,[(145,⟨g,4,true,false,some (L.map Edge.v)⟩),(193,fo)]⟩ r w):DT E (lT (.sl 145 g 0 n)) ⟨T,O⟩ Q:=by
 refine DT.any fun σ ho=> ?_
 have e1:=ho.2 145 _ rZ
 have e2:=ho.2 193 _ abu
 have ok:=hc σ ho
 unfold lT
 simp only
 rw[kR,e1]
 simp only
 refine Kn (T:=σ.T) (O:=σ.O) ok fun O' hf=> ?_
 have e3:O' 145=_:=(hf.1 145 (by decide)).trans e1
 have e4:O' 193=_:=(hf.1 193 (by decide)).trans e2
 rw[kR]
 simp only[e3,Option.isSome_some]
 rw[if_pos ⟨trivial,trivial,uC (fun _=>rfl) L⟩,mV,mU]
 refine⟨_,⟨fun t v hv=> ?_,fun r o hr=> ?_⟩,hq⟩
 · exact ho.1 t v hv
 · show dn O' 145 _ r=o
   rw[eF] at hr
   by_cases e:145=r
   · rw[if_pos e] at hr
     injection hr with hr
     subst e
     rw[Xh];exact hr
   · rw[if_neg e,eF] at hr
     by_cases e5:193=r
     · rw[if_pos e5] at hr
       injection hr with hr
       subst e5
       rw[Rh _ _ (by decide),e4];exact hr
     · rw[if_neg e5] at hr
       simp[lk] at hr
theorem GY {O:Nat→Obj}: ∀ {i:Nat} {l:List (Nat×Edge)},(∀k p,l[k]? =some p→ ∃z,O (16000464+16*(i+k))=⟨p.1,2,true,z,some (p.2.line.map Pt.v)⟩)→br O (bk i l) (l.map (·.2))
 | _,[],_=> .nil
 | i,p::l,h=>by
   obtain⟨z,h0⟩:=h 0 p rfl
   rw[Nat.add_zero] at h0
   refine .cons (.inr ⟨_,_,_,_,rfl,by omega,by rw[h0],by rw[h0],by rw[h0],by rw[h0],by simp,bC rfl⟩) (GY fun k q hq=> ?_)
   rw[show i+1+k=i+(k+1) from by omega]
   exact h (k+1) q (by simpa using hq)
theorem iT {O:Nat→Obj} {r g:Nat} {z:Bool} {ps:List Pt} (h:O r=⟨g,2,true,z,some (ps.map Pt.v)⟩) (hr:16000000≤r) (id a b:Int) {off len:Nat} (ho:off=0) (hl:len=ps.length):
  pw O (.agg [vi id,.sl r g off len,vi a,vi b]) ⟨id,ps,a,b⟩:=by
 subst ho;subst hl
 exact .inr ⟨r,g,0,_,rfl,hr,by rw[h],by rw[h],by rw[h],by rw[h],by simp,bC rfl⟩
theorem r5: ∀ {i:Nat} {l:List (Nat×Edge)} {k g:Nat} {x y:Edge},l[k]? =some (g,x)→y.id=x.id→y.line.length=x.line.length→y.left=x.left→y.right=x.right→bk i (l.set k (g,y))=bk i l
 | _,[],_,_,_,_,h,_,_,_,_=>by simp at h
 | i,p::l,0,g,x,y,h,h1,h2,h3,h4=>by
   simp at h;subst h
   simp[bk,wc,h1,h2,h3,h4]
 | i,p::l,k+1,g,x,y,h,h1,h2,h3,h4=>by
   simp only[List.set_cons_succ,bk]
   rw[r5 (by simpa using h) h1 h2 h3 h4]
theorem mD {α:Type} {k n:Nat} {o:α} {l:List (Nat×α)} (h:k≠n):lk ((k,o)::l) n=lk l n:=by
 rw[eF,if_neg h]
theorem aX {α:Type} {k n:Nat} {o:α} {l:List (Nat×α)} (h:Nat.beq k n=false):lk ((k,o)::l) n=lk l n:=by
 simp only[lk,h,cond_false]
theorem er {E:Env} {t:Nat} {o:Obj} {k:Obj→bz} {S:SS} {Q:KK} (h:lk S.O t=some o) (hk:ed E (k o) S fun v S' r w=>Q v S' (.o t::r) w):ed E (.bV t k) S Q:=by
 simp only[ed,h]
 exact hk
theorem jQ {E:Env} {S:SS} {Q:KK} (h:Q .nils S [] []):DT E (lT .nils) S Q:=
 ⟨fun σ ho=>by
   unfold lT
   rw[kS]
   exact⟨S,ho,h⟩⟩
theorem bp (a:Int) (n:Nat) (h:0 <n) (h2:n< 1000000000000000): ∃k:Nat,k<n∧Ev E 93 [vi a,vi (n:Int)] ⟨aD k,[]⟩:=by
 have hb:=xU (a:=a) h h2
 have he:=Bn (a:=a) (n:=(n:Int)) (by omega)
 refine⟨(uE a n).toNat,by omega,?_⟩
 rw[show aD (uE a n).toNat=vi (uE a n) from by show V.int _ _=V.int _ _;congr 1;omega]
 exact he
theorem gI {T:List (Nat×V)} {M:List (Nat×Obj)} {l:List (Nat×Edge)} {L:List Edge} (hl:l.map (·.2)=L) (h: ∀k p,l[k]? =some p→ ∃z,lk M (16000464+16*(0+k))=some ⟨p.1,2,true,z,some (p.2.line.map Pt.v)⟩):
  ∀σ,SS.On ⟨T,M⟩ σ→br σ.O (bk 0 l) L:=fun σ ho=>by
 rw[←hl]
 exact GY fun k p hk=>by
  obtain⟨z,hz⟩:=h k p hk
  exact⟨z,ho.2 _ _ hz⟩
theorem zx {T:List (Nat×V)} {M:List (Nat×Obj)} {l:List (Nat×Edge)} {L:List Edge} {kk gk:Nat} {x y:Edge} {z:Bool} (hl:l.map (·.2)=L) (hx:l[kk]? =some (gk,x)) (h1:y.id=x.id) (h2:y.line.length=x.line.length) (h3:y.left=x.left) (h4:y.right=x.right)
  (hk:lk M (16000464+16*(0+kk))=some ⟨gk,2,true,z,some (y.line.map Pt.v)⟩) (ho: ∀k p,k≠kk→l[k]? =some p→lk M (16000464+16*(0+k))=some (Et p)):
  ∀σ,SS.On ⟨T,M⟩ σ→br σ.O (bk 0 l) (L.set kk y):=fun σ h=>by
 have:=gI (T:=T) (M:=M) (l:=l.set kk (gk,y)) (L:=L.set kk y) (by rw[List.map_set,hl]) (fun k p hp=>by
  by_cases e:k=kk
  · subst e
    rw[List.getElem?_set] at hp
    have bl:=(List.getElem?_eq_some_iff.1 hx).1
    simp[bl] at hp
    subst hp
    exact⟨z,hk⟩
  · rw[List.getElem?_set_ne (Ne.symm e)] at hp
    exact⟨false,ho k p e hp⟩) σ h
 rw[r5 hx h1 h2 h3 h4] at this
 exact this
theorem bN (n m:Nat) (h:0 <m): ∃k:Nat,(n:Int).tmod (m:Int)=(k:Int)∧k<m:=by
 refine⟨((n:Int).tmod m).toNat,?_,?_⟩
 · have:=Int.tmod_nonneg (b:=(m:Int)) (a:=(n:Int)) (by omega)
   omega
 · have:=Int.tmod_nonneg (b:=(m:Int)) (a:=(n:Int)) (by omega)
   have:=Int.tmod_lt_of_pos (n:Int) (show (0:Int) <m by omega)
   omega
theorem fH {M:List (Nat×Obj)} {l:List (Nat×Edge)} {k:Nat} {p:Nat×Edge} (h:lk M (16000464+16*(0+k))=lk (ep 0 l) (16000464+16*(0+k))) (hk:l[k]? =some p):lk M (16000464+16*(0+k))=some (Et p):=by
 rw[h];exact cC hk
theorem zy: ∀ (l:List (Nat×Edge)) (k:Nat) {i:Nat},((bk i l).drop k).all (aS · 4)=true:=by
 intro l k i
 have: (bk i l).all (aS · 4)=true:=by
  induction l generalizing i with
  | nil=>rfl
  | cons p l ih=>simp only[bk,List.all_cons,ih,Bool.and_true];rfl
 simp only[List.all_eq_true] at this ⊢
 exact fun y hy=>this y (List.mem_of_mem_drop hy)
def kW (a b c:Int):V:= .agg [vi a,vi b,vi c]
end Go.AM
set_option maxRecDepth 20000
namespace Go.AM
set_option maxHeartbeats 8000000 in
theorem C3 {L:List Edge} {F:List aI} (hL:L.length< 1000) (hF:F.length< 1000) (hl: ∀e ∈ L,e.line.length< 10) (q0 q1 q2:Int) (cc:Nat) (ec:Ev E 93 [vi q0,vi ((13:Nat):Int)] ⟨aD cc,[]⟩) (db:cc=0∨cc=1∨cc=2):
   ∃res,Ev E 94 [.lit 4 (L.map Edge.v),.lit 5 (F.map aI.v),kW q0 q1 q2] res∧ ∃ (L':List Edge) (F':List aI),L'.length≤L.length+1∧F'.length≤F.length+1∧(∀e ∈ L',e.line.length< 10)∧res=⟨.tuple [.own 4 (L'.map Edge.v),.own 5 (F'.map aI.v)],[]⟩:=by
 refine Ev.cO Bp (Bq _) rfl ?_
 (conv=>whnf);repeat' ((first| intro g| refine st ?_| (first| refine b1 ?_ ?_| refine b2 ?_ ?_| refine Br.mk ?_ ?_) <;>intro hc| exact rfl| refine jQ ?_) <;>conv=>whnf)
 rename_i ig _
 refine aV.by (fun ((i,l,g):Nat×List (Nat×Edge) ×Nat)=> ⟨[(0,.lit 4 (L.map Edge.v)),(1,.lit 5 (F.map aI.v)),(5,.ptr 96 ig 0 0),(8,.sl 145 g 0 i),(9,aD i)],(96,⟨ig,3,false,false,some [kW q0 q1 q2]⟩):: (145,⟨g,4,true,false,some (bk 0 l)⟩)::ep 0 l⟩)
   (fun (i,l,g)=>i≤L.length∧l.length=i∧l.map (·.2)=L.take i) (fun (i,_)=>L.length - i) (0,[],g) (by(refine⟨?_,?_⟩ <;>repeat' (first| exact True.intro| refine ai ?_| refine And.intro ?_ ?_))) ⟨by simp,by simp,by simp⟩ ?_
 rintro⟨i,l,g⟩ ⟨hi,gu,bl⟩
 try dsimp only at hi gu bl
 by_cases fB:i<L.length
 · obtain⟨e,he⟩: ∃e,L[i]? =some e:=⟨_,aE fB⟩
   have hle:=hl e (List.mem_of_getElem? he)
   have C4: (bk 0 l).length=i:=by rw[dG];exact gu
   (conv=>whnf);repeat' ((first| (refine Or.inl (dI.mk ⟨rfl,C4,by simp;omega⟩ ?_)) | intro g| refine aL.mk _ (aq he rfl) ?_| refine st ?_| (first| refine b1 ?_ ?_| refine b2 ?_ ?_| refine Br.mk ?_ ?_) <;>intro hc| exact rfl| refine er (by(repeat' (first| exact aw| assumption| refine(aX (by decide)).trans ?_| refine(aM (by decide)).trans ?_| refine(aA (by decide)).trans ?_))) ?_) <;>conv=>whnf)
   rename_i gi _
   have rZ:bk 0 (l++[(gi,e)])=bk 0 l++[V.agg [vi e.id,.sl (16000464+16*(i:Int).toNat) gi 0 (0+(e.line.map Pt.v).length),vi e.left,vi e.right]]:=by
     rw[il];simp[wc,gu]
   refine a9.mk (i+1,l++[(gi,e)],g) (by first| omega| (dsimp only;omega)) ⟨by omega,by simp[gu],by rw[List.map_append,bl,eo he];rfl⟩ ⟨by(repeat' (first| exact True.intro| refine ai ?_| refine And.intro ?_ ?_)),?_⟩
   refine b9 ?_ (b9 ?_ (fq fun k p hk=> ?_))
   · show lk _ 96=some (⟨ig,3,false,false,some [kW q0 q1 q2]⟩:Obj)
     repeat' (first| exact aw| refine(aX (by decide)).trans ?_| refine(aM (by decide)).trans ?_)
   · show lk _ 145=some (⟨g,4,true,false,some (bk 0 (l++[(gi,e)]))⟩:Obj)
     rw[rZ];exact aw
   · by_cases Ri:k<i
     · rw[List.getElem?_append_left (by omega)] at hk
       repeat' (first| exact cC hk| refine(aA (by decide)).trans ?_| refine(mD (by omega)).trans ?_)
     · obtain rfl:k=i:=by
         have:=(List.getElem?_eq_some_iff.1 hk).1
         simp at this;omega
       obtain rfl:p=(gi,e):=by
         rw[List.getElem?_append_right (by omega)] at hk
         simpa [gu] using hk.symm
       rw[show 16000464+16*(0+k)=16000464+16*((k:Int)).toNat from by simp]
       repeat' (first| exact aw| refine(aA (by decide)).trans ?_)
 · obtain rfl:i=L.length:=by omega
   rw[List.take_of_length_le (by omega)] at bl
   have eu: ∀ (M:List (Nat×Obj)) (T:List (Nat×V)),(∀k p,l[k]? =some p→lk M (16000464+16*(0+k))=lk (ep 0 l) (16000464+16*(0+k)))→ ∀σ,SS.On ⟨T,M⟩ σ→br σ.O (bk 0 l) L:=
     fun M T h=>gI bl fun k p hk=> ⟨false,by rw[h k p hk];exact cC hk⟩
   by_cases hn:L.length=0
   · (conv=>whnf);repeat' ((first| intro g| refine st ?_| (first| refine b1 ?_ ?_| refine b2 ?_ ?_| refine Br.mk ?_ ?_) <;>intro hc| exact rfl) <;>conv=>whnf)
     refine bT (L:=L) (by(repeat' (first| exact aw| assumption| refine(aX (by decide)).trans ?_| refine(aM (by decide)).trans ?_| refine(aA (by decide)).trans ?_))) (by(repeat' (first| exact aw| assumption| refine(aX (by decide)).trans ?_| refine(aM (by decide)).trans ?_| refine(aA (by decide)).trans ?_))) (eu _ _ fun k p hk=>by(repeat' (first| refine(aA (by decide)).trans ?_| rfl))) ?_
     intro r w
     (conv=>whnf);repeat' ((first| intro g| refine aL.mk _ (bC (by simp)) ?_| refine st ?_| (first| refine b1 ?_ ?_| refine b2 ?_ ?_| refine Br.mk ?_ ?_) <;>intro hc| exact rfl) <;>conv=>whnf)
     exact⟨L,F,by omega,by omega,fun e he=>hl e he,rfl⟩
   · obtain⟨nn,uI,en⟩:=bp q1 40 (by decide) (by decide)
     obtain⟨kk,uJ,ek⟩:=bp q2 L.length (by omega) (by omega)
     obtain⟨⟨gk,x⟩,hx⟩: ∃p,l[kk]? =some p:=⟨_,aE (by omega)⟩
     have FM:L[kk]? =some x:=by rw[←bl,List.getElem?_map,hx];rfl
     have vY:=hl x (List.mem_of_getElem? FM)
     have cJ: (bk 0 l)[((kk:Nat):Int).toNat]? =some (.agg [vi x.id,.sl (16000464+16*(0+kk)) gk 0 x.line.length,vi x.left,vi x.right]):=ga hx
     have cP:lk (ep 0 l) (16000464+16*(0+kk))=some ⟨gk,2,true,false,some (x.line.map Pt.v)⟩:=cC hx
     have jP: ∀y:Edge,y.line.length< 10→ ∀e ∈ L.set kk y,e.line.length< 10:=fun y hy e he=>by
       rcases List.mem_or_eq_of_mem_set he with h| rfl
       · exact hl e h
       · exact hy
     have Ko: (bk 0 l).length=L.length:=by rw[dG];exact gu
     rcases db with rfl| rfl| rfl
     · (conv=>whnf);repeat' ((first| intro g| refine aL.mk _ (cJ) ?_| refine ag.mk _ (en) ?_| refine ag.mk _ (ek) ?_| refine ag.mk _ (ec) ?_| refine st ?_| (first| refine b1 ?_ ?_| refine b2 ?_ ?_| refine Br.mk ?_ ?_) <;>intro hc| exact rfl| refine er (by(repeat' (first| exact aw| assumption| refine(aX (by decide)).trans ?_| refine(aM (by decide)).trans ?_| refine(aA (by decide)).trans ?_))) ?_) <;>conv=>whnf)
       refine bT (L:=L.set kk ⟨IntKind.i64.wrap ((nn:Int) - 1),x.line,x.left,x.right⟩) (by(repeat' (first| exact aw| assumption| refine(aX (by decide)).trans ?_| refine(aM (by decide)).trans ?_| refine(aA (by decide)).trans ?_))) (by(repeat' (first| exact aw| assumption| refine(aX (by decide)).trans ?_| refine(aM (by decide)).trans ?_| refine(aA (by decide)).trans ?_))) ?_ ?_
       · refine fun σ ho=>br.set kk (eu _ _ (fun k p hk=>by(repeat' (first| refine(aA (by decide)).trans ?_| rfl))) σ ho) ?_
         refine iT (z:=false) (ho.2 (16000464+16*(0+kk)) _ (by(repeat' (first| exact aw| assumption| refine(aX (by decide)).trans ?_| refine(aM (by decide)).trans ?_| refine(aA (by decide)).trans ?_)))) (by omega) _ _ _ rfl rfl
       · intro r w
         (conv=>whnf);repeat' ((first| intro g| refine aL.mk _ (bC (by simp)) ?_| refine st ?_| (first| refine b1 ?_ ?_| refine b2 ?_ ?_| refine Br.mk ?_ ?_) <;>intro hc| exact rfl) <;>conv=>whnf)
         exact⟨_,F,by simp,by omega,(by exact jP _ vY),rfl⟩
     · (conv=>whnf);repeat' ((first| intro g| refine aL.mk _ (cJ) ?_| refine ag.mk _ (en) ?_| refine ag.mk _ (ek) ?_| refine ag.mk _ (ec) ?_| refine st ?_| (first| refine b1 ?_ ?_| refine b2 ?_ ?_| refine Br.mk ?_ ?_) <;>intro hc| exact rfl| refine er (by(repeat' (first| exact aw| assumption| refine(aX (by decide)).trans ?_| refine(aM (by decide)).trans ?_| refine(aA (by decide)).trans ?_))) ?_) <;>conv=>whnf)
       refine bT (L:=L.set kk ⟨x.id,x.line,(nn:Int),x.right⟩) (by(repeat' (first| exact aw| assumption| refine(aX (by decide)).trans ?_| refine(aM (by decide)).trans ?_| refine(aA (by decide)).trans ?_))) (by(repeat' (first| exact aw| assumption| refine(aX (by decide)).trans ?_| refine(aM (by decide)).trans ?_| refine(aA (by decide)).trans ?_))) ?_ ?_
       · refine fun σ ho=>br.set kk (eu _ _ (fun k p hk=>by(repeat' (first| refine(aA (by decide)).trans ?_| rfl))) σ ho) ?_
         refine iT (z:=false) (ho.2 (16000464+16*(0+kk)) _ (by(repeat' (first| exact aw| assumption| refine(aX (by decide)).trans ?_| refine(aM (by decide)).trans ?_| refine(aA (by decide)).trans ?_)))) (by omega) _ _ _ rfl rfl
       · intro r w
         (conv=>whnf);repeat' ((first| intro g| refine aL.mk _ (bC (by simp)) ?_| refine st ?_| (first| refine b1 ?_ ?_| refine b2 ?_ ?_| refine Br.mk ?_ ?_) <;>intro hc| exact rfl) <;>conv=>whnf)
         exact⟨_,F,by simp,by omega,(by exact jP _ vY),rfl⟩
     · obtain⟨k4,lY,Jc⟩:=bN nn 4 (by decide)
       have lY: (nn:Int).tmod 4=k4:=lY
       (conv=>whnf);repeat' ((first| intro g| refine aL.mk _ (cJ) ?_| refine ag.mk _ (en) ?_| refine ag.mk _ (ek) ?_| refine ag.mk _ (ec) ?_| refine st ?_| (first| refine b1 ?_ ?_| refine b2 ?_ ?_| refine Br.mk ?_ ?_) <;>intro hc| exact rfl| refine er (by(repeat' (first| exact aw| assumption| refine(aX (by decide)).trans ?_| refine(aM (by decide)).trans ?_| refine(aA (by decide)).trans ?_))) ?_) <;>conv=>whnf)
       rw[lY]
       rcases(by omega:k4=0∨k4=1∨k4=2∨k4=3) with rfl| rfl| rfl| rfl
       all_goals
         (conv=>whnf);repeat' ((first| intro g| refine aL.mk _ (cJ) ?_| refine ag.mk _ (en) ?_| refine ag.mk _ (ek) ?_| refine ag.mk _ (ec) ?_| refine st ?_| (first| refine b1 ?_ ?_| refine b2 ?_ ?_| refine Br.mk ?_ ?_) <;>intro hc| exact rfl| refine er (by(repeat' (first| exact aw| assumption| refine(aX (by decide)).trans ?_| refine(aM (by decide)).trans ?_| refine(aA (by decide)).trans ?_))) ?_) <;>conv=>whnf)
       · refine bT (L:=L.set kk ⟨x.id,x.line,x.left,0⟩) (by(repeat' (first| exact aw| assumption| refine(aX (by decide)).trans ?_| refine(aM (by decide)).trans ?_| refine(aA (by decide)).trans ?_))) (by(repeat' (first| exact aw| assumption| refine(aX (by decide)).trans ?_| refine(aM (by decide)).trans ?_| refine(aA (by decide)).trans ?_))) ?_ ?_
         · refine fun σ ho=>br.set kk (eu _ _ (fun k p hk=>by(repeat' (first| refine(aA (by decide)).trans ?_| rfl))) σ ho) ?_
           refine iT (z:=false) (ho.2 (16000464+16*(0+kk)) _ (by(repeat' (first| exact aw| assumption| refine(aX (by decide)).trans ?_| refine(aM (by decide)).trans ?_| refine(aA (by decide)).trans ?_)))) (by omega) _ _ _ rfl rfl
         · intro r w
           (conv=>whnf);repeat' ((first| intro g| refine aL.mk _ (bC (by simp)) ?_| refine st ?_| (first| refine b1 ?_ ?_| refine b2 ?_ ?_| refine Br.mk ?_ ?_) <;>intro hc| exact rfl) <;>conv=>whnf)
           exact⟨_,F,by simp,by omega,(by exact jP _ vY),rfl⟩
       · refine bT (L:=L.set kk ⟨x.id,x.line,x.left,21⟩) (by(repeat' (first| exact aw| assumption| refine(aX (by decide)).trans ?_| refine(aM (by decide)).trans ?_| refine(aA (by decide)).trans ?_))) (by(repeat' (first| exact aw| assumption| refine(aX (by decide)).trans ?_| refine(aM (by decide)).trans ?_| refine(aA (by decide)).trans ?_))) ?_ ?_
         · refine fun σ ho=>br.set kk (eu _ _ (fun k p hk=>by(repeat' (first| refine(aA (by decide)).trans ?_| rfl))) σ ho) ?_
           refine iT (z:=false) (ho.2 (16000464+16*(0+kk)) _ (by(repeat' (first| exact aw| assumption| refine(aX (by decide)).trans ?_| refine(aM (by decide)).trans ?_| refine(aA (by decide)).trans ?_)))) (by omega) _ _ _ rfl rfl
         · intro r w
           (conv=>whnf);repeat' ((first| intro g| refine aL.mk _ (bC (by simp)) ?_| refine st ?_| (first| refine b1 ?_ ?_| refine b2 ?_ ?_| refine Br.mk ?_ ?_) <;>intro hc| exact rfl) <;>conv=>whnf)
           exact⟨_,F,by simp,by omega,(by exact jP _ vY),rfl⟩
       · refine bT (L:=L.set kk ⟨x.id,x.line,x.left,22⟩) (by(repeat' (first| exact aw| assumption| refine(aX (by decide)).trans ?_| refine(aM (by decide)).trans ?_| refine(aA (by decide)).trans ?_))) (by(repeat' (first| exact aw| assumption| refine(aX (by decide)).trans ?_| refine(aM (by decide)).trans ?_| refine(aA (by decide)).trans ?_))) ?_ ?_
         · refine fun σ ho=>br.set kk (eu _ _ (fun k p hk=>by(repeat' (first| refine(aA (by decide)).trans ?_| rfl))) σ ho) ?_
           refine iT (z:=false) (ho.2 (16000464+16*(0+kk)) _ (by(repeat' (first| exact aw| assumption| refine(aX (by decide)).trans ?_| refine(aM (by decide)).trans ?_| refine(aA (by decide)).trans ?_)))) (by omega) _ _ _ rfl rfl
         · intro r w
           (conv=>whnf);repeat' ((first| intro g| refine aL.mk _ (bC (by simp)) ?_| refine st ?_| (first| refine b1 ?_ ?_| refine b2 ?_ ?_| refine Br.mk ?_ ?_) <;>intro hc| exact rfl) <;>conv=>whnf)
           exact⟨_,F,by simp,by omega,(by exact jP _ vY),rfl⟩
       · refine bT (L:=L.set kk ⟨x.id,x.line,x.left,28⟩) (by(repeat' (first| exact aw| assumption| refine(aX (by decide)).trans ?_| refine(aM (by decide)).trans ?_| refine(aA (by decide)).trans ?_))) (by(repeat' (first| exact aw| assumption| refine(aX (by decide)).trans ?_| refine(aM (by decide)).trans ?_| refine(aA (by decide)).trans ?_))) ?_ ?_
         · refine fun σ ho=>br.set kk (eu _ _ (fun k p hk=>by(repeat' (first| refine(aA (by decide)).trans ?_| rfl))) σ ho) ?_
           refine iT (z:=false) (ho.2 (16000464+16*(0+kk)) _ (by(repeat' (first| exact aw| assumption| refine(aX (by decide)).trans ?_| refine(aM (by decide)).trans ?_| refine(aA (by decide)).trans ?_)))) (by omega) _ _ _ rfl rfl
         · intro r w
           (conv=>whnf);repeat' ((first| intro g| refine aL.mk _ (bC (by simp)) ?_| refine st ?_| (first| refine b1 ?_ ?_| refine b2 ?_ ?_| refine Br.mk ?_ ?_) <;>intro hc| exact rfl) <;>conv=>whnf)
           exact⟨_,F,by simp,by omega,(by exact jP _ vY),rfl⟩
end Go.AM
set_option maxRecDepth 20000
namespace Go.AM
set_option maxHeartbeats 8000000 in
theorem C5 {L:List Edge} {F:List aI} (hL:L.length< 1000) (hF:F.length< 1000) (hl: ∀e ∈ L,e.line.length< 10) (q0 q1 q2:Int) (cc:Nat) (ec:Ev E 93 [vi q0,vi ((13:Nat):Int)] ⟨aD cc,[]⟩) (db:cc=3∨cc=4):
   ∃res,Ev E 94 [.lit 4 (L.map Edge.v),.lit 5 (F.map aI.v),kW q0 q1 q2] res∧ ∃ (L':List Edge) (F':List aI),L'.length≤L.length+1∧F'.length≤F.length+1∧(∀e ∈ L',e.line.length< 10)∧res=⟨.tuple [.own 4 (L'.map Edge.v),.own 5 (F'.map aI.v)],[]⟩:=by
 refine Ev.cO Bp (Bq _) rfl ?_
 (conv=>whnf);repeat' ((first| intro g| refine st ?_| (first| refine b1 ?_ ?_| refine b2 ?_ ?_| refine Br.mk ?_ ?_) <;>intro hc| exact rfl| refine jQ ?_) <;>conv=>whnf)
 rename_i ig _
 refine aV.by (fun ((i,l,g):Nat×List (Nat×Edge) ×Nat)=> ⟨[(0,.lit 4 (L.map Edge.v)),(1,.lit 5 (F.map aI.v)),(5,.ptr 96 ig 0 0),(8,.sl 145 g 0 i),(9,aD i)],(96,⟨ig,3,false,false,some [kW q0 q1 q2]⟩):: (145,⟨g,4,true,false,some (bk 0 l)⟩)::ep 0 l⟩)
   (fun (i,l,g)=>i≤L.length∧l.length=i∧l.map (·.2)=L.take i) (fun (i,_)=>L.length - i) (0,[],g) (by(refine⟨?_,?_⟩ <;>repeat' (first| exact True.intro| refine ai ?_| refine And.intro ?_ ?_))) ⟨by simp,by simp,by simp⟩ ?_
 rintro⟨i,l,g⟩ ⟨hi,gu,bl⟩
 try dsimp only at hi gu bl
 by_cases fB:i<L.length
 · obtain⟨e,he⟩: ∃e,L[i]? =some e:=⟨_,aE fB⟩
   have hle:=hl e (List.mem_of_getElem? he)
   have C4: (bk 0 l).length=i:=by rw[dG];exact gu
   (conv=>whnf);repeat' ((first| (refine Or.inl (dI.mk ⟨rfl,C4,by simp;omega⟩ ?_)) | intro g| refine aL.mk _ (aq he rfl) ?_| refine st ?_| (first| refine b1 ?_ ?_| refine b2 ?_ ?_| refine Br.mk ?_ ?_) <;>intro hc| exact rfl| refine er (by(repeat' (first| exact aw| assumption| refine(aX (by decide)).trans ?_| refine(aM (by decide)).trans ?_| refine(aA (by decide)).trans ?_))) ?_) <;>conv=>whnf)
   rename_i gi _
   have rZ:bk 0 (l++[(gi,e)])=bk 0 l++[V.agg [vi e.id,.sl (16000464+16*(i:Int).toNat) gi 0 (0+(e.line.map Pt.v).length),vi e.left,vi e.right]]:=by
     rw[il];simp[wc,gu]
   refine a9.mk (i+1,l++[(gi,e)],g) (by first| omega| (dsimp only;omega)) ⟨by omega,by simp[gu],by rw[List.map_append,bl,eo he];rfl⟩ ⟨by(repeat' (first| exact True.intro| refine ai ?_| refine And.intro ?_ ?_)),?_⟩
   refine b9 ?_ (b9 ?_ (fq fun k p hk=> ?_))
   · show lk _ 96=some (⟨ig,3,false,false,some [kW q0 q1 q2]⟩:Obj)
     repeat' (first| exact aw| refine(aX (by decide)).trans ?_| refine(aM (by decide)).trans ?_)
   · show lk _ 145=some (⟨g,4,true,false,some (bk 0 (l++[(gi,e)]))⟩:Obj)
     rw[rZ];exact aw
   · by_cases Ri:k<i
     · rw[List.getElem?_append_left (by omega)] at hk
       repeat' (first| exact cC hk| refine(aA (by decide)).trans ?_| refine(mD (by omega)).trans ?_)
     · obtain rfl:k=i:=by
         have:=(List.getElem?_eq_some_iff.1 hk).1
         simp at this;omega
       obtain rfl:p=(gi,e):=by
         rw[List.getElem?_append_right (by omega)] at hk
         simpa [gu] using hk.symm
       rw[show 16000464+16*(0+k)=16000464+16*((k:Int)).toNat from by simp]
       repeat' (first| exact aw| refine(aA (by decide)).trans ?_)
 · obtain rfl:i=L.length:=by omega
   rw[List.take_of_length_le (by omega)] at bl
   have eu: ∀ (M:List (Nat×Obj)) (T:List (Nat×V)),(∀k p,l[k]? =some p→lk M (16000464+16*(0+k))=lk (ep 0 l) (16000464+16*(0+k)))→ ∀σ,SS.On ⟨T,M⟩ σ→br σ.O (bk 0 l) L:=
     fun M T h=>gI bl fun k p hk=> ⟨false,by rw[h k p hk];exact cC hk⟩
   by_cases hn:L.length=0
   · (conv=>whnf);repeat' ((first| intro g| refine st ?_| (first| refine b1 ?_ ?_| refine b2 ?_ ?_| refine Br.mk ?_ ?_) <;>intro hc| exact rfl) <;>conv=>whnf)
     refine bT (L:=L) (by(repeat' (first| exact aw| assumption| refine(aX (by decide)).trans ?_| refine(aM (by decide)).trans ?_| refine(aA (by decide)).trans ?_))) (by(repeat' (first| exact aw| assumption| refine(aX (by decide)).trans ?_| refine(aM (by decide)).trans ?_| refine(aA (by decide)).trans ?_))) (eu _ _ fun k p hk=>by(repeat' (first| refine(aA (by decide)).trans ?_| rfl))) ?_
     intro r w
     (conv=>whnf);repeat' ((first| intro g| refine aL.mk _ (bC (by simp)) ?_| refine st ?_| (first| refine b1 ?_ ?_| refine b2 ?_ ?_| refine Br.mk ?_ ?_) <;>intro hc| exact rfl) <;>conv=>whnf)
     exact⟨L,F,by omega,by omega,fun e he=>hl e he,rfl⟩
   · obtain⟨nn,uI,en⟩:=bp q1 40 (by decide) (by decide)
     obtain⟨kk,uJ,ek⟩:=bp q2 L.length (by omega) (by omega)
     obtain⟨⟨gk,x⟩,hx⟩: ∃p,l[kk]? =some p:=⟨_,aE (by omega)⟩
     have FM:L[kk]? =some x:=by rw[←bl,List.getElem?_map,hx];rfl
     have vY:=hl x (List.mem_of_getElem? FM)
     have cJ: (bk 0 l)[((kk:Nat):Int).toNat]? =some (.agg [vi x.id,.sl (16000464+16*(0+kk)) gk 0 x.line.length,vi x.left,vi x.right]):=ga hx
     have cP:lk (ep 0 l) (16000464+16*(0+kk))=some ⟨gk,2,true,false,some (x.line.map Pt.v)⟩:=cC hx
     have jP: ∀y:Edge,y.line.length< 10→ ∀e ∈ L.set kk y,e.line.length< 10:=fun y hy e he=>by
       rcases List.mem_or_eq_of_mem_set he with h| rfl
       · exact hl e h
       · exact hy
     have Ko: (bk 0 l).length=L.length:=by rw[dG];exact gu
     rcases db with rfl| rfl
     · (conv=>whnf);repeat' ((first| intro g| refine aL.mk _ (cJ) ?_| refine aL.mk _ (lV cJ) ?_| refine ag.mk _ (en) ?_| refine ag.mk _ (ek) ?_| refine ag.mk _ (ec) ?_| refine st ?_| (first| refine b1 ?_ ?_| refine b2 ?_ ?_| refine Br.mk ?_ ?_) <;>intro hc| exact rfl| refine er (by(repeat' (first| exact aw| assumption| refine(aX (by decide)).trans ?_| refine(aM (by decide)).trans ?_| refine(aA (by decide)).trans ?_))) ?_) <;>conv=>whnf)
       refine bT (L:=(L.set kk ⟨x.id,x.line,x.right,x.right⟩).set kk ⟨x.id,x.line,x.right,x.left⟩) (by(repeat' (first| exact aw| assumption| refine(aX (by decide)).trans ?_| refine(aM (by decide)).trans ?_| refine(aA (by decide)).trans ?_))) (by(repeat' (first| exact aw| assumption| refine(aX (by decide)).trans ?_| refine(aM (by decide)).trans ?_| refine(aA (by decide)).trans ?_))) ?_ ?_
       · refine fun σ ho=>br.set kk (br.set kk (eu _ _ (fun k p hk=>by(repeat' (first| refine(aA (by decide)).trans ?_| rfl))) σ ho) ?_) ?_
         · refine iT (z:=false) (ho.2 (16000464+16*(0+kk)) _ (by(repeat' (first| exact aw| assumption| refine(aX (by decide)).trans ?_| refine(aM (by decide)).trans ?_| refine(aA (by decide)).trans ?_)))) (by omega) _ _ _ rfl rfl
         · refine iT (z:=false) (ho.2 (16000464+16*(0+kk)) _ (by(repeat' (first| exact aw| assumption| refine(aX (by decide)).trans ?_| refine(aM (by decide)).trans ?_| refine(aA (by decide)).trans ?_)))) (by omega) _ _ _ rfl rfl
       · intro r w
         (conv=>whnf);repeat' ((first| intro g| refine aL.mk _ (bC (by simp)) ?_| refine st ?_| (first| refine b1 ?_ ?_| refine b2 ?_ ?_| refine Br.mk ?_ ?_) <;>intro hc| exact rfl) <;>conv=>whnf)
         exact⟨_,F,by simp,by omega,(by rw[List.set_set];exact jP _ vY),rfl⟩
     · rcases Nat.eq_zero_or_pos x.line.length with h0| hxp
       · (conv=>whnf);repeat' ((first| intro g| refine aL.mk _ (cJ) ?_| refine ag.mk _ (en) ?_| refine ag.mk _ (ek) ?_| refine ag.mk _ (ec) ?_| refine st ?_| (first| refine b1 ?_ ?_| refine b2 ?_ ?_| refine Br.mk ?_ ?_) <;>intro hc| exact rfl| refine er (by(repeat' (first| exact aw| assumption| refine(aX (by decide)).trans ?_| refine(aM (by decide)).trans ?_| refine(aA (by decide)).trans ?_))) ?_) <;>conv=>whnf)
         refine bT (L:=L) (by(repeat' (first| exact aw| assumption| refine(aX (by decide)).trans ?_| refine(aM (by decide)).trans ?_| refine(aA (by decide)).trans ?_))) (by(repeat' (first| exact aw| assumption| refine(aX (by decide)).trans ?_| refine(aM (by decide)).trans ?_| refine(aA (by decide)).trans ?_))) (eu _ _ fun k p hk=>by(repeat' (first| refine(aA (by decide)).trans ?_| rfl))) ?_
         intro r w
         (conv=>whnf);repeat' ((first| intro g| refine aL.mk _ (bC (by simp)) ?_| refine st ?_| (first| refine b1 ?_ ?_| refine b2 ?_ ?_| refine Br.mk ?_ ?_) <;>intro hc| exact rfl) <;>conv=>whnf)
         exact⟨L,F,by omega,by omega,fun e he=>hl e he,rfl⟩
       obtain⟨jj,dy,bM⟩:=bN nn x.line.length hxp
       obtain⟨p,hp⟩: ∃p,x.line[jj]? =some p:=⟨_,aE bM⟩
       have Xi: (x.line.map Pt.v)[((nn:Int).tmod (x.line.length:Int)).toNat]? =some (Pt.v p):=aq hp dy
       have Ja: ((nn:Int).tmod (x.line.length:Int)).toNat=jj:=by rw[dy];rfl
       (conv=>whnf);repeat' ((first| intro g| refine aL.mk _ (cJ) ?_| refine aL.mk _ (Xi) ?_| refine ag.mk _ (en) ?_| refine ag.mk _ (ek) ?_| refine ag.mk _ (ec) ?_| refine st ?_| (first| refine b1 ?_ ?_| refine b2 ?_ ?_| refine Br.mk ?_ ?_) <;>intro hc| exact rfl| refine er (by(repeat' (first| exact aw| assumption| refine(aX (by decide)).trans ?_| refine(aM (by decide)).trans ?_| refine(aA (by decide)).trans ?_))) ?_) <;>conv=>whnf)
       refine bT (L:=L.set kk ⟨x.id,x.line.set jj ⟨IntKind.i64.wrap (IntKind.i64.wrap (p.x+IntKind.i64.wrap (3*(nn:Int))) - 50),p.y⟩,x.left,x.right⟩) (by(repeat' (first| exact aw| assumption| refine(aX (by decide)).trans ?_| refine(aM (by decide)).trans ?_| refine(aA (by decide)).trans ?_))) (by(repeat' (first| exact aw| assumption| refine(aX (by decide)).trans ?_| refine(aM (by decide)).trans ?_| refine(aA (by decide)).trans ?_))) ?_ ?_
       · refine zx (gk:=gk) (x:=x) (z:=false) bl hx rfl (by simp) rfl rfl ?_ fun k q c7 hk=>fH (by refine(mD (by omega)).trans ?_; (repeat' (first| refine(aA (by decide)).trans ?_| rfl))) hk
         rw[Ja]
         simp only[List.map_set]
         exact aw
       · intro r w
         (conv=>whnf);repeat' ((first| intro g| refine aL.mk _ (bC (by simp)) ?_| refine st ?_| (first| refine b1 ?_ ?_| refine b2 ?_ ?_| refine Br.mk ?_ ?_) <;>intro hc| exact rfl) <;>conv=>whnf)
         exact⟨_,F,by simp,by omega,(by exact jP _ (by simp;exact vY)),rfl⟩
end Go.AM
