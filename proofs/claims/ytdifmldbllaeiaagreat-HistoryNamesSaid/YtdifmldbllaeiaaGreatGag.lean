/- Texts of the proof. -/
import Derived.Test.YtdifmldbllaeiaaGreatGaf
import Derived.KernelRfl
set_option maxRecDepth 20000
set_option maxHeartbeats 4000000
set_option linter.unusedSimpArgs false
set_option linter.unusedVariables false
namespace Go.AM
theorem all_keys {m:aB} (hs:rM m) {d:Int} {Q:aW->SS->Prop} {S:SS} {g2 g5 g6 gi:Nat}
  (c: (⟨[(1,vi d),(2,.ptr 48 g2 0 0),(5,.ptr 96 g5 0 0),(6,.sl 113 g6 0 0),(18,.it 304 gi)],[(48,⟨g2,4,false,false,some [m.v]⟩),(96,⟨g5,1,false,false,some [rP m]⟩),(113,⟨g6,1,true,false,some []⟩),(304,⟨gi,0,false,false,none⟩)]⟩:SS).Sub ⟨S.T,(304,⟨gi,0,false,false,none⟩)::S.O⟩)
  (h:lk S.T 18=some (.it 304 gi))
  (j:lk S.O 304=some ⟨gi,0,false,false,some [rP m]⟩)
  (n: ∀g,Q .normal ⟨[(1,vi d),(2,.ptr 48 g2 0 0),(5,.ptr 96 g5 0 0),(6,.sl 113 g 0 (cK m).length)],[(48,⟨g2,4,false,false,some [m.v]⟩),(96,⟨g5,1,false,false,some [rP m]⟩),(113,⟨g,1,true,false,some ((cK m).map vi)⟩)]⟩):
  Hl E 18 19 21 0 [1,2,5,6] [48,96,113] VF VG VH S Q:=by
 refine Hl.by (r:=304) (g:=gi) (es:=bO false m.ak m.ak.length) (fun L=> ⟨[(1,vi d),(2,.ptr 48 g2 0 0),(5,.ptr 96 g5 0 0),(6,.sl 113 (g6+L.length) 0 (L.map ng).length),(18,.it 304 gi)],[(48,⟨g2,4,false,false,some [m.v]⟩),(96,⟨g5,1,false,false,some [rP m]⟩),(113,⟨g6+L.length,1,true,false,some ((L.map ng).map vi)⟩),(304,⟨gi,0,false,false,none⟩)]⟩)
  ⟨[(1,vi d),(2,.ptr 48 g2 0 0),(5,.ptr 96 g5 0 0),(6,.sl 113 (g6+(cK m).length) 0 (cK m).length)],[(48,⟨g2,4,false,false,some [m.v]⟩),(96,⟨g5,1,false,false,some [rP m]⟩),(113,⟨g6+(cK m).length,1,true,false,some ((cK m).map vi)⟩)]⟩ ?_ j ?_ (fun _=>rfl) (fun _=> ⟨_,rfl,rfl⟩) ?_ ?_ ?_ rfl rfl rfl rfl ?_
 .exact h
 .exact c
 .intro e he;obtain⟨i,f,_,rfl⟩:=pE _ _ _ e he;exact⟨_,_,rfl⟩
 .intro L k v rest a;obtain⟨i,f,hf,he⟩:=pE false m.ak m.ak.length (.tuple [k,v]) (a.mem_iff.1 ajl);injection he with he;obtain⟨rfl,rfl⟩:k=vi f.id/\v=FC false i f:=by simpa using he
  have hlen: (L.map ng).length<m.ak.length:=by have h1:=a.length_eq;have h2:=tf m.ak m.ak.length;simp[wP] at h1 h2 ⊢;omega
  have hm:=hs.2;have o:L.length<=m.ak.length:=by rw[List.length_map] at hlen;omega
  have p:L.length< 1000000:=ajk;conv=>whnf
  repeat' (first| intro g| refine st ?_| refine br ?_ ?_<;>intro hc| rfl) <;>conv=>whnf
  refine⟨⟨rfl,_,rfl,rfl⟩,?_⟩;conv=>whnf
  repeat' (first| refine Or.inr ?_| intro g| refine st ?_| refine br ?_ ?_<;>intro hc| rfl) <;>conv=>whnf
  have q:aN ((L.map ng).map vi) 0 (L.map ng).length=(L.map ng).map vi:=fC ajl;have s: ∀e:V,g6+(L++[e]).length=g6+L.length+1:=fun e=>by rw[List.length_append];rfl
  simp only[s,q]
  (refine⟨?_,?_⟩ <;>repeat' (first| exact True.intro| refine And.intro ((by(conv=>whnf);simp[ng];done)) ?_| refine ai ?_| refine And.intro ?_ ?_))
 .intro L a;have hlen: (L.map ng).length<=m.ak.length:=by have h1:=a.length_eq;have h2:=tf m.ak m.ak.length;simp[wP] at h1 h2 ⊢;omega
  have hm:=hs.2;have P6:=An (l:=L.map ng) ajk;have Am: (cK m)=eG (L.map ng):=(Dc (a.map ng)).symm;have FQ: (cK m).length=L.length:=by rw[Am,dW,List.length_map]
  rw[Am,dW,List.length_map];have b:Ev E 132 [.msl 1 ((L.map ng).map vi) 0 L.length] ⟨.tuple [],[(0,(eG (L.map ng)).map vi)]⟩:=by rw[List.length_map] at P6;exact P6
  conv=>whnf
  repeat' (first| intro g| apply ca b| refine st ?_| refine br ?_ ?_<;>intro hc| rfl) <;>conv=>whnf
  refine⟨?_,?_⟩
  ·(repeat' (first| exact True.intro| refine And.intro ((by(conv=>whnf);simp)) ?_| refine ai ?_| refine And.intro ?_ ?_))
  (repeat' (first| exact True.intro| refine ai ?_| refine And.intro ?_ ?_))
 exact n _
def FR (b d:V) (es:List V) (ids:List Int) (evs:List an) (g2 g5 a ge k:Nat) (c e f:Bool):SS:=
 ⟨[(1,d),(2,.ptr 48 g2 0 0),(5,.ptr 96 g5 0 0),(6,.sl 113 a 0 ids.length),(8,.sl 145 ge 0 evs.length),(29,.sl 113 a 0 ids.length),(30,au ids.length),(31,au k)],
  [(48,⟨g2,4,false,c,some [b]⟩),(96,⟨g5,1,false,e,some [.mlit es]⟩),(113,⟨a,1,true,f,some (ids.map vi)⟩),(145,⟨ge,5,true,false,some (evs.map an.v)⟩)]⟩
theorem RV {e:V} {d id:Int} {es:List V} {ids:List Int} {evs:List an} {g2 g5 f ge k:Nat} {a b c:Bool} {Q:aW->SS->Prop} (hx: (ids.map vi)[k]? =some (vi id)) (i:k<ids.length) (hb:ids.length< 1000000) (hd:d< 1)
  (h: ∀T' O' a b c,(FR e (vi d) es ids evs g2 g5 f ge (k+1) a b c).Sub ⟨T',O'⟩->Q .normal ⟨T',O'⟩):mf E Ah (FR e (vi d) es ids evs g2 g5 f ge k a b c) Q:=by
 conv=>whnf
 repeat' (first| intro g| refine wi hx ?_| refine st ?_| refine br ?_ ?_<;>intro hc| rfl) <;>conv=>whnf
 exact h _ _ _ _ _ su
theorem RW {e:V} {d id:Int} {es:List V} {ids:List Int} {evs:List an} {f:aP} {g2 g5 h ge k:Nat} {a b c:Bool} {Q:aW->SS->Prop} (hx: (ids.map vi)[k]? =some (vi id)) (l:k<ids.length) (hb:ids.length< 1000000) (hd: ¬d< 1) (i:cZ false .nilp es (vi id)= .done (.eptr f.v 0)) (hf: ¬f.aC=d)
  (j: ∀T' O' a b c,(FR e (vi d) es ids evs g2 g5 h ge (k+1) a b c).Sub ⟨T',O'⟩->Q .normal ⟨T',O'⟩):mf E Ah (FR e (vi d) es ids evs g2 g5 h ge k a b c) Q:=by
 conv=>whnf
 repeat' (first| intro g| refine wi hx ?_| refine wi i ?_| refine st ?_| refine br ?_ ?_<;>intro hc| rfl) <;>conv=>whnf
 exact j _ _ _ _ _ su
theorem Eb {l:List Int} (h:l.length< 1000000):alH 149 [.lit 1 (l.map vi)] (.own 1 (l.map vi)):=
 Ev.ext (by rw[adi];simp[dX];omega)
theorem V5 {a:V} {d id OB:Int} {es rest:List V} {ids K:List Int} {evs:List an} {f:aP} {g2 g5 h ge k:Nat} {b c e:Bool} {Q:aW->SS->Prop} (hx: (ids.map vi)[k]? =some (vi id)) (o:k<ids.length) (hb:ids.length< 1000000) (hd: ¬d< 1) (j:cZ false .nilp es (vi id)= .done (.eptr f.v 0)) (hf:f.aC=d)
  (FP:V.az a=true) (bC:V.al es=true) (p:V.al rest=true) (l:K.length<=ids.length)
  (m:alH 149 [.lit 1 (ids.map vi)] (.own 1 (ids.map vi)))
  (FB:Ev E 505 [.msl 1 (ids.map vi) 0 (ids.map vi).length,.fn 506 [.eptr a 0,.eptr (.mlit es) 0,.eptr (vi id) 0]] ⟨.sl 0 0 0 K.length,[(0,K.map vi++rest)]⟩)
  (i:alH 508 [.lit 1 (K.map vi),.fn 507 [.eptr a 0,.eptr (vi id) 0]] (.tuple [vi OB,.bool false]))
  (n: ∀T' O' b c e,(FR a (vi d) es ids evs g2 g5 h ge (k+1) b c e).Sub ⟨T',O'⟩->Q .normal ⟨T',O'⟩):mf E Ah (FR a (vi d) es ids evs g2 g5 h ge k b c e) Q:=by
 have hw:aN (K.map vi++rest) 0 K.length=K.map vi:=sW ajl;rw[<-hw] at i;have hn:True/\True/\0+K.length<=(K.map vi++rest).length/\V.al (aN (K.map vi++rest) 0 K.length)=true:=⟨trivial,trivial,ajl,by rw[hw];exact dO _⟩;conv=>whnf
 repeat' (first| intro g| refine nd hn ?_| refine wi hx ?_| refine wi j ?_| apply ca m| apply ca FB| apply ca i| refine st ?_| refine br ?_ ?_<;>intro hc| rfl| (simp only[List.append,ec,gU,V.az,V.al,FP,bC,cond_true])) <;>conv=>whnf
 exact n _ _ _ _ _ su
def evI (w id OB:Int):an:=⟨2,if 1 <kb (4*w) then kb (4*w) else 1,id,OB,0⟩
theorem V6 {a:V} {d id OB:Int} {es rest:List V} {ids K:List Int} {evs:List an} {f:aP} {g2 g5 h ge k:Nat} {b c e:Bool} {Q:aW->SS->Prop} (hx: (ids.map vi)[k]? =some (vi id)) (o:k<ids.length) (hb:ids.length< 1000000) (hd: ¬d< 1) (j:cZ false .nilp es (vi id)= .done (.eptr f.v 0)) (hf:f.aC=d)
  (FP:V.az a=true) (bC:V.al es=true) (p:V.al rest=true) (l:K.length<=ids.length) (V7:evs.length<=k)
  (m:alH 149 [.lit 1 (ids.map vi)] (.own 1 (ids.map vi)))
  (FB:Ev E 505 [.msl 1 (ids.map vi) 0 (ids.map vi).length,.fn 506 [.eptr a 0,.eptr (.mlit es) 0,.eptr (vi id) 0]] ⟨.sl 0 0 0 K.length,[(0,K.map vi++rest)]⟩)
  (i:alH 508 [.lit 1 (K.map vi),.fn 507 [.eptr a 0,.eptr (vi id) 0]] (.tuple [vi OB,.bool true]))
  (n: ∀T' O' b c e ge,(FR a (vi d) es ids (evs++[evI f.weight id OB]) g2 g5 h ge (k+1) b c e).Sub ⟨T',O'⟩->Q .normal ⟨T',O'⟩):mf E Ah (FR a (vi d) es ids evs g2 g5 h ge k b c e) Q:=by
 have hw:aN (K.map vi++rest) 0 K.length=K.map vi:=sW ajl;rw[<-hw] at i;have hn:True/\True/\0+K.length<=(K.map vi++rest).length/\V.al (aN (K.map vi++rest) 0 K.length)=true:=⟨trivial,trivial,ajl,by rw[hw];exact dO _⟩;have uU:evs.length< 1000000:=ajk;conv=>whnf
 repeat' (first| intro g| refine nd hn ?_| refine wi hx ?_| refine wi j ?_| apply ca m| apply ca FB| apply ca i| refine st ?_| refine br ?_ ?_<;>intro hc| rfl| (simp only[List.append,ec,gU,V.az,V.al,FP,bC,cond_true])) <;>conv=>whnf
 exact n _ _ _ _ _ _ su
def U6 (m:aB) (id:Int):List Int:=lO (cK m) fun o=>decide (qR m id o≠0)
noncomputable def RX (m:aB) (d id:Int):Option an:=
 if d< 1 then none else match aY m.ak id with
  | none=>none
  | some i=>match m.ak[i]? with
    | none=>none
    | some f=>if f.aC=d then(if 0 < (U6 m id).length then some (evI f.weight id (MG (brd m.aA id) (U6 m id))) else none) else none
noncomputable def KL (m:aB) (d:Int) (k:Nat):List an:=((cK m).take k).filterMap (RX m d)
noncomputable def Zr (m:aB) (d:Int):List an:=KL m d (cK m).length
theorem OC {m:aB} {d:Int} {k:Nat} {id:Int} (h: (cK m)[k]? =some id):KL m d (k+1)=KL m d k++(RX m d id).toList:=by unfold KL;rw[aj6,h,Option.toList_some,akZ];cases hh:RX m d id<;>simp[hh]
theorem BK (m:aB) (d:Int) (k:Nat): (KL m d k).length<=k:=by unfold KL;exact ajQ (alG ..) (by simp;omega)
theorem OD {m:aB} {d id:Int} (h:d< 1):RX m d id=none:=by unfold RX;rw[if_pos h]
theorem OE {m:aB} {d id:Int} (h: ¬d< 1) {i:Nat} {f:aP} (hi:aY m.ak id=some i) (hf:m.ak[i]? =some f) (hd: ¬f.aC=d):RX m d id=none:=by unfold RX;rw[if_neg h];simp only[hi,hf,if_neg hd]
theorem RY {m:aB} {d id:Int} (h: ¬d< 1) {i:Nat} {f:aP} (hi:aY m.ak id=some i) (hf:m.ak[i]? =some f) (hd:f.aC=d) (hn: ¬0 < (U6 m id).length):RX m d id=none:=by unfold RX;rw[if_neg h];simp only[hi,hf,if_pos hd,if_neg hn]
theorem RZ {m:aB} {d id:Int} (h: ¬d< 1) {i:Nat} {f:aP} (hi:aY m.ak id=some i) (hf:m.ak[i]? =some f) (hd:f.aC=d) (hn:0 < (U6 m id).length):RX m d id=some (evI f.weight id (MG (brd m.aA id) (U6 m id))):=by unfold RX;rw[if_neg h];simp only[hi,hf,if_pos hd,if_pos hn]
theorem FT {m:aB} {k:Nat} {id:Int} (h: (cK m)[k]? =some id): ∃ (i:Nat) (f:aP),aY m.ak id=some i/\m.ak[i]? =some f:=by
 obtain⟨j,g,_,b,hg⟩:=(H4 m id).1 (List.mem_of_getElem? h);cases a:aY m.ak id with
 | none=>exact absurd hg (Bv a j g b)
 | some i=>
   obtain⟨f,hf,_⟩:=cI a;exact⟨i,f,rfl,hf⟩
def ahD (m:aB):Prop:=Zm m.aA/\m.ak.length< 1000000
theorem V8 {m:aB} (jg:ahD m) (d:Int):alH 492 [m.v,vi d] (.own 5 ((Zr m d).map an.v)):=by
 have hs:rM m:=⟨jg.1.1,jg.2⟩;have o:=wK false hs.2;have hm:bu E 500=[]:=rfl;have h0:V.az m.v=true:=aB.wM false m;have hp:V.al [m.v]=true:=by simp only[V.al,h0];rfl
 refine amM ?_;conv=>whnf
 repeat' (first| refine gY hm hp o (mq ..) ?_| intro g| refine st ?_| refine br ?_ ?_<;>intro hc| rfl) <;>conv=>whnf
 rename_i g2 g4 g5 g6;refine all_keys hs (d:=d) (g2:=g2) (g5:=g5) (g6:=g6) (gi:=g) ?_ rfl rfl fun s=> ?_
 .exact su
 clear o hm hp;have GZ:=zi m;have FQ:=hs.2;conv=>whnf
 repeat' (first| intro g| refine st ?_| refine br ?_ ?_<;>intro hc| rfl) <;>conv=>whnf
 refine aO.by (fun ((k,ge,a,b,c):Nat×Nat×Bool×Bool×Bool)=>FR m.v (vi d) (bO false m.ak m.ak.length) (cK m) (KL m d k) g2 g5 s ge k a b c) (fun (k,_)=>k<=(cK m).length) (fun (k,_)=> (cK m).length - k) (0,g,false,false,false) ?_ ajl ?_
 .exact su
 rintro⟨k,ge,a,b,c⟩ o
 try dsimp only at o
 by_cases j:k< (cK m).length
 .obtain⟨id,q⟩: ∃id,(cK m)[k]? =some id:=⟨_,aM j⟩;have V9: ((cK m).map vi)[k]? =some (vi id):=by simp[q]
  have Zs: (cK m).length< 1000000:=ajk;have e:=OC (d:=d) q;obtain⟨i,f,hi,hf⟩:=FT q;have r:=bR (k:=false) hi hf;have uU:=BK m d k;by_cases hd:d< 1
  .rw[OD hd] at e;refine RV V9 j Zs hd fun T' O' a b c h=>aR.mk (k+1,ge,a,b,c) om ajk ?_;simp only[e,Option.toList_none,akY];exact h
  by_cases U7:f.aC=d
  .obtain⟨rest,hr,FB⟩:=Zl Zs (Zq hs id);have X5:Ev E 505 [.msl 1 ((cK m).map vi) 0 ((cK m).map vi).length,.fn 506 [.eptr m.v 0,.eptr (rP m) 0,.eptr (vi id) 0]] ⟨.sl 0 0 0 (U6 m id).length,[(0,(U6 m id).map vi++rest)]⟩:=by rw[List.length_map];exact FB
   have n: (U6 m id).length<=(cK m).length:=OA ..;have p:=KJ (l:=U6 m id) ajk (Zp jg.1 id);by_cases hn:0 < (U6 m id).length
   .rw[RZ hd hi hf U7 hn] at e;simp only[hn,decide_true] at p;refine V6 V9 j Zs hd r U7 h0 (jA ..) hr n uU (Eb Zs) X5 p fun T' O' a b c ge h=>aR.mk (k+1,ge,a,b,c) om ajk ?_;simp only[e,Option.toList_some];exact h
   rw[RY hd hi hf U7 hn] at e;simp only[hn,decide_false] at p;refine V5 V9 j Zs hd r U7 h0 (jA ..) hr n (Eb Zs) X5 p fun T' O' a b c h=>aR.mk (k+1,ge,a,b,c) om ajk ?_;simp only[e,Option.toList_none,akY];exact h
  rw[OE hd hi hf U7] at e;refine RW V9 j Zs hd r U7 fun T' O' a b c h=>aR.mk (k+1,ge,a,b,c) om ajk ?_;simp only[e,Option.toList_none,akY];exact h
 obtain rfl:k=(cK m).length:=ajk;have uU:=BK m d (cK m).length;conv=>whnf
 repeat' (first| intro g| refine st ?_| refine br ?_ ?_<;>intro hc| rfl) <;>conv=>whnf
 trace_state
theorem aB.Bd.fit {m:aB} (h:m.Bd):m.Fit:=by have h1:=h.e;have h2:=h.f;have h3:=h.w;have h4:=h.p;exact⟨ajk,ajk,ajk,ajk,fun e he=>by have:=h.el e he;omega,fun w hw=>by have:=(h.wl w hw).2;omega⟩
theorem aB.Bd.ady {m:aB} (h:m.Bd):ads m:=by have h1:=h.e;have h2:=h.f;have h3:=h.w;have h4:=h.p;exact⟨ajk,ajk,ajk,ajk,fun e he=>by have:=h.el e he;omega,fun w hw=>by have:=(h.wl w hw).2;omega⟩
theorem aB.Bd.small {m:aB} (h:m.Bd):rM m:=⟨by have:=h.e;omega,by have:=h.f;omega⟩
theorem dbd {m:aB} (h:m.Bd) (q:Dr.s9 m): (aB.mk q.es m.ak m.aF m.ar).Bd:=by
 refine⟨by show (m.aA.set _ _).length<=18;rw[List.length_set];exact h.e,fun e he=> ?_,h.f,h.w,h.wl,h.p⟩;rcases ajT he with he| rfl
 .exact h.el e he
 have:=h.el _ (List.mem_of_getElem? q.he);show q.rest.length< 10;unfold Dr.s9.rest;rw[aku];split<;>omega
theorem R1 {fs:List aP} {a b:Int} {i j:Nat} (C8:a≠b) (hi:aY fs a=some i) (c:aY fs b=some j):i≠j:=fun h=>by obtain⟨f,h1,h2,_⟩:=cI hi;obtain⟨g,h3,h4,_⟩:=cI c;subst h;rw[h1] at h3;injection h3 with h3;subst h3;exact C8 (h2.symm.trans h4)
theorem X6 (sz:Nat) (l:List V):oL sz l= .lit sz l\/oL sz l= .own sz l:=by cases l<;>simp[oL]
theorem R2 (m:aB) (es:List aH) (fs:List aP):P7 (KG m es fs) (.tuple [(aB.mk es fs m.aF m.ar).v,vi 0]):=by
 refine Zb (m:=⟨es,fs,m.aF,m.ar⟩) ?_ (.inl rfl) ?_ (.inl rfl)
 .exact(X6 4 _).symm
 exact(X6 8 _).symm
theorem qo {es:List aH} {a b:Int} {e:aH}: ∀ {n:Nat},e ∈ ek es a b n-> ∃e' ∈ es,e.line=e'.line
 | 0,h=>by simp[ek] at h
 | n+1,h=>by
   cases hx:es[n]? with
   | none=>rw[ek,hx] at h;exact qo h
   | some x=>
     rw[ek,hx] at h;simp only at h;split at h
     .exact qo h
     rcases ajD.1 h with h| h
     .exact qo h
     have:e=gr a b x:=by simpa using h
     exact⟨x,List.mem_of_getElem? hx,by rw[this];rfl⟩
theorem alR {f:Int->Int} {l:List Int}: ∀k,0 <k->k<=l.length->rO f l k ∈ l
 | 0,h,_=>ajk
 | k+1,_,h=>by
   have hx:l[k]? =some l[k]:=aM h;rw[KI hx];split
   .exact aky ..
   rename_i hn;exact alR k ajk ajk
theorem amp {m:aB} (h:rM m) {d id:Int} {e:an} (he:RX m d id=some e):U8 m e:=by
 unfold RX at he;split at he
 .simp at he
 split at he
 .simp at he
 rename_i i hi;split at he
 .simp at he
 rename_i f hf;split at he
 .split at he
  .rename_i hn;injection he with he;subst he;have hb:MG (brd m.aA id) (U6 m id) ∈ U6 m id:=alR _ hn (ajw _);have b:qR m id (MG (brd m.aA id) (U6 m id))=0:=by simpa [U6,lO] using (akr.1 hb).2
   have h1:=FO h id (MG (brd m.aA id) (U6 m id));have h2:=BJ h id (MG (brd m.aA id) (U6 m id));rw[b] at h1;have a:wO m id=kb (4*f.weight):=by simp only[wO,hi,hf]
   rw[a] at h2;exact .De h1 h2 (mx1 _).1 (mx1 _).2
  simp at he
 simp at he
theorem ama {m:aB} (hp:m.ar.length< 1000000) {d:Int} {j:Nat} {e:an} (he:Fy m.ar d j=some e):U8 m e:=by
 unfold Fy at he;split at he
 case h_2=>simp at he
 rename_i p b;split at he
 case isFalse=>simp at he
 split at he
 case h_2=>simp at he
 rename_i o a;injection he with he;subst he;obtain⟨i,_,_,_,h4⟩:=alY a;have h1:=qi hp p.id o.id;rw[h4] at h1;exact .oV h1 (mj hp p.id o.id) (mx1 _).1 (mx1 _).2
theorem Zu {L:List an} {ia ib:Int} {p q:Nat} (ha:ia=(p:Int)) (hb:ib=(q:Int)) (x y:an): (⟨0,5,true,false,some (((L.map an.v).set ia.toNat y.v).set ib.toNat x.v)⟩:Obj)=⟨0,5,true,false,some (((L.set p y).set q x).map an.v)⟩:=by subst ha;subst hb;rw[akl,akl];rfl
theorem Zv {L:List an} {ia ib:Int} {p q:Nat} (ha:ia=(p:Int)) (hb:ib=(q:Int)) (y:an) (a:q<L.length): ∃z:an,((L.map an.v).set ia.toNat y.v)[ib.toNat]? =some z.v:=by
 subst ha;subst hb;refine⟨(L.set p y)[q]'(by simpa using a),?_⟩;have: (L.map an.v).set ((p:Nat):Int).toNat y.v=(L.set p y).map an.v:=by rw[akl];rfl
 rw[this,ajZ,ajF,aju (by simpa using a)];rfl
def alM (L l:List an):Prop:=L.length=l.length/\ ∀x ∈ L,x ∈ l
theorem alM.rfl {l:List an}:alM l l:=⟨Eq.refl _,fun _ h=>h⟩
theorem alM.trans {a b c:List an} (h:alM a b) (k:alM b c):alM a c:=⟨h.1.trans k.1,fun x hx=>k.2 x (h.2 x hx)⟩
theorem alM.Zu {L l:List an} (h:alM L l) {a b p q:Nat} {x y:an} (hx:L[a]? =some x) (hy:L[b]? =some y):alM ((L.set p y).set q x) l:=⟨by simp[h.1],fun z c=>by
 rcases ajT c with c| rfl
 .rcases ajT c with c| rfl
  .exact h.2 z c
  exact h.2 _ (List.mem_of_getElem? hy)
 .exact h.2 _ (List.mem_of_getElem? hx)⟩
theorem BL {l:List an} (hlen:l.length< 1000000) {a b k f:Nat} (ha:a+k<=l.length) (hb:b+k<=l.length):
  ∃c:List an,alM c l/\Ev E 705 [.msl 5 (l.map an.v) 0 l.length,au a,au b,au k,.fn f []] ⟨.tuple [],[(0,c.map an.v)]⟩:=by
 have key:=Ev.cg (R:=fun r=> ∃c:List an,alM c l/\r=⟨.tuple [],[(0,c.map an.v)]⟩) acX (acY [.msl 5 (l.map an.v) 0 l.length,au a,au b,au k,.fn f []]) rfl ?_
 .obtain⟨res,h1,c,h2,rfl⟩:=key;exact⟨c,h2,h1⟩
 conv=>whnf
 repeat' (first| intro g| refine st ?_| refine br ?_ ?_<;>intro hc| rfl) <;>conv=>whnf
 refine aO.by (fun ((i,L):Nat×List an)=> ⟨[(0,.sl 0 0 0 l.length),(1,au a),(2,au b),(3,au k),(10,au i)],[(0,⟨0,5,true,false,some (L.map an.v)⟩)]⟩)
  (fun p=>p.1<=k/\alM p.2 l) (fun p=>k - p.1) (0,l) su ⟨ajl,alM.rfl⟩ ?_
 rintro⟨i,L⟩ ⟨hi,hL,hM⟩;dsimp only at hi hL hM;by_cases m:i<k
 .have d:IntKind.i64.wrap ((a:Int)+(i:Int))=((a+i:Nat):Int):=wt;have e:IntKind.i64.wrap ((b:Int)+(i:Int))=((b+i:Nat):Int):=wt;obtain⟨x,hx⟩: ∃x,L[a+i]? =some x:=⟨_,aM ajk⟩;obtain⟨y,hy⟩: ∃x,L[b+i]? =some x:=⟨_,aM ajk⟩;obtain⟨z,h⟩:=Zv d e y (L:=L) ajk;have n:0<=IntKind.i64.wrap ((a:Int)+(i:Int)):=by rw[d];omega
  have o:0<=IntKind.i64.wrap ((b:Int)+(i:Int)):=by rw[e];omega
  have j:=Zu (L:=L) d e x y;conv=>whnf
  repeat' (first| intro g| refine wi (aw hx d) ?_| refine wi (aw hy e) ?_| refine wi h ?_| refine st ?_| refine br ?_ ?_<;>intro hc| rfl) <;>conv=>whnf
  exact aR.mk (i+1,(L.set (a+i) y).set (b+i) x) om ⟨ajk,alM.Zu ⟨hL,hM⟩ hx hy⟩ (by(refine⟨?_,?_⟩ <;>repeat' (first| exact True.intro| refine And.intro (j) ?_| refine ai ?_| refine And.intro ?_ ?_)))
 conv=>whnf
 repeat' (first| intro g| refine st ?_| refine br ?_ ?_<;>intro hc| rfl) <;>conv=>whnf
 exact⟨L,⟨hL,hM⟩,rfl⟩
theorem jW {x:Int} {n:Nat} (h:x=(n:Int)):au n=vi x:=by rw[h]
theorem Ar {l:List an} (hlen:l.length< 1000000) {a m b f:Nat} (ha:a<m) (hm:m<b) (hb:b<=l.length):
  ∃d:List an,alM d l/\Ev E 700 [.msl 5 (l.map an.v) 0 l.length,au a,au m,au b,.fn f []] ⟨.tuple [],[(0,d.map an.v)]⟩:=by
 have key:=Ev.cg (R:=fun r=> ∃d:List an,alM d l/\r=⟨.tuple [],[(0,d.map an.v)]⟩) acN (acO [.msl 5 (l.map an.v) 0 l.length,au a,au m,au b,.fn f []]) rfl ?_
 .obtain⟨res,h1,d,h2,rfl⟩:=key;exact⟨d,h2,h1⟩
 have w0:IntKind.i64.wrap ((m:Int) - (a:Int))=((m - a:Nat):Int):=wt;have q:IntKind.i64.wrap ((b:Int) - (m:Int))=((b - m:Nat):Int):=wt;conv=>whnf
 repeat' (first| intro g| refine st ?_| refine br ?_ ?_<;>intro hc| rfl) <;>conv=>whnf
 refine aO.by (fun ((i,j,L):Nat×Nat×List an)=> ⟨[(0,.sl 0 0 0 l.length),(2,au m),(4,.fn f []),(10,au i),(11,au j)],[(0,⟨0,5,true,false,some (L.map an.v)⟩)]⟩)
  (fun p=>0 <p.1/\0 <p.2.1/\p.1<=m/\m+p.2.1<=b/\alM p.2.2 l) (fun p=>p.1+p.2.1) (m - a,b - m,l) (by(refine⟨?_,?_⟩ <;>repeat' (first| exact True.intro| refine And.intro (congrArg vi w0) ?_| refine And.intro (congrArg vi q) ?_| refine ai ?_| refine And.intro ?_ ?_))) ⟨om,om,om,om,alM.rfl⟩ ?_
 rintro⟨i,j,L⟩ ⟨hi,hj,him,hjb,c,hM⟩;dsimp only at hi hj him hjb c hM;have wm:IntKind.i64.wrap ((m:Int) - (i:Int))=((m - i:Nat):Int):=wt;have s:IntKind.i64.wrap (IntKind.i64.wrap ((m:Int)+(j:Int)) - (i:Int))=((m+j:Nat):Int) - (i:Int):=by rw[bo (n:=(m:Int)+(j:Int)) ajk ajk];exact wt
 have hn:l.length=L.length:=c.symm;by_cases he:i=j
 .subst he;obtain⟨e,h,c1⟩:=BL (l:=L) ajk (a:=m - i) (b:=m) (k:=i) (f:=f) ajk ajk;rw[jW wm,c] at c1;conv=>whnf
  repeat' (first| intro g| refine nd ⟨rfl,rfl,rfl,by simp[c],an.aV _⟩ ?_| refine nd ⟨rfl,rfl,an.aV _⟩ ?_| apply ca c1| refine st ?_| refine br ?_ ?_<;>intro hc| rfl) <;>conv=>whnf
  exact⟨e,h.trans ⟨c,hM⟩,rfl⟩
 have t: ¬ (i:Int)=(j:Int):=ajk;by_cases hg:j<i
 .obtain⟨e,h,c1⟩:=BL (l:=L) ajk (a:=m - i) (b:=m) (k:=j) (f:=f) ajk ajk;have ws:IntKind.i64.wrap ((i:Int) - (j:Int))=((i - j:Nat):Int):=wt;rw[jW wm,c] at c1;conv=>whnf
  repeat' (first| ((exfalso;omega)) | intro g| refine nd ⟨rfl,rfl,rfl,by simp[c],an.aV _⟩ ?_| refine nd ⟨rfl,rfl,an.aV _⟩ ?_| apply ca c1| refine st ?_| refine br ?_ ?_<;>intro hc| rfl) <;>conv=>whnf
  exact aR.mk (i - j,j,e) om ⟨om,hj,om,hjb,h.trans ⟨c,hM⟩⟩ (by(refine⟨?_,?_⟩ <;>repeat' (first| exact True.intro| refine And.intro (congrArg vi ws) ?_| refine ai ?_| refine And.intro ?_ ?_)))
 obtain⟨e,h,c1⟩:=BL (l:=L) ajk (a:=m - i) (b:=m+j - i) (k:=i) (f:=f) ajk ajk;have ws:IntKind.i64.wrap ((j:Int) - (i:Int))=((j - i:Nat):Int):=wt;have o:IntKind.i64.wrap (IntKind.i64.wrap ((m:Int)+(j:Int)) - (i:Int))=((m+j - i:Nat):Int):=by rw[s];omega
 rw[jW wm,jW o,c] at c1;conv=>whnf
 repeat' (first| ((exfalso;omega)) | intro g| refine nd ⟨rfl,rfl,rfl,by simp[c],an.aV _⟩ ?_| refine nd ⟨rfl,rfl,an.aV _⟩ ?_| apply ca c1| refine st ?_| refine br ?_ ?_<;>intro hc| rfl) <;>conv=>whnf
 exact aR.mk (i,j - i,e) om ⟨hi,om,him,om,h.trans ⟨c,hM⟩⟩ (by(refine⟨?_,?_⟩ <;>repeat' (first| exact True.intro| refine And.intro (congrArg vi ws) ?_| refine ai ?_| refine And.intro ?_ ?_)))
theorem As {i j:Nat} (h:i+j< 2000000):IntKind.i64.wrap ((IntKind.u64.wrap (IntKind.i64.wrap ((i:Int)+(j:Int)))).fdiv (2 ^ min (Int.toNat 1) IntKind.u64.bits))=(((i+j) / 2:Nat):Int):=by
 have a:IntKind.i64.wrap ((i:Int)+(j:Int))=((i+j:Nat):Int):=wt;have b:IntKind.u64.wrap ((i+j:Nat):Int)=((i+j:Nat):Int):=by simp[IntKind.wrap,IntKind.bits,IntKind.signed];omega
 have c: (((i+j:Nat):Int)).fdiv (2 ^ min (Int.toNat 1) IntKind.u64.bits)=(((i+j) / 2:Nat):Int):=by
  have: (2 ^ min (Int.toNat 1) IntKind.u64.bits:Int)=2:=by simp[IntKind.bits]
  rw[this,Int.fdiv_eq_ediv_of_nonneg _ ajk];omega
 rw[a,b,c];exact bo ajk ajk
def H5 (f:Nat) (l:List an) (a m b:Nat):Prop:= ∃c:List an,alM c l/\Ev E 692 [.msl 5 (l.map an.v) 0 l.length,au a,au m,au b,.fn f []] ⟨.tuple [],[(0,c.map an.v)]⟩
section
variable {c:an->an->Int} {f:Nat} (hm:bu E f=[]) (fa: ∀a b:an,Ev E f [a.v,b.v] ⟨vi (c a b),[]⟩)
include hm fa
theorem ahE {l:List an} (hlen:l.length< 1000000) {a m b:Nat} (ha:m=a+1) (hb:m<b) (o:b<=l.length):H5 f l a m b:=by
 have key:=Ev.cg (R:=fun r=> ∃c:List an,alM c l/\r=⟨.tuple [],[(0,c.map an.v)]⟩) QQ (QR [.msl 5 (l.map an.v) 0 l.length,au a,au m,au b,.fn f []]) rfl ?_
 .obtain⟨res,h1,c,h2,rfl⟩:=key;exact⟨c,h2,h1⟩
 have w0:IntKind.i64.wrap ((m:Int) - (a:Int))=1:=wt;conv=>whnf
 repeat' (first| contradiction| intro g| refine st ?_| refine br ?_ ?_<;>intro hc| rfl) <;>conv=>whnf
 refine aO.by (fun ((i,j):Nat×Nat)=> ⟨[(0,.sl 0 0 0 l.length),(1,au a),(2,au m),(3,au b),(4,.fn f []),(10,au i),(11,au j)],[(0,⟨0,5,true,false,some (l.map an.v)⟩)]⟩)
  (fun p=>m<=p.1/\p.1<=p.2/\p.2<=b) (fun p=>p.2 - p.1) (m,b) su ⟨ajl,om,ajl⟩ ?_
 rintro⟨i,j⟩ ⟨h1,h2,h3⟩;dsimp only at h1 h2 h3;by_cases e:i<j
 .obtain⟨x,hx⟩: ∃x,l[(i+j) / 2]? =some x:=⟨_,aM ajk⟩;obtain⟨y,hy⟩: ∃x,l[a]? =some x:=⟨_,aM ajk⟩;have hw:=As (i:=i) (j:=j) ajk;have hs:IntKind.i64.wrap (IntKind.i64.wrap ((IntKind.u64.wrap (IntKind.i64.wrap ((i:Int)+(j:Int)))).fdiv (2 ^ min (Int.toNat 1) IntKind.u64.bits))+1)=(((i+j) / 2+1:Nat):Int):=by rw[hw];exact wt
  conv=>whnf
  repeat' (first| (refine pf.mk ⟨by rw[hw];omega,by rw[hw];omega,rfl,rfl⟩ ?_) | intro g| refine fP.mk _ (aw hx hw) ?_| refine fP.mk _ (aw hy rfl) ?_| refine sf (fa _ _) ?_| refine st ?_| refine br ?_ ?_<;>intro hc| rfl) <;>conv=>whnf
  .exact aR.mk ((i+j) / 2+1,j) om ⟨om,om,h3⟩ (by(refine⟨?_,?_⟩ <;>repeat' (first| exact True.intro| refine And.intro (congrArg vi hs) ?_| refine ai ?_| refine And.intro ?_ ?_)))
  .exact aR.mk (i,(i+j) / 2) om ⟨h1,om,om⟩ (by(refine⟨?_,?_⟩ <;>repeat' (first| exact True.intro| refine And.intro (congrArg vi hw) ?_| refine ai ?_| refine And.intro ?_ ?_)))
 obtain rfl:i=j:=ajk;clear e h2;have wi:IntKind.i64.wrap ((i:Int) - 1)=((i - 1:Nat):Int):=wt;conv=>whnf
 repeat' (first| intro g| refine st ?_| refine br ?_ ?_<;>intro hc| rfl) <;>conv=>whnf
 refine aO.by (fun ((k,L):Nat×List an)=> ⟨[(0,.sl 0 0 0 l.length),(10,au i),(13,au k)],[(0,⟨0,5,true,false,some (L.map an.v)⟩)]⟩)
  (fun p=>a<=p.1/\p.1<=i - 1/\alM p.2 l) (fun p=>i - 1 - p.1) (a,l) su ⟨ajl,om,alM.rfl⟩ ?_
 rintro⟨k,L⟩ ⟨k1,k2,hL,hM⟩;dsimp only at k1 k2 hL hM;by_cases e:k<i - 1
 .obtain⟨x,hx⟩: ∃x,L[k]? =some x:=⟨_,aM ajk⟩;obtain⟨y,hy⟩: ∃x,L[k+1]? =some x:=⟨_,aM ajk⟩;have d:IntKind.i64.wrap ((k:Int)+1)=((k+1:Nat):Int):=wt;have q:0<=IntKind.i64.wrap ((k:Int)+1):=by rw[d];omega
  obtain⟨z,h⟩:=Zv (ia:=(k:Int)) rfl d y (L:=L) ajk;have n:=Zu (L:=L) (ia:=(k:Int)) rfl d x y;conv=>whnf
  repeat' (first| intro g| refine fP.mk _ (aw hx rfl) ?_| refine fP.mk _ (aw hy d) ?_| refine fP.mk _ h ?_| refine st ?_| refine br ?_ ?_<;>intro hc| rfl) <;>conv=>whnf
  exact aR.mk (k+1,(L.set k y).set (k+1) x) om ⟨om,om,alM.Zu ⟨hL,hM⟩ hx hy⟩ (by(refine⟨?_,?_⟩ <;>repeat' (first| exact True.intro| refine And.intro (n) ?_| refine ai ?_| refine And.intro ?_ ?_)))
 conv=>whnf
 repeat' (first| ((exfalso;omega)) | intro g| refine st ?_| refine br ?_ ?_<;>intro hc| rfl) <;>conv=>whnf
 exact⟨L,⟨hL,hM⟩,rfl⟩
theorem ahF {l:List an} (hlen:l.length< 1000000) {a m b:Nat} (ha:a+1 <m) (hb:b=m+1) (o:b<=l.length):H5 f l a m b:=by
 have key:=Ev.cg (R:=fun r=> ∃d:List an,alM d l/\r=⟨.tuple [],[(0,d.map an.v)]⟩) QQ (QR [.msl 5 (l.map an.v) 0 l.length,au a,au m,au b,.fn f []]) rfl ?_
 .obtain⟨res,h1,d,h2,rfl⟩:=key;exact⟨d,h2,h1⟩
 have w0: ¬IntKind.i64.wrap ((m:Int) - (a:Int))=1:=by rw[bo ajk ajk];omega
 have q:IntKind.i64.wrap ((b:Int) - (m:Int))=1:=wt;conv=>whnf
 repeat' (first| contradiction| intro g| refine st ?_| refine br ?_ ?_<;>intro hc| rfl) <;>conv=>whnf
 refine aO.by (fun ((i,j):Nat×Nat)=> ⟨[(0,.sl 0 0 0 l.length),(1,au a),(2,au m),(3,au b),(4,.fn f []),(14,au i),(15,au j)],[(0,⟨0,5,true,false,some (l.map an.v)⟩)]⟩)
  (fun p=>a<=p.1/\p.1<=p.2/\p.2<=m) (fun p=>p.2 - p.1) (a,m) su ⟨ajl,om,ajl⟩ ?_
 rintro⟨i,j⟩ ⟨h1,h2,h3⟩;dsimp only at h1 h2 h3;by_cases e:i<j
 .obtain⟨x,hx⟩: ∃x,l[(i+j) / 2]? =some x:=⟨_,aM ajk⟩;obtain⟨y,hy⟩: ∃x,l[m]? =some x:=⟨_,aM ajk⟩;have hw:=As (i:=i) (j:=j) ajk;have hs:IntKind.i64.wrap (IntKind.i64.wrap ((IntKind.u64.wrap (IntKind.i64.wrap ((i:Int)+(j:Int)))).fdiv (2 ^ min (Int.toNat 1) IntKind.u64.bits))+1)=(((i+j) / 2+1:Nat):Int):=by rw[hw];exact wt
  conv=>whnf
  repeat' (first| (refine pf.mk ⟨by rw[hw];omega,by rw[hw];omega,rfl,rfl⟩ ?_) | intro g| refine fP.mk _ (aw hx hw) ?_| refine fP.mk _ (aw hy rfl) ?_| refine sf (fa _ _) ?_| refine st ?_| refine br ?_ ?_<;>intro hc| rfl) <;>conv=>whnf
  .exact aR.mk ((i+j) / 2+1,j) om ⟨om,om,h3⟩ (by(refine⟨?_,?_⟩ <;>repeat' (first| exact True.intro| refine And.intro (congrArg vi hs) ?_| refine ai ?_| refine And.intro ?_ ?_)))
  .exact aR.mk (i,(i+j) / 2) om ⟨h1,om,om⟩ (by(refine⟨?_,?_⟩ <;>repeat' (first| exact True.intro| refine And.intro (congrArg vi hw) ?_| refine ai ?_| refine And.intro ?_ ?_)))
 obtain rfl:i=j:=ajk;clear e h2;conv=>whnf
 repeat' (first| intro g| refine st ?_| refine br ?_ ?_<;>intro hc| rfl) <;>conv=>whnf
 refine aO.by (fun ((k,L):Nat×List an)=> ⟨[(0,.sl 0 0 0 l.length),(14,au i),(17,au k)],[(0,⟨0,5,true,false,some (L.map an.v)⟩)]⟩)
  (fun p=>i<=p.1/\p.1<=m/\alM p.2 l) (fun p=>p.1 - i) (m,l) su ⟨om,ajl,alM.rfl⟩ ?_
 rintro⟨k,L⟩ ⟨k1,k2,hL,hM⟩;dsimp only at k1 k2 hL hM;by_cases e:i<k
 .obtain⟨x,hx⟩: ∃x,L[k]? =some x:=⟨_,aM ajk⟩;obtain⟨y,hy⟩: ∃x,L[k - 1]? =some x:=⟨_,aM ajk⟩;have c:IntKind.i64.wrap ((k:Int) - 1)=((k - 1:Nat):Int):=wt;have s:0<=IntKind.i64.wrap ((k:Int) - 1):=by rw[c];omega
  obtain⟨z,h⟩:=Zv (ia:=(k:Int)) rfl c y (L:=L) ajk;have n:=Zu (L:=L) (ia:=(k:Int)) rfl c x y;conv=>whnf
  repeat' (first| intro g| refine fP.mk _ (aw hx rfl) ?_| refine fP.mk _ (aw hy c) ?_| refine fP.mk _ h ?_| refine st ?_| refine br ?_ ?_<;>intro hc| rfl) <;>conv=>whnf
  exact aR.mk (k - 1,(L.set k y).set (k - 1) x) om ⟨om,om,alM.Zu ⟨hL,hM⟩ hx hy⟩ (by(refine⟨?_,?_⟩ <;>repeat' (first| exact True.intro| refine And.intro (n) ?_| refine And.intro (congrArg vi c) ?_| refine ai ?_| refine And.intro ?_ ?_)))
 conv=>whnf
 repeat' (first| ((exfalso;omega)) | intro g| refine st ?_| refine br ?_ ?_<;>intro hc| rfl) <;>conv=>whnf
 exact⟨L,⟨hL,hM⟩,rfl⟩
theorem ahG {l:List an} (hlen:l.length< 1000000) {a m b:Nat} (ha:a+1 <m) (hb:m+1 <b) (Q:b<=l.length)
  (e: ∀ (L:List an) (x y z:Nat),L.length=l.length->z - x<b - a->x<y->y<z->z<=L.length->H5 f L x y z):H5 f l a m b:=by
 have key:=Ev.XU (R:=fun r=> ∃D:List an,alM D l/\r=⟨.tuple [],[(0,D.map an.v)]⟩) QQ (QR [.msl 5 (l.map an.v) 0 l.length,au a,au m,au b,.fn f []]) rfl ?_
 .obtain⟨res,h1,D,h2,rfl⟩:=key;exact⟨D,h2,h1⟩
 obtain⟨mid,hd⟩: ∃x,(a+b) / 2=x:=⟨_,rfl⟩;have O:a<mid:=ajk;have ME:mid<b:=ajk;refine WS.cut 7 (fun ((s,r):Nat×Nat)=> ⟨[(0,.sl 0 0 0 l.length),(1,au a),(2,au m),(3,au b),(4,.fn f []),(18,au mid),(19,au (mid+m)),(20,au s),(21,au r),(22,au (mid+m - 1))],[(0,⟨0,5,true,false,some (l.map an.v)⟩)]⟩)
   (fun p=>a<=p.1/\mid+m<=b+p.1/\p.1<=p.2/\p.2<=m/\p.2<=mid) ?_ ?_
 .have w0: ¬IntKind.i64.wrap ((m:Int) - (a:Int))=1:=by rw[bo ajk ajk];omega
  have S: ¬IntKind.i64.wrap ((b:Int) - (m:Int))=1:=by rw[bo ajk ajk];omega
  have OF:=As (i:=a) (j:=b) ajk;rw[hd] at OF;have E:IntKind.i64.wrap (((mid:Nat):Int)+(m:Int))=((mid+m:Nat):Int):=wt;have F:IntKind.i64.wrap (((mid+m:Nat):Int) - (b:Int))=((mid+m:Nat):Int) - (b:Int):=bo ajk ajk;conv=>whnf
  repeat' (first| contradiction| intro g| refine st ?_| refine br ?_ ?_<;>intro hc| rfl) <;>conv=>whnf
  all_goals
   have A:=congrArg vi OF;have B:vi (IntKind.i64.wrap (IntKind.i64.wrap ((IntKind.u64.wrap (IntKind.i64.wrap ((a:Int)+(b:Int)))).fdiv (2 ^ min (Int.toNat 1) IntKind.u64.bits))+(m:Int)))=au (mid+m):=by rw[OF,E]
   have C:vi (IntKind.i64.wrap (IntKind.i64.wrap (IntKind.i64.wrap ((IntKind.u64.wrap (IntKind.i64.wrap ((a:Int)+(b:Int)))).fdiv (2 ^ min (Int.toNat 1) IntKind.u64.bits))+(m:Int)) - 1))=au (mid+m - 1):=by rw[OF,E,bo (n:=((mid+m:Nat):Int) - 1) ajk ajk];exact congrArg vi ajk
   have o:b<=mid+m->vi (IntKind.i64.wrap (IntKind.i64.wrap (IntKind.i64.wrap ((IntKind.u64.wrap (IntKind.i64.wrap ((a:Int)+(b:Int)))).fdiv (2 ^ min (Int.toNat 1) IntKind.u64.bits))+(m:Int)) - (b:Int)))=au (mid+m - b):=fun h=>by rw[OF,E,F];exact congrArg vi ajk
   rw[OF] at hc
  .have G:b<=mid+m:=ajk;have o:=o G;exact uQ.mk (mid+m - b,mid) ⟨om,om,om,om,om⟩ (by(refine⟨?_,?_⟩ <;>repeat' (first| exact True.intro| refine And.intro (A) ?_| refine And.intro (B) ?_| refine And.intro (C) ?_| refine And.intro (o) ?_| refine ai ?_| refine And.intro ?_ ?_)))
  exact uQ.mk (a,m) ⟨om,om,om,om,om⟩ (by(refine⟨?_,?_⟩ <;>repeat' (first| exact True.intro| refine And.intro (A) ?_| refine And.intro (B) ?_| refine And.intro (C) ?_| refine ai ?_| refine And.intro ?_ ?_)))
 rintro⟨s0,r0⟩ ⟨p1,p2,p3,p4,p5⟩;dsimp only at p1 p2 p3 p4 p5;refine WS.cut 1 (fun s:Nat=> ⟨[(0,.sl 0 0 0 l.length),(1,au a),(2,au m),(3,au b),(4,.fn f []),(18,au mid),(19,au (mid+m)),(20,au s)],[(0,⟨0,5,true,false,some (l.map an.v)⟩)]⟩)
   (fun s=>a<=s/\mid+m<=b+s/\s<=m/\s<=mid) ?_ ?_
 .conv=>whnf
  repeat' (first| intro g| refine st ?_| refine br ?_ ?_<;>intro hc| rfl) <;>conv=>whnf
  refine aO.by (fun ((s,r):Nat×Nat)=> ⟨[(0,.sl 0 0 0 l.length),(1,au a),(2,au m),(3,au b),(4,.fn f []),(18,au mid),(19,au (mid+m)),(20,au s),(21,au r),(22,au (mid+m - 1))],[(0,⟨0,5,true,false,some (l.map an.v)⟩)]⟩)
   (fun p=>a<=p.1/\mid+m<=b+p.1/\p.1<=p.2/\p.2<=m/\p.2<=mid) (fun p=>p.2 - p.1) (s0,r0) su ⟨p1,p2,p3,p4,p5⟩ ?_
  clear p1 p2 p3 p4 p5;rintro⟨s,r⟩ ⟨h1,h2,h3,h4,h5⟩;dsimp only at h1 h2 h3 h4 h5;by_cases T:s<r
  .obtain⟨x,hx⟩: ∃x,l[(s+r) / 2]? =some x:=⟨_,aM ajk⟩;obtain⟨y,hy⟩: ∃x,l[mid+m - 1 - (s+r) / 2]? =some x:=⟨_,aM ajk⟩;have hw:=As (i:=s) (j:=r) ajk;have hs:IntKind.i64.wrap (IntKind.i64.wrap ((IntKind.u64.wrap (IntKind.i64.wrap ((s:Int)+(r:Int)))).fdiv (2 ^ min (Int.toNat 1) IntKind.u64.bits))+1)=(((s+r) / 2+1:Nat):Int):=by rw[hw];exact wt
   have hp:IntKind.i64.wrap (((mid+m - 1:Nat):Int) - IntKind.i64.wrap ((IntKind.u64.wrap (IntKind.i64.wrap ((s:Int)+(r:Int)))).fdiv (2 ^ min (Int.toNat 1) IntKind.u64.bits)))=((mid+m - 1 - (s+r) / 2:Nat):Int):=by rw[hw];exact wt
   have M:0<=IntKind.i64.wrap ((IntKind.u64.wrap (IntKind.i64.wrap ((s:Int)+(r:Int)))).fdiv (2 ^ min (Int.toNat 1) IntKind.u64.bits))/\IntKind.i64.wrap ((IntKind.u64.wrap (IntKind.i64.wrap ((s:Int)+(r:Int)))).fdiv (2 ^ min (Int.toNat 1) IntKind.u64.bits)) < (l.length:Int):=by rw[hw];omega
   have N:0<=IntKind.i64.wrap (((mid+m - 1:Nat):Int) - IntKind.i64.wrap ((IntKind.u64.wrap (IntKind.i64.wrap ((s:Int)+(r:Int)))).fdiv (2 ^ min (Int.toNat 1) IntKind.u64.bits)))/\IntKind.i64.wrap (((mid+m - 1:Nat):Int) - IntKind.i64.wrap ((IntKind.u64.wrap (IntKind.i64.wrap ((s:Int)+(r:Int)))).fdiv (2 ^ min (Int.toNat 1) IntKind.u64.bits))) < (l.length:Int):=by rw[hp];omega
   conv=>whnf
   repeat' (first| first| refine pf.mk ⟨M.1,M.2,rfl,rfl⟩ ?_| refine pf.mk ⟨N.1,N.2,rfl,rfl⟩ ?_| intro g| refine fP.mk _ (aw hy hp) ?_| refine fP.mk _ (aw hx hw) ?_| refine sf (fa _ _) ?_| refine st ?_| refine br ?_ ?_<;>intro hc| rfl) <;>conv=>whnf
   .exact aR.mk ((s+r) / 2+1,r) om ⟨om,om,om,h4,h5⟩ (by(refine⟨?_,?_⟩ <;>repeat' (first| exact True.intro| refine And.intro (congrArg vi hs) ?_| refine ai ?_| refine And.intro ?_ ?_)))
   .exact aR.mk (s,(s+r) / 2) om ⟨h1,h2,om,om,om⟩ (by(refine⟨?_,?_⟩ <;>repeat' (first| exact True.intro| refine And.intro (congrArg vi hw) ?_| refine ai ?_| refine And.intro ?_ ?_)))
  obtain rfl:s=r:=ajk;conv=>whnf
  repeat' (first| intro g| refine st ?_| refine br ?_ ?_<;>intro hc| rfl) <;>conv=>whnf
  exact uQ.mk s ⟨h1,h2,h4,h5⟩ su
 clear p1 p2 p3 p4 p5;rintro s ⟨h1,h2,h4,h5⟩;have k:IntKind.i64.wrap (((mid+m:Nat):Int) - (s:Int))=((mid+m - s:Nat):Int):=wt;refine WS.of ?_;by_cases hA:s<m/\s<mid
 .by_cases P:a<s/\s<mid
  .by_cases H:s<m/\mid+m<b+s
   .obtain⟨c,⟨I,q⟩,c1⟩:=Ar (l:=l) hlen (a:=s) (m:=m) (b:=mid+m - s) (f:=f) ajk ajk ajk;rw[jW k] at c1;obtain⟨d,⟨J,t⟩,c2⟩:=e c a s mid ajk ajk ajk ajk ajk;rw[show c.length=l.length from by omega] at c2;obtain⟨u,⟨K,w⟩,c3⟩:=e d mid (mid+m - s) b ajk ajk ajk ajk ajk;rw[show d.length=l.length from by omega,jW k] at c3;conv=>whnf
    repeat' (first| ((exfalso;omega)) | intro g| refine nd ⟨rfl,rfl,rfl,by simp;omega,an.aV _⟩ ?_| refine nd ⟨rfl,rfl,an.aV _⟩ ?_| apply ca c1| apply ca c2| apply ca c3| refine st ?_| refine br ?_ ?_<;>intro hc| rfl) <;>conv=>whnf
    all_goals exact⟨u,⟨ajk,fun x hx=>q x (t x (w x hx))⟩,rfl⟩
   obtain⟨c,⟨I,q⟩,c1⟩:=Ar (l:=l) hlen (a:=s) (m:=m) (b:=mid+m - s) (f:=f) ajk ajk ajk;rw[jW k] at c1;obtain⟨d,⟨J,t⟩,c2⟩:=e c a s mid ajk ajk ajk ajk ajk;rw[show c.length=l.length from by omega] at c2;conv=>whnf
   repeat' (first| ((exfalso;omega)) | intro g| refine nd ⟨rfl,rfl,rfl,by simp;omega,an.aV _⟩ ?_| refine nd ⟨rfl,rfl,an.aV _⟩ ?_| apply ca c1| apply ca c2| refine st ?_| refine br ?_ ?_<;>intro hc| rfl) <;>conv=>whnf
   all_goals exact⟨d,⟨ajk,fun x hx=>q x (t x hx)⟩,rfl⟩
  by_cases H:s<m/\mid+m<b+s
  .obtain⟨c,⟨I,q⟩,c1⟩:=Ar (l:=l) hlen (a:=s) (m:=m) (b:=mid+m - s) (f:=f) ajk ajk ajk;rw[jW k] at c1;obtain⟨u,⟨K,w⟩,c3⟩:=e c mid (mid+m - s) b ajk ajk ajk ajk ajk;rw[show c.length=l.length from by omega,jW k] at c3;conv=>whnf
   repeat' (first| ((exfalso;omega)) | intro g| refine nd ⟨rfl,rfl,rfl,by simp;omega,an.aV _⟩ ?_| refine nd ⟨rfl,rfl,an.aV _⟩ ?_| apply ca c1| apply ca c3| refine st ?_| refine br ?_ ?_<;>intro hc| rfl) <;>conv=>whnf
   all_goals exact⟨u,⟨ajk,fun x hx=>q x (w x hx)⟩,rfl⟩
  obtain⟨c,⟨I,q⟩,c1⟩:=Ar (l:=l) hlen (a:=s) (m:=m) (b:=mid+m - s) (f:=f) ajk ajk ajk;rw[jW k] at c1;conv=>whnf
  repeat' (first| ((exfalso;omega)) | intro g| refine nd ⟨rfl,rfl,rfl,by simp;omega,an.aV _⟩ ?_| refine nd ⟨rfl,rfl,an.aV _⟩ ?_| apply ca c1| refine st ?_| refine br ?_ ?_<;>intro hc| rfl) <;>conv=>whnf
  all_goals exact⟨c,⟨ajk,q⟩,rfl⟩
 by_cases P:a<s/\s<mid
 .by_cases H:s<m/\mid+m<b+s
  .obtain⟨d,⟨J,t⟩,c2⟩:=e l a s mid ajk ajk ajk ajk ajk;obtain⟨u,⟨K,w⟩,c3⟩:=e d mid (mid+m - s) b ajk ajk ajk ajk ajk;rw[show d.length=l.length from by omega,jW k] at c3;conv=>whnf
   repeat' (first| ((exfalso;omega)) | intro g| refine nd ⟨rfl,rfl,rfl,by simp;omega,an.aV _⟩ ?_| refine nd ⟨rfl,rfl,an.aV _⟩ ?_| apply ca c2| apply ca c3| refine st ?_| refine br ?_ ?_<;>intro hc| rfl) <;>conv=>whnf
   all_goals exact⟨u,⟨ajk,fun x hx=>t x (w x hx)⟩,rfl⟩
  obtain⟨d,⟨J,t⟩,c2⟩:=e l a s mid ajk ajk ajk ajk ajk;conv=>whnf
  repeat' (first| ((exfalso;omega)) | intro g| refine nd ⟨rfl,rfl,rfl,by simp;omega,an.aV _⟩ ?_| refine nd ⟨rfl,rfl,an.aV _⟩ ?_| apply ca c2| refine st ?_| refine br ?_ ?_<;>intro hc| rfl) <;>conv=>whnf
  all_goals exact⟨d,⟨ajk,t⟩,rfl⟩
 by_cases H:s<m/\mid+m<b+s
 .obtain⟨u,⟨K,w⟩,c3⟩:=e l mid (mid+m - s) b ajk ajk ajk ajk ajk;rw[jW k] at c3;conv=>whnf
  repeat' (first| ((exfalso;omega)) | intro g| refine nd ⟨rfl,rfl,rfl,by simp;omega,an.aV _⟩ ?_| refine nd ⟨rfl,rfl,an.aV _⟩ ?_| apply ca c3| refine st ?_| refine br ?_ ?_<;>intro hc| rfl) <;>conv=>whnf
  all_goals exact⟨u,⟨ajk,w⟩,rfl⟩
 conv=>whnf
 repeat' (first| ((exfalso;omega)) | intro g| refine nd ⟨rfl,rfl,rfl,by simp;omega,an.aV _⟩ ?_| refine nd ⟨rfl,rfl,an.aV _⟩ ?_| refine st ?_| refine br ?_ ?_<;>intro hc| rfl) <;>conv=>whnf
 all_goals exact⟨l,alM.rfl,rfl⟩
end
section
variable {c:an->an->Int} {f:Nat} (hm:bu E f=[]) (fa: ∀a b:an,Ev E f [a.v,b.v] ⟨vi (c a b),[]⟩)
include hm fa
theorem KP: ∀ (N:Nat) {l:List an} {a m b:Nat},b - a<=N->l.length< 1000000->a<m->m<b->b<=l.length->H5 f l a m b
 | 0,l,a,m,b,c,_,h1,h2,_=>ajk
 | N+1,l,a,m,b,c,hl,h1,h2,h3=>by
   by_cases d:m=a+1
   .exact ahE hm fa hl d h2 h3
   by_cases e:b=m+1
   .exact ahF hm fa hl ajk e h3
   exact ahG hm fa hl ajk ajk h3 fun L x y z j k g h i=>KP N ajk ajk g h i
theorem OG {l:List an} (hlen:l.length< 1000000): ∃d:List an,alM d l/\Ev E 682 [.msl 5 (l.map an.v) 0 l.length,au l.length,.fn f []] ⟨.tuple [],[(0,d.map an.v)]⟩:=by
 have key:=Ev.XU (R:=fun r=> ∃d:List an,alM d l/\r=⟨.tuple [],[(0,d.map an.v)]⟩) acx (acy [.msl 5 (l.map an.v) 0 l.length,au l.length,.fn f []]) rfl ?_
 .obtain⟨res,h1,d,h2,rfl⟩:=key;exact⟨d,h2,h1⟩
 refine WS.cut 4 (fun L:List an=> ⟨[(0,.sl 0 0 0 l.length),(1,au l.length),(2,.fn f []),(6,au 20)],[(0,⟨0,5,true,false,some (L.map an.v)⟩)]⟩) (fun L=>alM L l) ?_ ?_
 .conv=>whnf
  repeat' (first| intro g| refine st ?_| refine br ?_ ?_<;>intro hc| rfl) <;>conv=>whnf
  refine aO.by (fun ((a,L):Nat×List an)=> ⟨[(0,.sl 0 0 0 l.length),(1,au l.length),(2,.fn f []),(6,au 20),(7,au a),(8,au (a+20))],[(0,⟨0,5,true,false,some (L.map an.v)⟩)]⟩)
   (fun p=>p.1<=l.length/\alM p.2 l) (fun p=>l.length - p.1) (0,l) su ⟨ajl,alM.rfl⟩ ?_
  rintro⟨a,L⟩ ⟨ha,hL,hM⟩;dsimp only at ha hL hM;by_cases n:a+20<=l.length
  .obtain⟨e,h,i,c1⟩:=wE hm fa (l0:=L) ajk (a:=a) (b:=a+20) ajk ajk;rw[hL] at c1;have ws:IntKind.i64.wrap (((a+20:Nat):Int)+20)=((a+20+20:Nat):Int):=wt;conv=>whnf
   repeat' (first| ((exfalso;omega)) | intro g| refine nd ⟨rfl,rfl,rfl,by simp;omega,an.aV _⟩ ?_| refine nd ⟨rfl,rfl,an.aV _⟩ ?_| apply ca c1| refine st ?_| refine br ?_ ?_<;>intro hc| rfl) <;>conv=>whnf
   exact aR.mk (a+20,e) om ⟨n,alM.trans ⟨h,i⟩ ⟨hL,hM⟩⟩ (by(refine⟨?_,?_⟩ <;>repeat' (first| exact True.intro| refine And.intro (congrArg vi ws) ?_| refine ai ?_| refine And.intro ?_ ?_)))
  obtain⟨e,h,i,c1⟩:=wE hm fa (l0:=L) ajk (a:=a) (b:=l.length) ajk ajk;rw[hL] at c1;conv=>whnf
  repeat' (first| ((exfalso;omega)) | intro g| refine nd ⟨rfl,rfl,rfl,by simp;omega,an.aV _⟩ ?_| refine nd ⟨rfl,rfl,an.aV _⟩ ?_| apply ca c1| refine st ?_| refine br ?_ ?_<;>intro hc| rfl) <;>conv=>whnf
  exact uQ.mk e (alM.trans ⟨h,i⟩ ⟨hL,hM⟩) su
 intro L0 j;refine WS.of ?_;conv=>whnf
 repeat' (first| intro g| refine st ?_| refine br ?_ ?_<;>intro hc| rfl) <;>conv=>whnf
 refine aO.by (fun ((c,L):Nat×List an)=> ⟨[(0,.sl 0 0 0 l.length),(1,au l.length),(2,.fn f []),(6,au c)],[(0,⟨0,5,true,false,some (L.map an.v)⟩)]⟩)
  (fun p=>0 <p.1/\p.1<=2000000/\alM p.2 l) (fun p=>l.length - p.1) (20,L0) su ⟨om,om,j⟩ ?_
 clear j L0;rintro⟨c,L⟩ ⟨h0,h1,hL,hM⟩;dsimp only at h0 h1 hL hM;by_cases n:c<l.length
 case neg=>
  conv=>whnf
  repeat' (first| intro g| refine st ?_| refine br ?_ ?_<;>intro hc| rfl) <;>conv=>whnf
  all_goals exact⟨L,⟨hL,hM⟩,rfl⟩
 have o:IntKind.i64.wrap (2*(c:Int))=((c+c:Nat):Int):=wt;have k:IntKind.i64.wrap ((c:Int)*2)=((c+c:Nat):Int):=wt;conv=>whnf
 repeat' (first| intro g| refine st ?_| refine br ?_ ?_<;>intro hc| rfl) <;>conv=>whnf
 refine aO.by (fun ((a,L):Nat×List an)=> ⟨[(0,.sl 0 0 0 l.length),(1,au l.length),(2,.fn f []),(6,au c),(7,au a),(8,au (a+(c+c)))],[(0,⟨0,5,true,false,some (L.map an.v)⟩)]⟩)
  (fun p=>p.1<=l.length/\alM p.2 l) (fun p=>l.length - p.1) (0,L) (by(refine⟨?_,?_⟩ <;>repeat' (first| exact True.intro| refine And.intro ((congrArg vi o).trans (congrArg au (akg (c+c)).symm)) ?_| refine ai ?_| refine And.intro ?_ ?_))) ⟨ajl,hL,hM⟩ ?_
 clear hL hM;rintro⟨a,L2⟩ ⟨ha,hL,hM⟩;dsimp only at ha hL hM;have q:IntKind.i64.wrap ((a:Int)+(c:Int))=((a+c:Nat):Int):=wt;by_cases s:a+(c+c)<=l.length
 .obtain⟨e,⟨h,i⟩,c1⟩:=KP hm fa (c+c) (l:=L2) (a:=a) (m:=a+c) (b:=a+(c+c)) ajk ajk ajk ajk ajk;rw[hL,jW q] at c1;have t:IntKind.i64.wrap (((a+(c+c):Nat):Int)+IntKind.i64.wrap (2*(c:Int)))=((a+(c+c)+(c+c):Nat):Int):=by rw[o];exact wt
  conv=>whnf
  repeat' (first| ((exfalso;omega)) | intro g| refine nd ⟨rfl,rfl,rfl,by simp;omega,an.aV _⟩ ?_| refine nd ⟨rfl,rfl,an.aV _⟩ ?_| apply ca c1| refine st ?_| refine br ?_ ?_<;>intro hc| rfl) <;>conv=>whnf
  exact aR.mk (a+(c+c),e) om ⟨s,alM.trans ⟨h,i⟩ ⟨hL,hM⟩⟩ (by(refine⟨?_,?_⟩ <;>repeat' (first| exact True.intro| refine And.intro (congrArg vi t) ?_| refine ai ?_| refine And.intro ?_ ?_)))
 by_cases ME:a+c<l.length
 .obtain⟨e,⟨h,i⟩,c1⟩:=KP hm fa (l.length - a) (l:=L2) (a:=a) (m:=a+c) (b:=l.length) ajk ajk ajk ajk ajk;rw[hL,jW q] at c1;conv=>whnf
  repeat' (first| ((exfalso;omega)) | intro g| refine nd ⟨rfl,rfl,rfl,by simp;omega,an.aV _⟩ ?_| refine nd ⟨rfl,rfl,an.aV _⟩ ?_| apply ca c1| refine st ?_| refine br ?_ ?_<;>intro hc| rfl) <;>conv=>whnf
  exact aR.mk (c+c,e) om ⟨om,om,alM.trans ⟨h,i⟩ ⟨hL,hM⟩⟩ (by(refine⟨?_,?_⟩ <;>repeat' (first| exact True.intro| refine And.intro (congrArg vi k) ?_| refine ai ?_| refine And.intro ?_ ?_)))
 conv=>whnf
 repeat' (first| ((exfalso;omega)) | intro g| refine st ?_| refine br ?_ ?_<;>intro hc| rfl) <;>conv=>whnf
 exact aR.mk (c+c,L2) om ⟨om,om,hL,hM⟩ (by(refine⟨?_,?_⟩ <;>repeat' (first| exact True.intro| refine And.intro (congrArg vi k) ?_| refine ai ?_| refine And.intro ?_ ?_)))
theorem Dd {l:List an} (hlen:l.length< 1000000): ∃a:List an,alM a l/\Ev E 666 [.msl 5 (l.map an.v) 0 l.length,.fn f []] ⟨.tuple [],[(0,a.map an.v)]⟩:=by
 obtain⟨a,h1,h2⟩:=OG hm fa hlen;refine⟨a,h1,?_⟩;refine amM ?_;conv=>whnf
 repeat' (first| intro g| refine nd ⟨rfl,rfl,rfl,ajl,an.aV _⟩ ?_| refine nd ⟨rfl,rfl,an.aV _⟩ ?_| apply ca h2| refine st ?_| refine br ?_ ?_<;>intro hc| rfl) <;>conv=>whnf
end
def kd (s:uS) (a b c d e:Nat):V:= .agg [.str s,.fn a [],.fn b [],.fn c [],.fn d [],.fn e []]
def Wb:V:=kd [100,114,111,112] 672 526 527 524 529
def Wc:V:=kd [102,117,115,101] 673 487 489 485 492
def We:V:=kd [116,104,105,110] 674 675 677 679 681
def Wf:V:=kd [103,97,116,104,101,114] 673 8 12 7 9
theorem rR:alH 665 [] (.own 6 [Wb,Wc,We,Wf]):=⟨100,ajn⟩
theorem FU (e:an):alH 672 [e.v] (vi e.n):=by refine amM ?_;exact dr
theorem tg (e:an):alH 673 [e.v] (vi e.other):=by refine amM ?_;exact dr
theorem FV (e:an):alH 674 [e.v] (vi 0):=by refine amM ?_;exact dr
def n9 (f:Nat) (args:List V):Prop:= ∃ (M:aB) (c:Int),Ev E f args ⟨.tuple [M.v,vi c],[]⟩/\M.Bd
theorem n9.mk {f:Nat} {args:List V} (h: ∃res,Ev E f args res/\ ∃ (M:aB) (c:Int),res=⟨.tuple [M.v,vi c],[]⟩/\M.Bd):n9 f args:=by obtain⟨_,h1,M,c,rfl,h3⟩:=h;exact⟨M,c,h1,h3⟩
theorem ZB (l:List Int) (hl:l.length< 1000000): ∃r:Int,alH 22 [.lit 1 (l.map vi)] (vi r):=dJ (g:=vi) (Ev.cg rfl rfl rfl (by
 conv=>whnf
 repeat' (first| intro g| refine st ?_| refine br ?_ ?_<;>intro hc| rfl) <;>conv=>whnf
 refine aO.by (fun i:Nat=> ⟨[(3,vi 0),(6,.lit 1 (l.map vi)),(7,au l.length),(8,au i)],[]⟩) (fun i=>i<=l.length) (fun i=>l.length - i) 0 su ajk ?_
 intro i hi;by_cases a:i<l.length
 .obtain⟨x,hx⟩: ∃x,l[i]? =some x:=⟨_,aM a⟩;conv=>whnf
  repeat' (first| intro g| refine wi (aw hx rfl) ?_| refine st ?_| refine br ?_ ?_<;>intro hc| rfl) <;>conv=>whnf
  .exact⟨_,rfl⟩
  exact aR.mk (i+1) om ajk su
 .conv=>whnf
  repeat' (first| intro g| refine st ?_| refine br ?_ ?_<;>intro hc| rfl) <;>conv=>whnf
  exact⟨_,rfl⟩))
theorem Sa (a b:an): ∃r:Int,alH 667 [a.v,b.v] (vi r):=by
 have h1:=eJ a.at_ b.at_;have h2:=eJ a.kind b.kind;have h3:=eJ a.id b.id;have h4:=eJ a.other b.other;have h5:=eJ a.n b.n;obtain⟨r,h6⟩:=ZB [jH a.at_ b.at_,jH a.kind b.kind,jH a.id b.id,jH a.other b.other,jH a.n b.n] ajl;refine dJ (g:=vi) (amN ?_);conv=>whnf
 repeat' (first| intro g| apply ca h1| apply ca h2| apply ca h3| apply ca h4| apply ca h5| apply ca h6| refine st ?_| refine br ?_ ?_<;>intro hc| rfl) <;>conv=>whnf
 exact⟨_,rfl⟩
theorem alO {A B C D F G:Prop} {P:an->Prop} {l a:List an} (h: ∀e ∈ l,P e) (b: ∀e ∈ a,P e) (k:A/\B/\C/\D/\F/\G):A/\B/\C/\D/\F/\G/\ ∀e ∈ l++a,P e:=
 ⟨k.1,k.2.1,k.2.2.1,k.2.2.2.1,k.2.2.2.2.1,k.2.2.2.2.2,fun e he=> (ajD.1 he).elim (h e) (b e)⟩
theorem amq (t a b:Int):alH 668 [vi 1,vi t,vi a,vi b] ((an.mk 1 t a 0 b).v):=by
 refine amM ?_;conv=>whnf
 repeat' (first| intro g| refine st ?_| refine br ?_ ?_<;>intro hc| rfl) <;>conv=>whnf
theorem amr (t a b:Int):alH 668 [vi 2,vi t,vi a,vi b] ((an.mk 2 t a b 0).v):=by
 refine amM ?_;conv=>whnf
 repeat' (first| intro g| refine st ?_| refine br ?_ ?_<;>intro hc| rfl) <;>conv=>whnf
theorem ams (t a b:Int):alH 668 [vi 3,vi t,vi a,vi b] ((an.mk 3 t a 0 0).v):=by
 refine amM ?_;conv=>whnf
 repeat' (first| intro g| refine st ?_| refine br ?_ ?_<;>intro hc| rfl) <;>conv=>whnf
theorem amt (t a b:Int):alH 668 [vi 4,vi t,vi a,vi b] ((an.mk 4 t a b 0).v):=by
 refine amM ?_;conv=>whnf
 repeat' (first| intro g| refine st ?_| refine br ?_ ?_<;>intro hc| rfl) <;>conv=>whnf
theorem amb (t a n:Int):alH 659 [(an.mk 1 t a 0 n).v] (.tuple [Wb,.bool true]):=by
 have h1:=amq t a n;have h2:=FU (an.mk 1 t a 0 n);have b: [Wb,Wc,We,Wf][(IntKind.i64.wrap ((1:Int) - 1)).toNat]? =some Wb:=rfl;have hn: (0:Int)<=IntKind.i64.wrap ((1:Int) - 1):=ajm;refine amM ?_;conv=>whnf
 repeat' (first| intro g| refine nd ⟨hn,rfl⟩ ?_| refine wi b ?_| apply ca rR| apply ca h2| apply ca h1| refine st ?_| refine br ?_ ?_<;>intro hc| rfl) <;>conv=>whnf
 simp
theorem amc (t a b:Int):alH 659 [(an.mk 2 t a b 0).v] (.tuple [Wc,.bool true]):=by
 have h1:=amr t a b;have h2:=tg (an.mk 2 t a b 0);have c: [Wb,Wc,We,Wf][(IntKind.i64.wrap ((2:Int) - 1)).toNat]? =some Wc:=rfl;have hn: (0:Int)<=IntKind.i64.wrap ((2:Int) - 1):=ajm;refine amM ?_;conv=>whnf
 repeat' (first| intro g| refine nd ⟨hn,rfl⟩ ?_| refine wi c ?_| apply ca rR| apply ca h2| apply ca h1| refine st ?_| refine br ?_ ?_<;>intro hc| rfl) <;>conv=>whnf
 simp
theorem amd (t a:Int):alH 659 [(an.mk 3 t a 0 0).v] (.tuple [We,.bool true]):=by
 have h1:=ams t a 0;have h2:=FV (an.mk 3 t a 0 0);have b: [Wb,Wc,We,Wf][(IntKind.i64.wrap ((3:Int) - 1)).toNat]? =some We:=rfl;have hn: (0:Int)<=IntKind.i64.wrap ((3:Int) - 1):=ajm;refine amM ?_;conv=>whnf
 repeat' (first| intro g| refine nd ⟨hn,rfl⟩ ?_| refine wi b ?_| apply ca rR| apply ca h2| apply ca h1| refine st ?_| refine br ?_ ?_<;>intro hc| rfl) <;>conv=>whnf
 simp
theorem ame (t a b:Int):alH 659 [(an.mk 4 t a b 0).v] (.tuple [Wf,.bool true]):=by
 have h1:=amt t a b;have h2:=tg (an.mk 4 t a b 0);have c: [Wb,Wc,We,Wf][(IntKind.i64.wrap ((4:Int) - 1)).toNat]? =some Wf:=rfl;have hn: (0:Int)<=IntKind.i64.wrap ((4:Int) - 1):=ajm;refine amM ?_;conv=>whnf
 repeat' (first| intro g| refine nd ⟨hn,rfl⟩ ?_| refine wi c ?_| apply ca rR| apply ca h2| apply ca h1| refine st ?_| refine br ?_ ?_<;>intro hc| rfl) <;>conv=>whnf
 simp
theorem amf {m:aB} {a c:Int} (b:Int) (h1:alH 676 [m.v,vi a] (vi c)):alH 675 [m.v,vi a,vi b] (vi c):=by
 refine amM ?_;conv=>whnf
 repeat' (first| intro g| apply ca h1| refine st ?_| refine br ?_ ?_<;>intro hc| rfl) <;>conv=>whnf
theorem al2 {m:aB} {a c:Int} (b:Int) (h1:alH 678 [m.v,vi a] (vi c)):alH 677 [m.v,vi a,vi b] (vi c):=by
 refine amM ?_;conv=>whnf
 repeat' (first| intro g| apply ca h1| refine st ?_| refine br ?_ ?_<;>intro hc| rfl) <;>conv=>whnf
theorem amg {m:aB} {e:an} (h:U8 m e) (ht:e.at_<=1024):alH 658 [m.v,e.v] (vi 0):=by
 cases h with
 | @drop t a n c h1 h2 h3 h4=>
   dsimp only at ht;have d:=amb t a n;have f:=FU (an.mk 1 t a 0 n);refine amM ?_;conv=>whnf
   repeat' (first| ((exfalso;omega)) | intro g| apply ca d| apply ca f| apply ca h1| apply ca h2| refine st ?_| refine br ?_ ?_<;>intro hc| rfl) <;>conv=>whnf
 | @De t a b c h1 h2 h3 h4=>
   dsimp only at ht;have d:=amc t a b;have f:=tg (an.mk 2 t a b 0);refine amM ?_;conv=>whnf
   repeat' (first| ((exfalso;omega)) | intro g| apply ca d| apply ca f| apply ca h1| apply ca h2| refine st ?_| refine br ?_ ?_<;>intro hc| rfl) <;>conv=>whnf
 | @thin t a c h1 h2 h3 h4=>
   dsimp only at ht;have d:=amd t a;have f:=FV (an.mk 3 t a 0 0);have g3:=amf 0 h1;have g4:=al2 0 h2;refine amM ?_;conv=>whnf
   repeat' (first| ((exfalso;omega)) | intro g| apply ca d| apply ca f| apply ca g3| apply ca g4| refine st ?_| refine br ?_ ?_<;>intro hc| rfl) <;>conv=>whnf
 | @oV t a b c h1 h2 h3 h4=>
   dsimp only at ht;have d:=ame t a b;have f:=tg (an.mk 4 t a b 0);refine amM ?_;conv=>whnf
   repeat' (first| ((exfalso;omega)) | intro g| apply ca d| apply ca f| apply ca h1| apply ca h2| refine st ?_| refine br ?_ ?_<;>intro hc| rfl) <;>conv=>whnf
def al1 (f:Nat) (args:List V):Prop:= ∃M:aB,Ev E f args ⟨.tuple [M.v,vi 0],[]⟩/\M.Bd
theorem al1.mk {f:Nat} {args:List V} (h: ∃res,Ev E f args res/\ ∃M:aB,res=⟨.tuple [M.v,vi 0],[]⟩/\M.Bd):al1 f args:=by obtain⟨_,h1,M,rfl,h3⟩:=h;exact⟨M,h1,h3⟩
end Go.AM
