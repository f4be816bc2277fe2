/- Texts of the proof. -/
import Derived.Test.YtdifmldbllaeiaaGreatGab
import Derived.KernelRfl
set_option maxRecDepth 20000
set_option maxHeartbeats 4000000
set_option linter.unusedSimpArgs false
set_option linter.unusedVariables false
namespace Go.AM
structure IL where
 l:List Int
 h:l.length< 1000000
def IL.v (x:IL):V:= .lit 1 (x.l.map vi)
theorem IL.aV (l:List IL):V.al (l.map IL.v)=true:=AM.aV (fun x=>by simp only[IL.v,V.az]) l
section
variable {c:IL->IL->Int} {g:Nat}
theorem N4 (hm:bu E g=[]) (fa: ∀a b:IL,Ev E g [a.v,b.v] ⟨vi (c a b),[]⟩) {l0:List IL} (hlen:l0.length< 1000000) {a b:Nat} (C8:a<=b) (hb:b<=l0.length):
  ∃d:List IL,d.length=l0.length/\(∀x ∈ d,x ∈ l0)/\Ev E 712 [.msl 1 (l0.map IL.v) 0 l0.length,au a,au b,.fn g []] ⟨.tuple [],[(0,d.map IL.v)]⟩:=by
 have key:=Ev.cg (R:=fun r=> ∃d:List IL,d.length=l0.length/\(∀x ∈ d,x ∈ l0)/\r=⟨.tuple [],[(0,d.map IL.v)]⟩) acs (acu [.msl 1 (l0.map IL.v) 0 l0.length,au a,au b,.fn g []]) rfl ?_
 .obtain⟨res,h1,d,h2,h3,rfl⟩:=key;exact⟨d,h2,h3,h1⟩
 conv=>whnf
 repeat' (first| intro g| refine st ?_| refine br ?_ ?_<;>intro hc| rfl) <;>conv=>whnf
 refine aO.by (fun ((i,L):Nat×List IL)=> ⟨[(0,.sl 0 0 0 l0.length),(1,au a),(2,au b),(3,.fn g []),(8,au (i+1))],[(0,⟨0,1,true,false,some (L.map IL.v)⟩)]⟩)
  (fun p=>a<=p.1/\p.1<=b/\p.2.length=l0.length/\ ∀x ∈ p.2,x ∈ l0) (fun p=>b - p.1) (a,l0) ?_ ⟨ajl,C8,rfl,fun x h=>h⟩ ?_
 .exact su
 rintro⟨i,L⟩ ⟨ha,h1,h2,h3⟩;dsimp only at ha h1 h2 h3;conv=>whnf
 repeat' (first| intro g| refine nd ⟨rfl,rfl,IL.aV _⟩ ?_| refine st ?_| refine br ?_ ?_<;>intro hc| rfl) <;>conv=>whnf
 .have GZ:i+1 <L.length:=ajk;refine aO.by (fun ((j,L):Nat×List IL)=> ⟨[(0,.sl 0 0 0 l0.length),(1,au a),(2,au b),(3,.fn g []),(8,au (i+1)),(9,au j)],[(0,⟨0,1,true,false,some (L.map IL.v)⟩)]⟩)
   (fun p=>a<=p.1/\p.1<=i+1/\p.2.length=l0.length/\ ∀x ∈ p.2,x ∈ l0) (fun p=>p.1) (i+1,L) ?_ ⟨om,ajl,h2,h3⟩ ?_
  .exact su
  rintro⟨j,L'⟩ ⟨ka,k1,k2,k3⟩;dsimp only at ka k1 k2 k3;by_cases l:a<j
  .obtain⟨j,rfl⟩: ∃q,j=q+1:=⟨j - 1,ajk⟩;obtain⟨x,hx⟩: ∃x,L'[j+1]? =some x:=⟨_,aM ajk⟩;obtain⟨y,hy⟩: ∃x,L'[j]? =some x:=⟨_,aM ajk⟩;have f:IntKind.i64.wrap (((j+1:Nat):Int) - 1)=(j:Int):=wt;have k: ((L'.map IL.v).set ((j+1:Nat):Int).toNat y.v)[(IntKind.i64.wrap (((j+1:Nat):Int) - 1)).toNat]? =some y.v:=by rw[f];simp[hy]
   conv=>whnf
   repeat' (first| intro g| refine wi (aw hx rfl) ?_| refine wi (aw hy f) ?_| refine wi k ?_| refine sf (fa _ _) ?_| refine st ?_| refine br ?_ ?_<;>intro hc| rfl) <;>conv=>whnf
   .refine aR.mk (j,(L'.set (j+1) y).set j x) om ⟨om,om,by simp[k2],fun z e=> ?_⟩ ?_
    .rcases ajT e with e| rfl
     .rcases ajT e with e| rfl
      .exact k3 z e
      exact k3 _ (List.mem_of_getElem? hy)
     exact k3 _ (List.mem_of_getElem? hx)
    have m:V.int .i64 (IntKind.i64.wrap (((j+1:Nat):Int) - 1))=au j:=by rw[f]
    have n: (⟨0,1,true,false,some (((L'.map IL.v).set ((j+1:Nat):Int).toNat y.v).set (IntKind.i64.wrap (((j+1:Nat):Int) - 1)).toNat x.v)⟩:Obj)=⟨0,1,true,false,some (((L'.set (j+1) y).set j x).map IL.v)⟩:=by rw[f,akl,akl];rfl
    (refine⟨?_,?_⟩ <;>repeat' (first| exact True.intro| refine And.intro (m) ?_| refine And.intro (n) ?_| refine ai ?_| refine And.intro ?_ ?_))
   refine aR.mk (i+1,L') om ⟨om,om,k2,k3⟩ su
  conv=>whnf
  repeat' (first| intro g| refine st ?_| refine br ?_ ?_<;>intro hc| rfl) <;>conv=>whnf
  refine aR.mk (i+1,L') om ⟨om,om,k2,k3⟩ su
 exact⟨L,h2,h3,rfl⟩
end
section
variable {c:an->an->Int} {g:Nat}
theorem wE (hm:bu E g=[]) (fa: ∀a b:an,Ev E g [a.v,b.v] ⟨vi (c a b),[]⟩) {l0:List an} (hlen:l0.length< 1000000) {a b:Nat} (C8:a<=b) (hb:b<=l0.length):
  ∃d:List an,d.length=l0.length/\(∀x ∈ d,x ∈ l0)/\Ev E 42 [.msl 5 (l0.map an.v) 0 l0.length,au a,au b,.fn g []] ⟨.tuple [],[(0,d.map an.v)]⟩:=by
 have key:=Ev.cg (R:=fun r=> ∃d:List an,d.length=l0.length/\(∀x ∈ d,x ∈ l0)/\r=⟨.tuple [],[(0,d.map an.v)]⟩) acD (acE [.msl 5 (l0.map an.v) 0 l0.length,au a,au b,.fn g []]) rfl ?_
 .obtain⟨res,h1,d,h2,h3,rfl⟩:=key;exact⟨d,h2,h3,h1⟩
 conv=>whnf
 repeat' (first| intro g| refine st ?_| refine br ?_ ?_<;>intro hc| rfl) <;>conv=>whnf
 refine aO.by (fun ((i,L):Nat×List an)=> ⟨[(0,.sl 0 0 0 l0.length),(1,au a),(2,au b),(3,.fn g []),(8,au (i+1))],[(0,⟨0,5,true,false,some (L.map an.v)⟩)]⟩)
  (fun p=>a<=p.1/\p.1<=b/\p.2.length=l0.length/\ ∀x ∈ p.2,x ∈ l0) (fun p=>b - p.1) (a,l0) ?_ ⟨ajl,C8,rfl,fun x h=>h⟩ ?_
 .exact su
 rintro⟨i,L⟩ ⟨ha,h1,h2,h3⟩;dsimp only at ha h1 h2 h3;conv=>whnf
 repeat' (first| intro g| refine nd ⟨rfl,rfl,an.aV _⟩ ?_| refine st ?_| refine br ?_ ?_<;>intro hc| rfl) <;>conv=>whnf
 .have GZ:i+1 <L.length:=ajk;refine aO.by (fun ((j,L):Nat×List an)=> ⟨[(0,.sl 0 0 0 l0.length),(1,au a),(2,au b),(3,.fn g []),(8,au (i+1)),(9,au j)],[(0,⟨0,5,true,false,some (L.map an.v)⟩)]⟩)
   (fun p=>a<=p.1/\p.1<=i+1/\p.2.length=l0.length/\ ∀x ∈ p.2,x ∈ l0) (fun p=>p.1) (i+1,L) ?_ ⟨om,ajl,h2,h3⟩ ?_
  .exact su
  rintro⟨j,L'⟩ ⟨ka,k1,k2,k3⟩;dsimp only at ka k1 k2 k3;by_cases l:a<j
  .obtain⟨j,rfl⟩: ∃q,j=q+1:=⟨j - 1,ajk⟩;obtain⟨x,hx⟩: ∃x,L'[j+1]? =some x:=⟨_,aM ajk⟩;obtain⟨y,hy⟩: ∃x,L'[j]? =some x:=⟨_,aM ajk⟩;have f:IntKind.i64.wrap (((j+1:Nat):Int) - 1)=(j:Int):=wt;have k: ((L'.map an.v).set ((j+1:Nat):Int).toNat y.v)[(IntKind.i64.wrap (((j+1:Nat):Int) - 1)).toNat]? =some y.v:=by rw[f];simp[hy]
   conv=>whnf
   repeat' (first| intro g| refine wi (aw hx rfl) ?_| refine wi (aw hy f) ?_| refine wi k ?_| refine sf (fa _ _) ?_| refine st ?_| refine br ?_ ?_<;>intro hc| rfl) <;>conv=>whnf
   .refine aR.mk (j,(L'.set (j+1) y).set j x) om ⟨om,om,by simp[k2],fun z e=> ?_⟩ ?_
    .rcases ajT e with e| rfl
     .rcases ajT e with e| rfl
      .exact k3 z e
      exact k3 _ (List.mem_of_getElem? hy)
     exact k3 _ (List.mem_of_getElem? hx)
    have m:V.int .i64 (IntKind.i64.wrap (((j+1:Nat):Int) - 1))=au j:=by rw[f]
    have n: (⟨0,5,true,false,some (((L'.map an.v).set ((j+1:Nat):Int).toNat y.v).set (IntKind.i64.wrap (((j+1:Nat):Int) - 1)).toNat x.v)⟩:Obj)=⟨0,5,true,false,some (((L'.set (j+1) y).set j x).map an.v)⟩:=by rw[f,akl,akl];rfl
    (refine⟨?_,?_⟩ <;>repeat' (first| exact True.intro| refine And.intro (m) ?_| refine And.intro (n) ?_| refine ai ?_| refine And.intro ?_ ?_))
   refine aR.mk (i+1,L') om ⟨om,om,k2,k3⟩ su
  conv=>whnf
  repeat' (first| intro g| refine st ?_| refine br ?_ ?_<;>intro hc| rfl) <;>conv=>whnf
  refine aR.mk (i+1,L') om ⟨om,om,k2,k3⟩ su
 exact⟨L,h2,h3,rfl⟩
end
theorem N6 (a b:IL): ∃r:Int,alH 709 [a.v,b.v] (vi r):=dJ (g:=vi) (Ev.cg rfl rfl rfl (by
 obtain⟨a,ha⟩:=a;obtain⟨b,hb⟩:=b;unfold IL.v;dsimp only;conv=>whnf
 repeat' (first| intro g| refine st ?_| refine br ?_ ?_<;>intro hc| rfl) <;>conv=>whnf
 refine aO.by (fun i:Nat=> ⟨[(0,.lit 1 (a.map vi)),(1,.lit 1 (b.map vi)),(9,.lit 1 (a.map vi)),(10,au a.length),(11,au i)],[]⟩) (fun i=>i<=a.length) (fun i=>a.length - i) 0 su ajk ?_
 intro i hi;by_cases c:i<a.length
 .obtain⟨x,hx⟩: ∃x,a[i]? =some x:=⟨_,aM c⟩;by_cases d:i<b.length
  .obtain⟨y,hy⟩: ∃x,b[i]? =some x:=⟨_,aM d⟩;have hc:=eJ x y;conv=>whnf
   repeat' (first| intro g| refine wi (aw hx rfl) ?_| refine wi (aw hy rfl) ?_| apply ca hc| refine st ?_| refine br ?_ ?_<;>intro hc| rfl) <;>conv=>whnf
   all_goals first| exact⟨_,rfl⟩ | exact aR.mk (i+1) om ajk su
  exact dr
 .conv=>whnf
  repeat' (first| intro g| refine st ?_| refine br ?_ ?_<;>intro hc| rfl) <;>conv=>whnf
  all_goals exact⟨_,rfl⟩))
theorem bitsLen: ∀n,n< 13-> ∃k:Int,alH 40 [.int .u64 (n:Nat)] (vi k):=by
 have key: (List.range 13).all (fun n=>match call E 100 40 [.int .u64 (n:Nat)] with
  | some ⟨.int .i64 k,[]⟩=>true
  | _=>false)=true:=ajn
 intro n hn;have h:=ajx.1 key n (by simpa using hn);split at h
 .rename_i k a;exact⟨k,⟨100,a⟩⟩
 simp at h
theorem N7 {l:List IL} (b:l.length<=12): ∃a:List IL,a.length=l.length/\(∀x ∈ a,x ∈ l)/\Ev E 708 [.msl 1 (l.map IL.v) 0 l.length,.fn 709 []] ⟨.tuple [],[(0,a.map IL.v)]⟩:=by
 obtain⟨c,fa⟩:=sk2 N6;have hm:bu E 709=[]:=rfl;obtain⟨a,h1,h2,h3⟩:=N4 hm fa (l0:=l) ajk (akk _) (ajw _);refine⟨a,h1,h2,?_⟩;obtain⟨k,hb⟩:=bitsLen l.length ajk;have e0:IntKind.i64.wrap ((l.length:Int) - 0)=l.length:=wt;have h4:Ev E 711 [.msl 1 (l.map IL.v) 0 l.length,vi 0,au l.length,vi k,.fn 709 []] ⟨.tuple [],[(0,a.map IL.v)]⟩:=by
  refine amM ?_;conv=>whnf
  repeat' (first| intro g| refine st ?_| refine br ?_ ?_<;>intro hc| rfl) <;>conv=>whnf
  refine aO.by (fun (_:Unit)=> ⟨[(0,.sl 0 0 0 l.length),(1,vi 0),(2,au l.length),(3,vi k),(4,.fn 709 []),(10,.bool true),(11,.bool true)],[(0,⟨0,1,true,false,some (l.map IL.v)⟩)]⟩)
   (fun _=>True) (fun _=>0) () su trivial ?_
  rintro _ _;conv=>whnf
  repeat' (first| intro g| refine nd ⟨rfl,rfl,rfl,ajl,IL.aV _⟩ ?_| refine nd ⟨rfl,rfl,IL.aV _⟩ ?_| apply ca h3| refine st ?_| refine br ?_ ?_<;>intro hc| rfl) <;>conv=>whnf
 have hw:IntKind.u64.wrap (l.length:Int)=l.length:=by simp[IntKind.wrap,IntKind.bits,IntKind.signed];omega
 have d:alH 40 [.int .u64 (IntKind.u64.wrap (l.length:Int))] (vi k):=by rw[hw];exact hb
 refine amM ?_;conv=>whnf
 repeat' (first| intro g| refine nd ⟨rfl,rfl,rfl,ajl,IL.aV _⟩ ?_| refine nd ⟨rfl,rfl,IL.aV _⟩ ?_| apply ca d| apply ca h4| refine st ?_| refine br ?_ ?_<;>intro hc| rfl) <;>conv=>whnf
theorem Kt: ∀ {es:List V},es.all jG=true->es.all V.isTuple=true
 | [],_=>rfl
 | e::es,h=>by simp only[ajM,ajt] at h;obtain⟨k,v,rfl,_⟩:=Mt h.1;simp only[ajM,Kt h.2,aj9];rfl
def Y9 (n:Nat) (res:fu):Prop:= ∃a:List (List Int),a.length<=n/\(∀g ∈ a,g.length<=n)/\res=⟨.own 1 (a.map fun g=> .lit 1 (g.map vi)),[]⟩
theorem X1 {n:Nat} (hn:n< 1000000): ∀H:List (Nat×List Int),(∀p ∈ H,p.2.length<=n)-> ∃a:List IL,H.map NT=a.map IL.v/\a.length=H.length/\ ∀x ∈ a,x.l.length<=n
 | [],_=> ⟨[],rfl,rfl,ajl⟩
 | p::H,h=>by
   obtain⟨a,h1,h2,h3⟩:=X1 hn H (fun q b=>h q (by simp[b]));have hp:=h p ajl;refine⟨⟨p.2,ajk⟩::a,by rw[List.map_cons,List.map_cons,h1];rfl,by simp[h2],fun x hx=> ?_⟩;rcases ajy.1 hx with rfl| hx
   .exact hp
   exact h3 x hx
theorem N8 {ws:List bH} (hw:ws.length<=12) (hl: ∀w ∈ ws,0 <w.line.length/\w.line.length< 1000): ∃res,Ev E 704 [.lit 8 (ws.map bH.v)] res/\Y9 12 res:=by
 refine amN ?_;conv=>whnf
 repeat' (first| intro g| refine st ?_| refine br ?_ ?_<;>intro hc| rfl) <;>conv=>whnf
 rename_i N9 Ku;refine aO.by (fun ((i,es):Nat×List V)=> ⟨[(0,.lit 8 (ws.map bH.v)),(2,.sl 49 N9 0 0),(4,.bfn 706 [.agg [.mp 304 Ku]]),(5,.bfn 707 [.agg [.mp 304 Ku]]),(24,.lit 8 (ws.map bH.v)),(25,au ws.length),(26,au i)],[(49,⟨N9,1,true,false,some []⟩),(304,⟨Ku,0,false,false,some es⟩)]⟩)
  (fun (i,es)=>i<=ws.length/\UF (i+1) es) (fun (i,_)=>ws.length - i) (0,[]) su ⟨ajl,UF.nil⟩ ?_
 rintro⟨i,es⟩ ⟨hi,hu⟩
 try dsimp only at hi hu
 by_cases f:i<ws.length
 .obtain⟨w,hx⟩: ∃x,ws[i]? =some x:=⟨_,aM f⟩;obtain⟨p,q,hp⟩:=WLn.ex (hl w (List.mem_of_getElem? hx)).1 (hl w (List.mem_of_getElem? hx)).2;have hs:=Bt hp;have ht:=Kt hu.se;obtain⟨es',s,D0⟩:=hu.join ajk (Bq p w.level) (Bq q w.level);conv=>whnf
  repeat' (first| intro g| refine wi (aw hx rfl) ?_| refine wi s ?_| apply ca hs| refine st ?_| refine br ?_ ?_<;>intro hc| rfl) <;>conv=>whnf
  exact aR.mk (i+1,es') om ⟨ajk,D0⟩ su
 obtain rfl:i=ws.length:=ajk;clear f hi;conv=>whnf
 repeat' (first| intro g| refine st ?_| refine br ?_ ?_<;>intro hc| rfl) <;>conv=>whnf
 obtain⟨Rx,m⟩: ∃x,x=g:=⟨_,rfl⟩;rw[<-m];clear m;refine aO.by (fun ((i,es,d,G,N9):Nat×List V×List V×List (Nat×List Int) ×Nat)=> ⟨[(0,.lit 8 (ws.map bH.v)),(2,.sl 49 N9 0 G.length),(5,.bfn 707 [.agg [.mp 304 Ku]]),(9,.mp 720 Rx),(45,.lit 8 (ws.map bH.v)),(46,au ws.length),(47,au i)],
   (49,⟨N9,1,true,false,some (eS 0 G)⟩):: (304,⟨Ku,0,false,false,some es⟩):: (720,⟨Rx,0,false,false,some d⟩)::ub 0 G⟩)
  (fun (i,es,d,G,_)=>i<=ws.length/\UF (ws.length+1) es/\SI G.length d/\G.length<=i/\ ∀p ∈ G,p.2.length<=i) (fun (i,_)=>ws.length - i) (0,es,[],[],N9) su ⟨ajl,hu,by simp[SI],ajl,ajl⟩ ?_
 rintro⟨i,es,d,G,N9⟩ ⟨hi,hu,ha,hG,hGl⟩
 try dsimp only at hi hu ha hG hGl
 by_cases f:i<ws.length
 .obtain⟨w,hx⟩: ∃x,ws[i]? =some x:=⟨_,aM f⟩;obtain⟨p,q,hp⟩:=WLn.ex (hl w (List.mem_of_getElem? hx)).1 (hl w (List.mem_of_getElem? hx)).2;have hs:=Bt hp;have ht:=Kt hu.se;obtain⟨_,es',hr,VQ,D0⟩:=hu.root ajk (Bq p w.level);obtain⟨M,N,O,rfl⟩:=Fo VQ;rcases QT VQ ha with⟨j,s,hg⟩ | hg
  .obtain⟨⟨c,ids⟩,e⟩: ∃x,G[j]? =some x:=⟨_,aM s⟩;have o: (eS 0 G)[((j:Nat):Int).toNat]? =some (.sl (16001488+16*(0+j)) c 0 ids.length):=s6 e;have z:lk (ub 0 G) (16001488+16*(0+j))=some ⟨c,1,true,false,some (ids.map vi)⟩:=ln e;have hlen:=hGl _ (List.mem_of_getElem? e);dsimp only at hlen;conv=>whnf
   repeat' (first| intro g| refine wi (aw hx rfl) ?_| refine wi hr ?_| refine wi hg ?_| refine wi o ?_| apply ca hs| refine st ?_| refine br ?_ ?_<;>intro hc| rfl| refine Rf (by(repeat' (first| exact gp| assumption| refine(Bu ajm).trans ?_| refine(rF ajm).trans ?_| refine(oR ajm).trans ?_))) ?_) <;>conv=>whnf
   refine aR.mk (i+1,es',d,G.set j (g,ids++[w.id]),N9) om ⟨ajk,D0,by simpa using ha,by simp;omega,?_⟩ ⟨by(repeat' (first| exact True.intro| refine ai ?_| refine And.intro ?_ ?_)),?_⟩
   .intro p hp;rcases ajT hp with h| rfl
    .have:=hGl p h;omega
    simp;omega
   refine iN ?_ (iN ?_ (iN ?_ (rG fun k p a=> ?_)))
   .show lk _ 49=some (⟨N9,1,true,false,some (eS 0 (G.set j (g,ids++[w.id])))⟩:Obj);rw[ya,List.length_append];exact gp
   .show lk _ 304=some (⟨Ku,0,false,false,some es'⟩:Obj)
    repeat' (first| exact gp| refine(Bu ajm).trans ?_| refine(rF ajm).trans ?_)
   .show lk _ 720=some (⟨Rx,0,false,false,some d⟩:Obj)
    repeat' (first| exact gp| refine(Bu ajm).trans ?_| refine(rF ajm).trans ?_)
   by_cases VL:k=j
   .   subst VL
       rw[List.getElem?_set_self ajk] at a;injection a with a;subst a;refine(oR ajm).trans ?_;show _=some (⟨g,1,true,false,some ((ids++[w.id]).map vi)⟩:Obj);rw[ajV];exact gp
   rw[ak8 (akN VL)] at a
   repeat' (first| exact ln a| refine(oR ajm).trans ?_| refine(Re ajk).trans ?_)
  obtain⟨YZ,A,Q1⟩:=QU VQ (Nat.lt_succ_self G.length) (ha.mono (Nat.le_succ _));have o: (eS 0 G++[V.nils])[((G.length:Nat):Int).toNat]? =some .nils:=by rw[ajZ,ajR (by rw[mE];exact ajw _),mE,Nat.sub_self];rfl
  have Za:=mE 0 G;conv=>whnf
  repeat' (first| intro g| refine wi (aw hx rfl) ?_| refine wi hr ?_| refine wi hg ?_| refine wi A ?_| refine wi o ?_| apply ca hs| refine st ?_| refine br ?_ ?_<;>intro hc| rfl| refine Rf (by(repeat' (first| exact gp| assumption| refine(Bu ajm).trans ?_| refine(rF ajm).trans ?_| refine(oR ajm).trans ?_))) ?_) <;>conv=>whnf
  rename_i t P;have FF: (eS 0 G++[V.nils]).set ((G.length:Nat):Int).toNat (V.sl (16001488+16*((G.length:Nat):Int).toNat) g 0 1)=eS 0 (G++[(g,[w.id])]):=by rw[ajZ,DR,List.set_append_right _ _ (by rw[mE];exact ajw _),mE,Nat.sub_self];simp[Kk]
  refine aR.mk (i+1,es',YZ,G++[(g,[w.id])],t) om ⟨ajk,D0,by simpa using Q1,by simp;omega,?_⟩ ⟨by(repeat' (first| exact True.intro| refine ai ?_| refine And.intro ?_ ?_)),?_⟩
  .intro p hp;rcases ajD.1 hp with h| h
   .have:=hGl p h;omega
   rw[ajX.1 h];simp
  refine iN ?_ (iN ?_ (iN ?_ (rG fun k p a=> ?_)))
  .show lk _ 49=some (⟨t,1,true,false,some (eS 0 (G++[(g,[w.id])]))⟩:Obj);rw[FF];exact gp
  .show lk _ 304=some (⟨Ku,0,false,false,some es'⟩:Obj)
   repeat' (first| exact gp| refine(Bu ajm).trans ?_| refine(rF ajm).trans ?_)
  .show lk _ 720=some (⟨Rx,0,false,false,some YZ⟩:Obj)
   repeat' (first| exact gp| refine(Bu ajm).trans ?_| refine(rF ajm).trans ?_)
  by_cases U2:k<G.length
  .   rw[aj2 ajk] at a
      repeat' (first| exact ln a| refine(oR ajm).trans ?_| refine(Re ajk).trans ?_)
  obtain rfl:k=G.length:=by have:=(ajp.1 a).1;simp at this;omega
  obtain rfl:p=(g,[w.id]):=by rw[ajR ajk] at a;simpa using a.symm
  rw[show 16001488+16*(0+G.length)=16001488+16*((G.length:Nat):Int).toNat from by simp]
  repeat' (first| exact gp| refine(oR ajm).trans ?_)
 obtain rfl:i=ws.length:=ajk;clear f hi;conv=>whnf
 repeat' (first| intro g| refine st ?_| refine br ?_ ?_<;>intro hc| rfl) <;>conv=>whnf
 clear hu ha;refine aO.by (fun ((i,H):Nat×List (Nat×List Int))=> ⟨[(2,.sl 49 N9 0 G.length),(95,.sl 49 N9 0 G.length),(96,au G.length),(97,au i)],(49,⟨N9,1,true,false,some (eS 0 H)⟩)::ub 0 H⟩)
  (fun (i,H)=>i<=G.length/\H.length=G.length/\ ∀p ∈ H,p.2.length<=ws.length) (fun (i,_)=>G.length - i) (0,G) ⟨by(repeat' (first| exact True.intro| refine ai ?_| refine And.intro ?_ ?_)),iN (by exact gp) (rG fun k p a=>by repeat' (first| exact ln a| refine(oR ajm).trans ?_))⟩ ⟨ajl,rfl,hGl⟩ ?_
 clear Rx d es;rintro⟨i,H⟩ ⟨hi,hH,hHl⟩
 try dsimp only at hi hH hHl
 by_cases f:i<G.length
 .obtain⟨⟨c,ids⟩,b⟩: ∃x,H[i]? =some x:=⟨_,aM ajk⟩;have o: (eS 0 H)[((i:Nat):Int).toNat]? =some (.sl (16001488+16*(0+i)) c 0 ids.length):=s6 b;have z:lk (ub 0 H) (16001488+16*(0+i))=some ⟨c,1,true,false,some (ids.map vi)⟩:=ln b;have hlen:=hHl _ (List.mem_of_getElem? b);dsimp only at hlen;have P6:=An (l:=ids) ajk;conv=>whnf
  repeat' (first| intro g| refine wi o ?_| apply ca P6| refine st ?_| refine br ?_ ?_<;>intro hc| rfl| refine Rf (by(repeat' (first| exact gp| assumption| refine(Bu ajm).trans ?_| refine(rF ajm).trans ?_| refine(oR ajm).trans ?_))) ?_) <;>conv=>whnf
  refine aR.mk (i+1,H.set i (c,eG ids)) om ⟨ajk,by simpa using hH,fun p hp=> ?_⟩ ⟨by(repeat' (first| exact True.intro| refine ai ?_| refine And.intro ?_ ?_)),?_⟩
  .rcases ajT hp with h| rfl
   .exact hHl p h
   rw[dW];exact hlen
  have B:eS 0 (H.set i (c,eG ids))=eS 0 H:=by rw[ya,dW];exact wA (s6 b)
  refine iN ?_ (rG fun k p a=> ?_)
  .show lk _ 49=some (⟨N9,1,true,false,some (eS 0 (H.set i (c,eG ids)))⟩:Obj);rw[B]
   repeat' (first| exact gp| refine(rF ajm).trans ?_)
  by_cases U2:k=i
  .subst U2;rw[List.getElem?_set_self ajk] at a;injection a with a;subst a;exact gp
  rw[ak8 (akN U2)] at a
  repeat' (first| exact ln a| refine(oR ajm).trans ?_| refine(Re ajk).trans ?_)
 obtain rfl:i=G.length:=ajk;obtain⟨C,D,F,I⟩:=X1 (n:=ws.length) ajk H hHl;rw[<-hH];conv=>whnf
 repeat' (first| intro g| refine st ?_| refine br ?_ ?_<;>intro hc| rfl) <;>conv=>whnf
 refine Rh ?_;intro r w;rw[D,<-F];obtain⟨u,J,K,L⟩:=N7 (l:=C) ajk;have Q:V.al (u.map IL.v)=true:=IL.aV _;conv=>whnf
 repeat' (first| intro g| refine nd ⟨rfl,rfl,ajl,IL.aV _⟩ ?_| refine nd ⟨rfl,rfl,IL.aV _⟩ ?_| refine wi (fC (by rw[List.length_map,J])) ?_| apply ca L| refine st ?_| refine br ?_ ?_<;>intro hc| rfl) <;>conv=>whnf
 refine⟨u.map IL.l,by rw[List.length_map];omega,fun y hy=> ?_,?_⟩
 .obtain⟨x,hx,rfl⟩:=ajL.1 hy;have:=I x (K x hx);omega
 rw[List.map_map];rfl
theorem VR {l:List bH} {g:Nat} {caps:List V} (hc:V.al caps=true) {p:bH->Bool} (hlen:l.length< 4611686018427387904)
  (hp: ∀x:bH,Ev E g (bH.v x::caps) ⟨.bool (p x),[]⟩) (hm:bu E g=[]):alH 180 [.lit 8 (l.map bH.v),.fn g caps] (vi (firstIdx p l)):=by
 exact Aq (a:=true) (fun _=>rfl) (fun _=>rfl) hc hlen hp hm
theorem Oa (w:bH) (id:Int):alH 693 [w.v,.eptr (vi id) 0] (.bool (decide (w.id=id))):=by refine amM ?_;exact dr
def gq (ws:List bH) (id:Int):Int:=firstIdx (fun w=>decide (w.id=id)) ws
theorem mZ {m:aB} (h:m.aF.length< 1000000) (id:Int):alH 683 [m.v,vi id] (vi (gq m.aF id)):=by
 have hi:=VR (l:=m.aF) (caps:=[.eptr (vi id) 0]) rfl ajk (fun x=>Oa x id) rfl;refine amM ?_;conv=>whnf
 repeat' (first| intro g| apply ca hi| refine st ?_| refine br ?_ ?_<;>intro hc| rfl) <;>conv=>whnf
 all_goals rfl
def adq:V:= .agg [vi 0,.nils,vi 0,.str [],.str [],.bool false,vi 0,vi 0]
theorem Kv {l:List bH} {i:Nat} (hi:i<l.length) (h:l.length< 1000000):Ev E 699 [.msl 8 (l.map bH.v) 0 l.length,au i,vi (IntKind.i64.wrap ((i:Int)+1))] ⟨.sl 0 0 0 (l.length - 1),[(0,(l.eraseIdx i).map bH.v++[adq])]⟩:=by
 have hw:IntKind.i64.wrap ((i:Int)+1)=((i+1:Nat):Int):=wt;rw[hw];refine amM ?_;have a:aN (l.map bH.v) (0+((i+1:Nat):Int).toNat) (l.length - ((i+1:Nat):Int).toNat)=(l.drop (i+1)).map bH.v:=by
  rw[iq];congr 1
  rw[List.take_of_length_le ajl];simp
 conv=>whnf
 repeat' (first| intro g| refine nd (by first| ((and_intros<;>first| rfl| exact bD (bD (bH.aV _) (bH.aV _)) (bY rfl) | exact iw (bD (bD (bH.aV _) (bH.aV _)) (bY rfl)) | (simp only[overwrite,aN,List.length_map,List.length_append,ajC,ajJ,akj,akH];omega) | omega)) | fail) ?_| refine wi a ?_| refine st ?_| refine br ?_ ?_<;>intro hc| rfl) <;>conv=>whnf
 obtain⟨A,x,B,rfl,hA⟩: ∃A x B,l=A++x::B/\A.length=i:=⟨l.take i,l[i],l.drop (i+1),ajl,by simp;omega⟩;have b: (A++x::B).drop (i+1)=B:=by rw[<-hA];simp[alp]
 have c: (A++x::B).eraseIdx i=A++B:=by rw[<-hA];simp[ak0]
 have d: ((i:Int).toNat - 0+((B).map bH.v).length)=A.length+B.length:=by simp;omega
 rw[b,c,d];have e: ((A.length+B.length:Nat):Int).toNat=A.length+B.length:=ajk;have f: (((A++x::B).length:Nat):Int).toNat - (A.length+B.length)=1:=by simp;omega
 have j: (A++x::B).length - 1=A.length+B.length:=ajl;rw[e,f,j];subst hA;show (⟨V.sl 0 0 0 _,[(0,_)]⟩:fu)=_;congr 3
 simp[overwrite,List.take_append,alp];rw[List.take_of_length_le ajl,ajS (by simp;omega),ajS (by simp;omega),ajS (by simp;omega),ajS (by simp;omega)];rfl
theorem zf {l:List bH} {i:Nat} (hi:i<l.length) (h:l.length< 1000000):alH 690 [.lit 8 (l.map bH.v),au i] (.own 8 ((l.eraseIdx i).map bH.v)):=by
 have h1:=pz l ajk;have h2:=Kv hi h;have hlen:l.length - 1=(l.eraseIdx i).length:=by rw[aku];simp[hi]
 have HI:Ev E 699 [.msl 8 (l.map bH.v) 0 (l.map bH.v).length,au i,vi (IntKind.i64.wrap ((i:Int)+1))] ⟨.sl 0 0 0 (l.length - 1),[(0,(l.eraseIdx i).map bH.v++[adq])]⟩:=by rw[List.length_map];exact h2
 refine amM ?_;conv=>whnf
 repeat' (first| intro g| refine wi (sW hlen) ?_| apply ca h1| apply ca HI| refine st ?_| refine br ?_ ?_<;>intro hc| rfl) <;>conv=>whnf
theorem jU {E:Env} {r:Nat} {g:Nat} {args:List V} {v v':V} {S:SS} {Q:KK} (hm:bu E g=[]) (hp:V.al args=true) (he:Ev E g args ⟨v,[]⟩) (hv: ∀ (r:Nat) (k:V->bI),fZ false r [] v k=k v') (k:Q v' S [] []):fX E (lY E r false g args) S Q:=by
 have key: ∀ (b:List V) (i:Nat) (c:List V->List Nat->List eY->bI),V.al b=true->ec (r+8) b [] i c=c b [] []:=by
  intro b;induction b with
  | nil=>intro i c _;rfl
  | cons a b d=>
    intro i c h;simp only[V.al,ajt] at h;simp only[ec,gU,h.1,cond_true,aj8];rw[d (i+1) _ h.2]
 unfold lY;rw[hm,key args 0 _ hp];refine⟨rfl,⟨⟨v,[]⟩,he,?_⟩⟩;simp only[jO,hv];exact k
def IsL (sz:Nat) (xs:List V) (v:V):Prop:=v= .own sz xs\/v= .lit sz xs
def P7 (v v':V):Prop:= ∀ (r:Nat) (k:V->bI),fZ false r [] v k=k v'
theorem Zb {m:aB} {c:Int} {e f w p:V} (h1:IsL 4 (m.aA.map aH.v) e) (h2:IsL 5 (m.ak.map aP.v) f) (h3:IsL 8 (m.aF.map bH.v) w) (h4:IsL 7 (m.ar.map aI.v) p):P7 (.tuple [.agg [e,f,w,p],vi c]) (.tuple [m.v,vi c]):=by
 rcases h1 with rfl| rfl<;>rcases h2 with rfl| rfl<;>rcases h3 with rfl| rfl<;>rcases h4 with rfl| rfl
 all_goals exact fun _ _=>rfl
theorem Zc (i:Int) (w:bH):alH 703 [vi i,w.v] (({w with id:=i}:bH).v):=by refine amM ?_;exact dr
theorem Zd (i:Int) (w:bH) (h:w.line.length< 1000000): ∃v,alH 691 [vi i,w.v] v/\P7 v w.v:=by
 have hc:=dZ w.line h
 suffices hh: ∃res,Ev E 691 [vi i,w.v] res/\ ∃v,P7 v w.v/\res=⟨v,[]⟩ by obtain⟨_,h1,v,h2,rfl⟩:=hh;exact⟨v,h1,h2⟩
 refine amN ?_;conv=>whnf
 repeat' (first| intro g| apply ca hc| refine st ?_| refine br ?_ ?_<;>intro hc| rfl) <;>conv=>whnf
 exact⟨_,fun _ _=>rfl,rfl⟩
theorem Ze (i:Int) (e:aH) (h:e.line.length< 1000000): ∃v,alH 688 [vi i,e.v] v/\P7 v e.v:=by
 have hc:=dZ e.line h
 suffices hh: ∃res,Ev E 688 [vi i,e.v] res/\ ∃v,P7 v e.v/\res=⟨v,[]⟩ by obtain⟨_,h1,v,h2,rfl⟩:=hh;exact⟨v,h1,h2⟩
 refine amN ?_;conv=>whnf
 repeat' (first| intro g| apply ca hc| refine st ?_| refine br ?_ ?_<;>intro hc| rfl) <;>conv=>whnf
 exact⟨_,fun _ _=>rfl,rfl⟩
theorem HJ {f:Nat} (hm:bu E f=[]) {P:bH->Prop} {ws:List bH} (hn:ws.length< 1000000) (a: ∀ (i:Int) w,w ∈ ws-> ∃v w',Ev E f [vi i,w.v] ⟨v,[]⟩/\P7 v (bH.v w')/\P w'):
  ∃L:List bH,L.length=ws.length/\(∀w ∈ L,P w)/\alH 689 [.lit 8 (ws.map bH.v),.fn f []] (.own 8 (L.map bH.v)):=by
 suffices hh: ∃res,Ev E 689 [.lit 8 (ws.map bH.v),.fn f []] res/\ ∃L:List bH,L.length=ws.length/\(∀w ∈ L,P w)/\res=⟨.own 8 (L.map bH.v),[]⟩ by obtain⟨_,h1,L,h2,h3,rfl⟩:=hh;exact⟨L,h2,h3,h1⟩
 have hp: ∀ (i:Int) (w:bH),V.al [vi i,w.v]=true:=fun _ _=>rfl;refine amN ?_;conv=>whnf
 repeat' (first| intro g| refine st ?_| refine br ?_ ?_<;>intro hc| rfl) <;>conv=>whnf
 refine aO.by (fun ((i,L,g):Nat×List bH×Nat)=> ⟨[(1,.fn f []),(5,.sl 97 g 0 L.length),(8,.lit 8 (ws.map bH.v)),(9,au ws.length),(10,au i)],[(97,⟨g,8,true,false,some (L.map bH.v)⟩)]⟩)
  (fun (i,L,_)=>i<=ws.length/\L.length=i/\ ∀w ∈ L,P w) (fun (i,_)=>ws.length - i) (0,[],g) su ⟨ajl,rfl,ajl⟩ ?_
 clear g;rintro⟨i,L,gl⟩ ⟨hi,hL,hP⟩
 try dsimp only at hi hL hP
 by_cases b:i<ws.length
 .obtain⟨w,hx⟩: ∃x,ws[i]? =some x:=⟨_,aM b⟩;obtain⟨v,w',h1,h2,h3⟩:=a i w (List.mem_of_getElem? hx);have Fz:=hp i w;conv=>whnf
  repeat' (first| refine jU hm Fz h1 h2 ?_| intro g| refine wi (aw hx rfl) ?_| refine st ?_| refine br ?_ ?_<;>intro hc| rfl) <;>conv=>whnf
  refine aR.mk (i+1,L++[w'],g) om ⟨ajk,by simp[hL],fun y hy=> ?_⟩ su;rcases ajD.1 hy with hy| hy
  .exact hP y hy
  rw[ajX.1 hy];exact h3
 conv=>whnf
 repeat' (first| intro g| refine st ?_| refine br ?_ ?_<;>intro hc| rfl) <;>conv=>whnf
 exact⟨L,ajk,hP,rfl⟩
def MI (es:List V):Prop:= ∀e ∈ es,∃k j:Int,e= .tuple [vi k,vi j]
theorem wF (a b:Int):tZ (vi a) (vi b)=some (a==b):=by simp[tZ]
theorem FG (k j:Int): ∀ {es:List V},MI es-> ∃es',jt (vi k) (vi j) es=some es'/\MI es'
 | [],_=> ⟨_,rfl,fun e he=> ⟨k,j,by simpa using he⟩⟩
 | e::es,h=>by
   obtain⟨b,d,rfl⟩:=h e ajl;cases c: (k==b) with
   | true=>
     refine⟨_,by simp only[jt,wF,c];rfl,fun e' a=> ?_⟩;rcases ajy.1 a with rfl| a
     .exact⟨k,j,rfl⟩
     exact h e' (by simp[a])
   | false=>
     obtain⟨es',h1,h2⟩:=FG k j (es:=es) (fun x hx=>h x (by simp[hx]));refine⟨_,by simp only[jt,wF,c,h1];rfl,fun e' a=> ?_⟩;rcases ajy.1 a with rfl| a
     .exact⟨b,d,rfl⟩
     exact h2 e' a
theorem FH (k:Int): ∀ {es:List V},MI es->cp (vi k) es=some none\/ ∃j:Int,cp (vi k) es=some (some (vi j))
 | [],_=> .inl rfl
 | e::es,h=>by
   obtain⟨b,c,rfl⟩:=h e ajl;cases a: (k==b) with
   | true=>exact .inr ⟨c,by simp only[cp,wF,a]⟩
   | false=>
     have:=FH k (es:=es) (fun x hx=>h x (by simp[hx]));simpa only[cp,wF,a] using this
theorem Kw (k:Int) {es:List V} (h:MI es): ∃j:Int,cZ false (.int .i64 0) es (vi k)= .done (vi j):=by
 rcases FH k h with e| ⟨j,e⟩
 .exact⟨0,by simp only[cZ,e];rfl⟩
 exact⟨j,by simp only[cZ,e];rfl⟩
theorem VS (k:Int) {es:List V} (h:MI es): ∃ (j:Int) (b:Bool),cZ true (.int .i64 0) es (vi k)= .done (.tuple [vi j,.bool b]):=by
 rcases FH k h with e| ⟨j,e⟩
 .exact⟨0,false,by simp only[cZ,e];rfl⟩
 exact⟨j,true,by simp only[cZ,e];rfl⟩
theorem Ao: ∀ {es:List V},MI es->V.al es=true
 | [],_=>rfl
 | e::es,h=>by obtain⟨k,j,rfl⟩:=h e ajl;have:=Ao (es:=es) (fun x hx=>h x (by simp[hx]));simp only[V.al,this,aj9];rfl
theorem Rz: ∀ {es:List V},MI es->es.all V.isTuple=true
 | [],_=>rfl
 | e::es,h=>by obtain⟨k,j,rfl⟩:=h e ajl;have:=Rz (es:=es) (fun x hx=>h x (by simp[hx]));simp only[ajM,this,aj9];rfl
def oT (w:bH):Prop:=0 <w.line.length/\w.line.length< 1000
theorem BA {ws:List bH} (hn:ws.length<=12) (hl: ∀w ∈ ws,oT w): ∃es,MI es/\alH 698 [.lit 8 (ws.map bH.v)] (.mlit es):=by
 suffices hh: ∃res,Ev E 698 [.lit 8 (ws.map bH.v)] res/\ ∃es,MI es/\res=⟨.mlit es,[]⟩ by obtain⟨_,h1,es,h2,rfl⟩:=hh;exact⟨es,h2,h1⟩
 obtain⟨L,l,b,h1⟩:=HJ (f:=703) rfl (P:=oT) (ws:=ws) ajk (fun i w hw=> ⟨_,_,Zc i w,fun _ _=>rfl,hl w hw⟩);obtain⟨_,h2,a,P8,Kx,rfl⟩:=N8 (ws:=L) ajk b;have c: ∀ (i:Nat) (g:List Int),a[i]? =some g->g.length<=12:=fun i g h=>Kx g (List.mem_of_getElem? h);refine amN ?_;conv=>whnf
 repeat' (first| intro g| apply ca h1| apply ca h2| refine st ?_| refine br ?_ ?_<;>intro hc| rfl) <;>conv=>whnf
 obtain⟨gm,FI⟩: ∃x,x=g:=⟨_,rfl⟩;rw[<-FI];clear FI g;refine aO.by (fun ((i,es):Nat×List V)=> ⟨[(3,.mp 160 gm),(13,.lit 1 (a.map fun g=>V.lit 1 (g.map vi))),(14,au a.length),(15,au i)],[(160,⟨gm,0,false,false,some es⟩)]⟩)
  (fun (i,es)=>i<=a.length/\MI es) (fun (i,_)=>a.length - i) (0,[]) su ⟨ajl,by simp[MI]⟩ ?_
 rintro⟨i,es⟩ ⟨hi,he⟩
 try dsimp only at hi he
 by_cases e:i<a.length
 .obtain⟨x,hx⟩: ∃x,a[i]? =some x:=⟨_,aM e⟩;have U3:=c i x hx;conv=>whnf
  repeat' (first| intro g| refine wi (aw hx rfl) ?_| refine st ?_| refine br ?_ ?_<;>intro hc| rfl) <;>conv=>whnf
  refine aO.by (fun ((k,es):Nat×List V)=> ⟨[(3,.mp 160 gm),(5,au i),(13,.lit 1 (a.map fun g=>V.lit 1 (g.map vi))),(14,au a.length),(15,au i),(20,.lit 1 (x.map vi)),(21,au x.length),(22,au k)],[(160,⟨gm,0,false,false,some es⟩)]⟩)
   (fun (k,es)=>k<=x.length/\MI es) (fun (k,_)=>x.length - k) (0,es) su ⟨ajl,he⟩ ?_
  clear he;rintro⟨k,C1⟩ ⟨hk,he⟩
  try dsimp only at hk he
  by_cases U4:k<x.length
  .obtain⟨y,hy⟩: ∃z,x[k]? =some z:=⟨_,aM U4⟩;obtain⟨es',hp,j⟩:=FG y (i:Int) he;conv=>whnf
   repeat' (first| intro g| refine wi (aw hy rfl) ?_| refine wi hp ?_| refine st ?_| refine br ?_ ?_<;>intro hc| rfl) <;>conv=>whnf
   exact aR.mk (k+1,es') om ⟨ajk,j⟩ su
  conv=>whnf
  repeat' (first| intro g| refine st ?_| refine br ?_ ?_<;>intro hc| rfl) <;>conv=>whnf
  exact aR.mk (i+1,C1) om ⟨ajk,he⟩ su
 have hp:=Ao he;have ht:=Rz he;have d: (V.mlit es).az=true:=by simp only[V.az];exact hp
 conv=>whnf
 repeat' (first| intro g| refine st ?_| refine br ?_ ?_<;>intro hc| rfl) <;>conv=>whnf
 simp only[d];conv=>whnf
 repeat' (first| intro g| refine st ?_| refine br ?_ ?_<;>intro hc| rfl) <;>conv=>whnf
 exact⟨es,he,rfl⟩
theorem zg {ws:List bH} {n:Nat} (j:n<ws.length) (hn:ws.length<=12) (hl: ∀w ∈ ws,oT w): ∃b:Bool,alH 685 [.lit 8 (ws.map bH.v),au n] (.bool b):=by
 obtain⟨k,m,h1⟩:=BA hn hl;have h2:=zf j ajk;have hlen: (ws.eraseIdx n).length=ws.length - 1:=by rw[aku];simp[j]
 obtain⟨o,e,h3⟩:=BA (ws:=ws.eraseIdx n) ajk (fun w hw=>hl w (ale hw));obtain⟨os,f⟩: ∃x,ws.eraseIdx n=x:=⟨_,rfl⟩;rw[f] at h2 h3;have t:=Ao m;have u:=Ao e;have y: (V.mlit k).az=true:=by simp only[V.az];exact t
 have z: (V.mlit o).az=true:=by simp only[V.az];exact u
 have hm:bu E 698=[]:=rfl;have hp: ∀l:List V,V.al [.lit 8 l]=true:=fun _=>rfl;refine dJ (amN ?_);conv=>whnf
 repeat' (first| (first| refine gY hm (hp _) h1 y ?_| refine gY hm (hp _) h3 z ?_) | intro g| apply ca h2| refine st ?_| refine br ?_ ?_<;>intro hc| rfl) <;>conv=>whnf
 obtain⟨gm,FI⟩: ∃x,x=g:=⟨_,rfl⟩;rw[<-FI];clear FI g;refine aO.by (fun ((i,es):Nat×List V)=> ⟨[(1,au n),(5,.mlit k),(6,.mlit o),(7,.mp 304 gm),(20,au ws.length),(21,au i)],[(304,⟨gm,0,false,false,some es⟩)]⟩)
  (fun (i,es)=>i<=ws.length/\MI es) (fun (i,_)=>ws.length - i) (0,[]) su ⟨ajl,by simp[MI]⟩ ?_
 rintro⟨i,es⟩ ⟨hi,he⟩
 try dsimp only at hi he
 by_cases D:i<ws.length
 case neg=>
  conv=>whnf
  repeat' (first| intro g| refine st ?_| refine br ?_ ?_<;>intro hc| rfl) <;>conv=>whnf
  exact⟨_,rfl⟩
 obtain⟨h,p⟩:=Kw (i:Int) m;obtain⟨F,A,q⟩:=VS h he;obtain⟨B,a⟩:=Kw (i:Int) e;obtain⟨C,c⟩:=Kw (IntKind.i64.wrap ((i:Int) - 1)) e;obtain⟨r,Fz,d⟩:=FG h B he;obtain⟨s,FA,X2⟩:=FG h C he;cases A
 .conv=>whnf
  repeat' (first| intro g| refine wi p ?_| refine wi q ?_| refine wi a ?_| refine wi c ?_| refine wi Fz ?_| refine wi FA ?_| refine st ?_| refine br ?_ ?_<;>intro hc| rfl) <;>conv=>whnf
  all_goals first| exact⟨_,rfl⟩ | (refine aR.mk (i+1,r) om ⟨ajk,d⟩ ?_;exact su;done) | (refine aR.mk (i+1,s) om ⟨ajk,X2⟩ ?_;exact su;done) | (refine aR.mk (i+1,es) om ⟨ajk,he⟩ ?_;exact su;done)
 conv=>whnf
 repeat' (first| intro g| refine wi p ?_| refine wi q ?_| refine wi a ?_| refine wi c ?_| refine wi Fz ?_| refine wi FA ?_| refine st ?_| refine br ?_ ?_<;>intro hc| rfl) <;>conv=>whnf
 all_goals first| exact⟨_,rfl⟩ | (refine aR.mk (i+1,r) om ⟨ajk,d⟩ ?_;exact su;done) | (refine aR.mk (i+1,s) om ⟨ajk,X2⟩ ?_;exact su;done) | (refine aR.mk (i+1,es) om ⟨ajk,he⟩ ?_;exact su;done)
structure xI where
 x:Int
 y:Int
 l:Int
def xI.v (s:xI):V:= .agg [vi s.x,vi s.y,vi s.l]
theorem RA {l:List xI} {g:Nat} {caps:List V} (hc:V.al caps=true) {p:xI->Bool} (hlen:l.length< 4611686018427387904)
  (hp: ∀x:xI,Ev E g (xI.v x::caps) ⟨.bool (p x),[]⟩) (hm:bu E g=[]):alH 694 [.lit 3 (l.map xI.v),.fn g caps] (.bool (decide (0<=firstIdx p l))):=by
 exact BH (a:=true) (j:=701) (fun _=>rfl) (fun _=>rfl) hc hlen hp hm
theorem HK (l:List xI) (hlen:l.length< 4611686018427387904) (s:xI): ∃r:Int,alH 702 [.lit 3 (l.map xI.v),s.v] (vi r):=dJ (g:=vi) (Ev.cg rfl rfl rfl (by
 conv=>whnf
 repeat' (first| intro g| refine st ?_| refine br ?_ ?_<;>intro hc| rfl) <;>conv=>whnf
 refine aO.by (fun i:Nat=> ⟨[(0,.lit 3 (l.map xI.v)),(3,.ptr 64 g 0 0),(7,au l.length),(8,au i)],[(64,⟨g,3,false,false,some [s.v]⟩)]⟩) (fun i=>i<=l.length) (fun i=>l.length - i) 0 su ajk ?_
 intro i hi;by_cases a:i<l.length
 .obtain⟨x,hx⟩: ∃x,l[i]? =some x:=⟨_,aM a⟩;conv=>whnf
  repeat' (first| intro g| refine wi (aw hx rfl) ?_| refine st ?_| refine br ?_ ?_<;>intro hc| rfl) <;>conv=>whnf
  .exact⟨_,rfl⟩
  exact aR.mk (i+1) om ajk su
 .conv=>whnf
  repeat' (first| intro g| refine st ?_| refine br ?_ ?_<;>intro hc| rfl) <;>conv=>whnf
  exact⟨_,rfl⟩))
theorem HL (l:List xI) (hlen:l.length< 4611686018427387904) (s:xI): ∃r:Bool,alH 697 [.lit 3 (l.map xI.v),s.v] (.bool r):=by
 obtain⟨r,h⟩:=HK l hlen s;refine dJ (amN ?_);conv=>whnf
 repeat' (first| intro g| apply ca h| refine st ?_| refine br ?_ ?_<;>intro hc| rfl) <;>conv=>whnf
 exact⟨_,rfl⟩
def HM (w:bH):List xI:=match w.line[0]?,w.line[w.line.length - 1]? with
 | some p,some q=> [⟨p.x,p.y,w.level⟩,⟨q.x,q.y,w.level⟩]
 | _,_=> []
theorem D1 {w:bH} (h:oT w):alH 695 [w.v] (.own 3 ((HM w).map xI.v)):=by obtain⟨p,q,hp⟩:=WLn.ex h.1 h.2;have:=Bt hp;unfold HM;rw[hp.first,hp.last];exact this
theorem HN (w:bH): (HM w).length< 1000:=by unfold HM;split<;>simp
theorem HO {u:bH} (h:oT u) (s:xI): ∃r:Bool,alH 696 [s.v,.eptr u.v 0] (.bool r):=by
 have h1:=D1 h;obtain⟨r,h2⟩:=HL (HM u) (by have:=HN u;omega) s;generalize HM u=l at h1 h2;refine dJ (amN ?_);conv=>whnf
 repeat' (first| intro g| apply ca h1| apply ca h2| refine st ?_| refine br ?_ ?_<;>intro hc| rfl) <;>conv=>whnf
 exact⟨_,rfl⟩
theorem BB {w u:bH} (hw:oT w) (a:oT u): ∃r:Bool,alH 684 [w.v,u.v] (.bool r):=by
 have h1:=D1 hw;obtain⟨p,hp⟩:=sk1 (HO a);have h2:=RA (l:=HM w) (caps:=[.eptr u.v 0]) rfl (by have:=HN w;omega) hp rfl;generalize HM w=l at h1 h2;refine dJ (amN ?_);conv=>whnf
 repeat' (first| intro g| apply ca h1| apply ca h2| refine st ?_| refine br ?_ ?_<;>intro hc| rfl) <;>conv=>whnf
 exact⟨_,rfl⟩
def TI (es:List V):Prop:= ∀e ∈ es,∃ (d:Int) (n:uS) (c:Int),e= .tuple [.agg [vi d,.str n],vi c]
theorem BC: ∀ {es:List V},TI es->es.all (Hj [1,2])=true
 | [],_=>rfl
 | e::es,h=>by obtain⟨d,n,c,rfl⟩:=h e ajl;have:=BC (es:=es) (fun x hx=>h x (by simp[hx]));simp only[ajM,this,aj9];rfl
theorem HP (d d':Int) (n a:uS):dj [1,2] (.agg [vi d,.str n]) (.agg [vi d',.str a])=some ((d==d') &&decide (n=a)):=by simp[dj,df,JK]
theorem D2 {ks:List Nat} {k:V} {es:List V} {j:Nat} {v:V} (h:dB ks k 0 es=some (some (j,v))): (match dB ks k 0 es with
 | some (some (a,v'))=> (V.tuple [v,.int .i64 j],es)=(V.tuple [v',.int .i64 a],es)
 | some none=> (V.tuple [v,.int .i64 j],es)=(V.tuple [.int .i64 0,.int .i64 es.length],es++[.tuple [k,.int .i64 0]])
 | none=>False):=by rw[h]
theorem MF {ks:List Nat} {k:V} {es:List V} (h:dB ks k 0 es=some none): (match dB ks k 0 es with
 | some (some (a,v'))=> (V.tuple [.int .i64 0,.int .i64 es.length],es++[.tuple [k,.int .i64 0]])=(V.tuple [v',.int .i64 a],es)
 | some none=> (V.tuple [.int .i64 0,.int .i64 es.length],es++[.tuple [k,.int .i64 0]])=(V.tuple [.int .i64 0,.int .i64 es.length],es++[.tuple [k,.int .i64 0]])
 | none=>False):=by rw[h]
theorem wG {es:List V} {j:Nat} {k w v:V} (h:es[((j:Nat):Int).toNat]? =some (.tuple [k,w])): ∃k' w',es[((j:Nat):Int).toNat]? =some (.tuple [k',w'])/\es.set ((j:Nat):Int).toNat (.tuple [k,v])=es.set ((j:Nat):Int).toNat (.tuple [k',v]):=⟨k,w,h,rfl⟩
theorem D3 {m:aB} {id:Int} (hw:m.aF.length< 1000000) (h:gq m.aF id= -1):alH 676 [m.v,vi id] (vi 5):=by have h1:=mZ hw id;rw[h] at h1;refine amM ?_;exact dr
theorem Ev.fM {f:Nat} {c:List V} {r s:fu} (h:Ev E f c r) (k:Ev E f c s):r=s:=by obtain⟨n,h⟩:=h;obtain⟨m,k⟩:=k;have a:=dI (aj3 n m) _ _ _ h;have b:=dI (ajU n m) _ _ _ k;rw[a] at b;injection b
theorem rS {a b:Int} (h: (⟨vi a,[]⟩:fu)=⟨vi b,[]⟩):a=b:=by injection h with h;unfold vi at h;injection h
inductive U8 (m:aB):an->Prop
 | drop {t a n c:Int} (h1:alH 526 [m.v,vi a,vi n] (vi 0)) (h2:alH 527 [m.v,vi a,vi n] (vi c)) (h3:1<=t) (h4:c<=t):U8 m ⟨1,t,a,0,n⟩
 | De {t a b c:Int} (h1:alH 487 [m.v,vi a,vi b] (vi 0)) (h2:alH 489 [m.v,vi a,vi b] (vi c)) (h3:1<=t) (h4:c<=t):U8 m ⟨2,t,a,b,0⟩
 | thin {t a c:Int} (h1:alH 676 [m.v,vi a] (vi 0)) (h2:alH 678 [m.v,vi a] (vi c)) (h3:1<=t) (h4:c<=t):U8 m ⟨3,t,a,0,0⟩
 | oV {t a b c:Int} (h1:alH 8 [m.v,vi a,vi b] (vi 0)) (h2:alH 12 [m.v,vi a,vi b] (vi c)) (h3:1<=t) (h4:c<=t):U8 m ⟨4,t,a,b,0⟩
theorem U8.up {m:aB} {e:an} (h:U8 m e) {t:Int} (ht:e.at_<=t):U8 m ⟨e.kind,t,e.id,e.other,e.n⟩:=by
 cases h with
 | drop h1 h2 h3 h4=>exact .drop h1 h2 (alw h3 ht) (alw h4 ht)
 | De h1 h2 h3 h4=>exact .De h1 h2 (alw h3 ht) (alw h4 ht)
 | thin h1 h2 h3 h4=>exact .thin h1 h2 (alw h3 ht) (alw h4 ht)
 | oV h1 h2 h3 h4=>exact .oV h1 h2 (alw h3 ht) (alw h4 ht)
theorem mx1 (x:Int):1<=(if 1 <x then x else 1)/\x<=(if 1 <x then x else 1):=by split<;>omega
end Go.AM
