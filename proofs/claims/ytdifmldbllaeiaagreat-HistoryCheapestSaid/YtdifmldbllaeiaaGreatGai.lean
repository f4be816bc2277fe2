/- Texts of the proof. -/
import Derived.Test.YtdifmldbllaeiaaGreatGah
set_option maxRecDepth 20000
set_option maxHeartbeats 4000000
set_option linter.unusedSimpArgs false
set_option linter.unusedVariables false
namespace Go.AM
structure lZ where
 bB:Int
 evs:List Event
def lZ.v (h:lZ):V:= .agg [vi h.bB,.lit 5 (h.evs.map Event.v)]
structure Lab where
 id:Int
 x:Int
 y:Int
 r:Int
 text:CB
 til:Int
 deriving DecidableEq
def Lab.v (l:Lab):V:= .agg [vi l.id,vi l.x,vi l.y,vi l.r,.str l.text,vi l.til]
theorem lZ.aV (l:List lZ):V.ak (l.map lZ.v)=true:=AM.aV (fun _=>rfl) l
theorem Lab.aV (l:List Lab):V.ak (l.map Lab.v)=true:=AM.aV (fun _=>rfl) l
section
variable {α:Type} (c:α→α→Bool)
end
end Go.AM
namespace Go.AM
def aeq (e:Event):Prop:=1≤e.at_∧e.at_≤1024
theorem vw {n f:Nat} {eV:List V} {r:eL} (hf:E.hyb f=none) (h:call E n f eV=some r):eZ E (exec E n) f eV=some r:=by
 unfold call dm at h
 rw[hf] at h
 exact h
inductive pJ (d:Int):aG→Int→List Event→aG→Int→Prop
 | nil {m:aG} {b:Int}:pJ d m b [] m b
 | cons {m M m':aG} {b b':Int} {e:Event} {es:List Event} (hn:Ev E 644 [m.v,vi d,vi b] ⟨.tuple [e.v,.bool true],[]⟩) (ha:Ev E 645 [m.v,e.v] ⟨.tuple [M.v,vi 0],[]⟩) (ht:aeq e) (hb:M.Bd) (h:pJ d M e.at_ es m' b'):pJ d m b (e::es) m' b'
def Ps (d:Int) (m:aG) (b:Int):Prop:= ∃e:Event,Ev E 644 [m.v,vi d,vi b] ⟨.tuple [e.v,.bool false],[]⟩
theorem BJ (d:Int): ∀ (k:Nat) {m:aG} (b:Int) (evs:List Event),m.Bd→ ∃ (N:Nat) (r:List Event) (m':aG) (b':Int),r.length≤k∧pJ d m b r m' b'∧(r.length=k∨Ps d m' b')∧ ∀M,N≤M→gN (eZ E (exec E M)) d k m.v b (evs.map Event.v)=some ((evs++r).map Event.v)
 | 0,m,b,evs,_=> ⟨0,[],m,b,afU,.nil,.inl rfl,fun _ _=>by rw[agJ];rfl⟩
 | k+1,m,b,evs,hm=>by
   obtain⟨e,ok,⟨n1,h1⟩,iG⟩:=BI hm d b
   cases ok with
   | false=>
     refine⟨n1,[],m,b,afU,.nil,.inr ⟨e,n1,h1⟩,fun M hM=> ?_⟩
     have c1:=vw (n:=M) rfl (dO hM _ _ _ h1)
     unfold gN
     rw[show eZ E (exec E M) 644 [m.v,.int .i64 d,.int .i64 b]=_ from c1,agJ]
     rfl
   | true=>
     obtain⟨hto,aer⟩:=iG rfl
     obtain⟨M2,⟨n2,h2⟩,pF⟩:=H2 hm aer hto.2
     have Q9:kj M2.v=true:=rfl
     obtain⟨n3,r,m',b',ve,oV,VV,SE⟩:=BJ d k (m:=M2) e.at_ (evs++[e]) pF
     refine⟨max n1 (max n2 n3),e::r,m',b',by simp;omega,.cons ⟨n1,h1⟩ ⟨n2,h2⟩ hto pF oV,VV.imp_left fun h=>by simp[h],fun M hM=> ?_⟩
     have c1:=vw (n:=M) rfl (dO ae0 _ _ _ h1)
     have c2:=vw (n:=M) rfl (dO ae0 _ _ _ h2)
     have c3:=SE M ae0
     unfold gN
     rw[show eZ E (exec E M) 644 [m.v,.int .i64 d,.int .i64 b]=_ from c1]
     simp only[show Kq e.v=some e.at_ from rfl,show eZ E (exec E M) 645 [m.v,e.v]=_ from c2]
     rw[agA,ag4] at c3
     rw[if_pos Q9,if_pos trivial]
     exact c3
def zf (m:aG) (d:Int) (evs:List Event):Prop:= ∃m' b',evs.length≤200∧pJ d m 0 evs m' b'∧(evs.length=200∨Ps d m' b')
theorem Pu {m:aG} (h:m.Bd) (d:Int): ∃evs:List Event,zf m d evs∧Ev E 622 [m.v,vi d] ⟨Ed d (evs.map Event.v),[]⟩:=by
 obtain⟨N,r,m',b',h1,h2,h4,h3⟩:=BJ d 200 0 [] h
 refine⟨r,⟨m',b',h1,h2,h4⟩,N,?_⟩
 unfold call dm
 rw[show E.hyb 622=some yf from rfl]
 show yf (eZ E (exec E N)) [m.v,vi d]=_
 unfold yf
 simp only[vi]
 rw[if_pos (show kj m.v=true from rfl)]
 rw[show gN (eZ E (exec E N)) d 200 m.v 0 []=some (r.map Event.v) from h3 N (af6 _)]
 rfl
theorem Pv {m:aG} (h:m.Bd): ∃l:List Int,l.length≤1000∧Ev E 96 [m.v] ⟨.own 1 (l.map vi),[]⟩:=by
 suffices hh: ∃res,Ev E 96 [m.v] res∧ ∃l:List Int,l.length≤1000∧res=⟨.own 1 (l.map vi),[]⟩ by
  obtain⟨_,h1,l,h2,rfl⟩:=hh
  exact⟨l,h2,h1⟩
 have e1:=h.f
 have e2:=h.w
 have e3:=h.p
 refine Ev.bH rfl rfl rfl ?_
 conv=>whnf
 repeat' (first| intro g| refine st ?_| refine br ?_ ?_<;>intro hc| rfl) <;>conv=>whnf
 rename_i MH
 obtain⟨g0,Ak⟩: ∃x,x=g:=⟨_,rfl⟩
 rw[←Ak];clear Ak g
 refine aO.by (fun ((k,L,g):Nat×List Int×Nat)=> ⟨[(1,.ptr 32 MH 0 0),(3,.sl 65 g 0 L.length),(11,.lit 5 (m.al.map aX.v)),(12,ar m.al.length),(13,ar k)],[(32,⟨MH,4,false,false,some [m.v]⟩),(65,⟨g,1,true,false,some (L.map vi)⟩)]⟩)
  (fun (k,L,_)=>k≤m.al.length∧L.length≤k) (fun (k,_)=>m.al.length - k) (0,[],g0) su ⟨afU,afU⟩ ?_
 rintro⟨k,L,gl⟩ ⟨hk,hL⟩
 try dsimp only at hk hL
 by_cases bk:k<m.al.length
 ·obtain⟨x,hx⟩: ∃x,m.al[k]? =some x:=⟨_,aL bk⟩
  conv=>whnf
  repeat' (first| intro g| refine wi (av hx rfl) ?_| refine st ?_| refine br ?_ ?_<;>intro hc| rfl) <;>conv=>whnf
  exact aK.mk (k+1,L++[x.bB],g) om ⟨ae0,by simp;omega⟩ su
 conv=>whnf
 repeat' (first| intro g| refine st ?_| refine br ?_ ?_<;>intro hc| rfl) <;>conv=>whnf
 refine aO.by (fun ((k,L,g):Nat×List Int×Nat)=> ⟨[(1,.ptr 32 MH 0 0),(3,.sl 65 g 0 L.length),(24,.lit 8 (m.ways.map Way.v)),(25,ar m.ways.length),(26,ar k)],[(32,⟨MH,4,false,false,some [m.v]⟩),(65,⟨g,1,true,false,some (L.map vi)⟩)]⟩)
  (fun (k,L,_)=>k≤m.ways.length∧L.length≤36+k) (fun (k,_)=>m.ways.length - k) (0,L,gl) su ⟨afU,ae0⟩ ?_
 clear hk hL bk
 rintro⟨k,L,gl⟩ ⟨hk,hL⟩
 try dsimp only at hk hL
 by_cases bk:k<m.ways.length
 ·obtain⟨x,hx⟩: ∃x,m.ways[k]? =some x:=⟨_,aL bk⟩
  conv=>whnf
  repeat' (first| intro g| refine wi (av hx rfl) ?_| refine st ?_| refine br ?_ ?_<;>intro hc| rfl) <;>conv=>whnf
  exact aK.mk (k+1,L++[x.bB],g) om ⟨ae0,by simp;omega⟩ su
 conv=>whnf
 repeat' (first| intro g| refine st ?_| refine br ?_ ?_<;>intro hc| rfl) <;>conv=>whnf
 refine aO.by (fun ((k,L,g):Nat×List Int×Nat)=> ⟨[(1,.ptr 32 MH 0 0),(3,.sl 65 g 0 L.length),(37,.lit 7 (m.aA.map Place.v)),(38,ar m.aA.length),(39,ar k)],[(32,⟨MH,4,false,false,some [m.v]⟩),(65,⟨g,1,true,false,some (L.map vi)⟩)]⟩)
  (fun (k,L,_)=>k≤m.aA.length∧L.length≤48+k) (fun (k,_)=>m.aA.length - k) (0,L,gl) su ⟨afU,ae0⟩ ?_
 clear hk hL bk
 rintro⟨k,L,gl⟩ ⟨hk,hL⟩
 try dsimp only at hk hL
 by_cases bk:k<m.aA.length
 ·obtain⟨x,hx⟩: ∃x,m.aA[k]? =some x:=⟨_,aL bk⟩
  conv=>whnf
  repeat' (first| intro g| refine wi (av hx rfl) ?_| refine st ?_| refine br ?_ ?_<;>intro hc| rfl) <;>conv=>whnf
  exact aK.mk (k+1,L++[x.bB],g) om ⟨ae0,by simp;omega⟩ su
 have h1:=xL (l:=L) ae0
 have h2:=yM (S:=ed L) (by rw[dx];omega)
 rw[dx] at h2
 have hp:=dq L
 have Hi:=dq (ed L)
 have Hj:=dq (ec (ed L))
 conv=>whnf
 repeat' (first| intro g| refine nd ⟨rfl,rfl,rfl,by simp[dx],dq _⟩ ?_| refine nd (vt _) ?_| apply ca h1| apply ca h2| refine st ?_| refine br ?_ ?_<;>intro hc| rfl) <;>conv=>whnf
 refine⟨((ec (ed L)).drop 0).take (jj (ed L)).length,?_,by rw[fX]⟩
 have:=NQ L
 unfold Hv at this
 rw[agz]
 omega
theorem SF {m:aG} (h:m.Bd): ∃ (ds:List Int) (l:List lZ),Ev E 96 [m.v] ⟨.own 1 (ds.map vi),[]⟩∧ds.length≤1000∧l.map lZ.bB=ds∧(∀x ∈ l,zf m x.bB x.evs)∧Ev E 607 [m.v] ⟨.own 2 (l.map lZ.v),[]⟩:=by
 obtain⟨ds,hd,h1⟩:=Pv h
 suffices hh: ∃res,Ev E 607 [m.v] res∧ ∃l:List lZ,l.map lZ.bB=ds∧(∀x ∈ l,zf m x.bB x.evs)∧res=⟨.own 2 (l.map lZ.v),[]⟩ by
  obtain⟨_,h2,l,h3,h4,rfl⟩:=hh
  exact⟨ds,l,h1,hd,h3,h4,h2⟩
 have hm:bC E 622=[]:=rfl
 have hp: ∀x,V.ak [m.v,vi x]=true:=fun _=>rfl
 refine Ev.bH rfl rfl rfl ?_
 conv=>whnf
 repeat' (first| intro g| apply ca h1| refine st ?_| refine br ?_ ?_<;>intro hc| rfl) <;>conv=>whnf
 rename_i MH
 obtain⟨g0,Ak⟩: ∃x,x=g:=⟨_,rfl⟩
 rw[←Ak];clear Ak g
 refine aO.by (fun ((k,l,gl):Nat×List lZ×Nat)=> ⟨[(1,.ptr 32 MH 0 0),(2,.sl 49 gl 0 l.length),(6,.lit 1 (ds.map vi)),(7,ar ds.length),(8,ar k)],[(32,⟨MH,4,false,false,some [m.v]⟩),(49,⟨gl,2,true,false,some (l.map lZ.v)⟩)]⟩)
  (fun (k,l,_)=>k≤ds.length∧l.map lZ.bB=ds.take k∧ ∀x ∈ l,zf m x.bB x.evs) (fun (k,_)=>ds.length - k) (0,[],g0) su ⟨afU,afU,afU⟩ ?_
 rintro⟨k,l,gl⟩ ⟨hk,hl,tL⟩
 try dsimp only at hk hl tL
 have TX:l.length≤1000:=by
  have:=congrArg List.length hl
  simp at this;omega
 by_cases bk:k<ds.length
 ·obtain⟨x,hx⟩: ∃x,ds[k]? =some x:=⟨_,aL bk⟩
  obtain⟨es,h2,h4⟩:=Pu h x
  have xH: (l++[lZ.mk x es]).map lZ.bB=ds.take (k+1):=by
   rw[agA,hl,agD,hx];rfl
  have aes: ∀y ∈ l++[lZ.mk x es],zf m y.bB y.evs:=fun y hy=>by
   rcases agd.1 hy with hy| hy
   ·exact tL y hy
   ·rw[agW.1 hy];exact h2
  have hi:Jy (Ed x (es.map Event.v)) (lZ.mk x es).v:=by
   cases es with
   | nil=>exact fun _ _=>rfl
   | cons e es=>exact fun _ _=>rfl
  clear hl h2 tL
  conv=>whnf
  repeat' (first| refine jY hm (hp _) h4 hi ?_| intro g| refine wi (av hx rfl) ?_| refine st ?_| refine br ?_ ?_<;>intro hc| rfl) <;>conv=>whnf
  exact aK.mk (k+1,l++[lZ.mk x es],g) om ⟨ae0,xH,aes⟩ su
 ·conv=>whnf
  repeat' (first| intro g| refine st ?_| refine br ?_ ?_<;>intro hc| rfl) <;>conv=>whnf
  exact⟨l,by rw[hl,List.take_of_length_le ae0],tL,rfl⟩
end Go.AM
namespace Go.AM
theorem fQ (i j:Int): ∃p:Pt,Ev E 120 [vi i,vi j] ⟨p.v,[]⟩:=by
 refine bp (Ev.bH rfl rfl rfl ?_)
 conv=>whnf
 repeat' (first| intro g| refine st ?_| (refine dj.bW ?_;intro s) | refine br ?_ ?_<;>intro hc| rfl) <;>conv=>whnf
 exact⟨⟨_,_⟩,rfl⟩
def vx (ws:List Way) (n:Nat):Prop:=ws.length≤n∧ ∀w ∈ ws,jL w.line
theorem vx.snoc {es:List Way} {n:Nat} {e:Way} (h:vx es n) (k:jL e.line):vx (es++[e]) (n+1):=
 ⟨by have:=h.1;simp;omega,fun x hx=>by
   rcases agd.1 hx with hx| hx
   ·exact h.2 x hx
   · have:x=e:=by simpa using hx
     subst this;exact k⟩
theorem vx.mono {es:List Way} {n m:Nat} (h:vx es n) (k:n≤m):vx es m:=⟨agm h.1 k,h.2⟩
theorem pK {l:List Int} (hl:l.length< 9223372036854775808) {ws:List Way} {n:Nat} (hw:vx ws n) (hn:n< 1000) (p q:Pt) (level:Int) (a0:Nat):
  ∃res,Ev E 119 [.msl 8 (ws.map Way.v) 0 ws.length,p.v,q.v,vi level,.mptr 2 [df l a0] 0 0] res∧ ∃ (D1:List Way) (a b:Nat),vx D1 (n+1)∧res=⟨.sl 0 b 0 D1.length,[(b,D1.map Way.v),(0,[df l a])]⟩:=by
 refine Ev.bH rfl rfl rfl ?_
 have oa:=hw.1
 have nx:=fun k a (h:0 <k) (h2:k< 1000)=>cp hl k (a:=a) h ae0
 have hb:=ew (l:=l) (a:=a0) (n:=3) ae0 ae0
 have n3:=nx 3 a0 ae0 ae0
 generalize hm:dC l a0 3=many at hb n3
 have e1:IntKind.i64.wrap ((many:Int)+1)=((many+1:Nat):Int):=wt
 have Nu:IntKind.i64.wrap (41+(ws.length:Int))=41+(ws.length:Int):=wrap64 ae0 ae0
 conv=>whnf
 repeat' (first| intro g| apply ca n3| refine st ?_| (refine dj.bW ?_;intro s) | refine br ?_ ?_<;>intro hc| rfl) <;>conv=>whnf
 rename_i g6 g7 gb
 refine aO.by (fun ((k,L,a,gb):Nat×List Pt×Nat×Nat)=> ⟨[(0,.sl 0 0 0 ws.length),(4,.ptr 4 0 0 0),(6,.ptr 112 g6 0 0),(7,.ptr 128 g7 0 0),(11,.ptr 192 g 0 0),(12,ar many),(13,ar k)],
   [(0,⟨0,8,true,false,some (ws.map Way.v)⟩),(4,⟨0,2,false,false,some [df l a]⟩),(112,⟨g6,2,false,false,some [p.v]⟩),(128,⟨g7,2,false,false,some [q.v]⟩),
    (192,⟨g,8,false,false,some [.agg [vi (41+(ws.length:Int)),.sl 352 gb 0 L.length,vi level,.str [],.str [],.bool false,vi 0,vi 0]]⟩),(352,⟨gb,2,true,false,some (L.map Pt.v)⟩)]⟩)
  (fun (k,L,_,_)=>1≤k∧k≤many+1∧L.length=k) (fun (k,_)=>many+1 - k) (1,[p],aZ l a0,gb) ?_ ⟨afU,afU,afU⟩ ?_
 ·rw[Nu];exact su
 rintro⟨k,L,a,gb⟩ ⟨yN,JL,hL⟩
 try dsimp only at yN JL hL
 by_cases bk:k≤many
 ·have n17:=nx 17 a ae0 ae0
  conv=>whnf
  repeat' (first| intro g| apply ca n17| refine st ?_| (refine dj.bW ?_;intro s) | refine br ?_ ?_<;>intro hc| rfl) <;>conv=>whnf
  all_goals exact aK.mk (k+1,L++[⟨_,_⟩],aZ l a,g) om ⟨om,om,by simp[hL]⟩ su
 ·have n2:=fun a=>cp hl 2 (a:=a) ae0 ae0
  have n3:=fun a=>cp hl 3 (a:=a) ae0 ae0
  have n4:=fun a=>cp hl 4 (a:=a) ae0 ae0
  have n60:=fun a=>cp hl 60 (a:=a) ae0 ae0
  conv=>whnf
  repeat' (first| intro g| apply ca (n2 _) | apply ca (n3 _) | apply ca (n4 _) | apply ca (n60 _) | refine st ?_| (refine dj.bW ?_;intro s) | refine br ?_ ?_<;>intro hc| rfl) <;>conv=>whnf
  have hLF:jL (L++[q]):=⟨by simp;omega,by simp;omega⟩
  exact⟨ws++[⟨_,L++[q],_,_,_,_,_,_⟩],_,_,hw.snoc hLF,by
   simp only[agA,List.map_cons,ahx,List.length_append,agb,agi,List.length_map,Way.v,iy]
   rfl⟩
end Go.AM
namespace Go.AM
theorem SG {l:List Int} (hl:l.length< 9223372036854775808): ∃res,Ev E 86 [.lit 1 (l.map vi)] res∧ ∃ws:List Way,vx ws 12∧res=⟨.own 8 (ws.map Way.v),[]⟩:=by
 refine Ev.bH rfl rfl rfl ?_
 have n2:=fun a=>cp hl 2 (a:=a) ae0 ae0
 have n3:=fun a=>cp hl 3 (a:=a) ae0 ae0
 have n4:=fun a=>cp hl 4 (a:=a) ae0 ae0
 conv=>whnf
 repeat' (first| intro g| refine st ?_| (refine dj.bW ?_;intro s) | refine br ?_ ?_<;>intro hc| rfl) <;>conv=>whnf
 rename_i gd
 refine aO.by (fun ((j,ws,a,g):Nat×List Way×Nat×Nat)=> ⟨[(3,.ptr 176 gd 0 0),(4,.sl 81 g 0 ws.length),(5,ar j)],[(176,⟨gd,2,false,false,some [df l a]⟩),(81,⟨g,8,true,false,some (ws.map Way.v)⟩)]⟩)
  (fun (j,ws,_,_)=>j≤2∧vx ws (3*j)) (fun (j,_)=>2 - j) (0,[],0,g) su ⟨afU,afU,afU⟩ ?_
 rintro⟨j,ws,a,g⟩ ⟨hj,BK⟩
 try dsimp only at hj BK
 by_cases bk:j< 2
 ·conv=>whnf
  repeat' (first| intro g| refine st ?_| (refine dj.bW ?_;intro s) | refine br ?_ ?_<;>intro hc| rfl) <;>conv=>whnf
  refine aO.by (fun ((i,ws,a,g):Nat×List Way×Nat×Nat)=> ⟨[(3,.ptr 176 gd 0 0),(4,.sl 81 g 0 ws.length),(5,ar j),(6,ar i)],[(176,⟨gd,2,false,false,some [df l a]⟩),(81,⟨g,8,true,false,some (ws.map Way.v)⟩)]⟩)
   (fun (i,ws,_,_)=>i≤3∧vx ws (3*j+i)) (fun (i,_)=>3 - i) (0,ws,a,g) su ⟨afU,BK⟩ ?_
  clear BK
  rintro⟨i,ws,a,g⟩ ⟨hi,BK⟩
  try dsimp only at hi BK
  by_cases kb:i< 3
  ·obtain⟨p,hp⟩:=fQ i j
   obtain⟨q,hq⟩:=fQ (IntKind.i64.wrap ((i:Int)+1)) j
   conv=>whnf
   repeat' (first| intro g| apply ca (n2 _) | apply ca hp| apply ca hq| refine st ?_| (refine dj.bW ?_;intro s) | refine br ?_ ?_<;>intro hc| rfl) <;>conv=>whnf
   ·refine fA.ex (pK hl BK ae0 p q 0 (aZ l a)) ?_
    rintro _ ⟨D1,a',b,kK,rfl⟩
    conv=>whnf
    repeat' (first| intro g| refine st ?_| (refine dj.bW ?_;intro s) | refine br ?_ ?_<;>intro hc| rfl) <;>conv=>whnf
    exact aK.mk (i+1,D1,a',g+b) om ⟨om,kK⟩ su
   ·exact aK.mk (i+1,ws,aZ l a,g) om ⟨om,BK.mono ae0⟩ su
  ·conv=>whnf
   repeat' (first| intro g| refine st ?_| (refine dj.bW ?_;intro s) | refine br ?_ ?_<;>intro hc| rfl) <;>conv=>whnf
   exact aK.mk (j+1,ws,a,g) om ⟨om,BK.mono ae0⟩ su
 ·conv=>whnf
  repeat' (first| intro g| refine st ?_| (refine dj.bW ?_;intro s) | refine br ?_ ?_<;>intro hc| rfl) <;>conv=>whnf
  refine aO.by (fun ((i,ws,a,g):Nat×List Way×Nat×Nat)=> ⟨[(3,.ptr 176 gd 0 0),(4,.sl 81 g 0 ws.length),(7,ar i)],[(176,⟨gd,2,false,false,some [df l a]⟩),(81,⟨g,8,true,false,some (ws.map Way.v)⟩)]⟩)
   (fun (i,ws,_,_)=>i≤4∧vx ws (6+i)) (fun (i,_)=>4 - i) (0,ws,a,g) su ⟨afU,BK.mono ae0⟩ ?_
  clear BK
  rintro⟨i,ws,a,g⟩ ⟨hi,BK⟩
  try dsimp only at hi BK
  by_cases kb:i< 4
  ·by_cases afG:ws.length< 5
   ·obtain⟨p,hp⟩:=fQ i 0
    obtain⟨q,hq⟩:=fQ i 1
    conv=>whnf
    repeat' (first| intro g| apply ca (n2 _) | apply ca hp| apply ca hq| refine st ?_| (refine dj.bW ?_;intro s) | refine br ?_ ?_<;>intro hc| rfl) <;>conv=>whnf
    ·  refine fA.ex (pK hl BK ae0 p q 0 (aZ l a)) ?_
       rintro _ ⟨D1,a',b,kK,rfl⟩
       conv=>whnf
       repeat' (first| intro g| refine st ?_| (refine dj.bW ?_;intro s) | refine br ?_ ?_<;>intro hc| rfl) <;>conv=>whnf
       exact aK.mk (i+1,D1,a',g+b) om ⟨om,kK⟩ su
    ·exact aK.mk (i+1,ws,aZ l a,g) om ⟨om,BK.mono ae0⟩ su
   ·obtain⟨p00,SH⟩:=fQ 0 0
    obtain⟨p11,SJ⟩:=fQ 1 1
    obtain⟨p30,C3⟩:=fQ 3 0
    obtain⟨p21,SK⟩: ∃f:Int→Pt,∀x,Ev E 120 [vi x,vi 1] ⟨(f x).v,[]⟩:=⟨fun x=> (fQ x 1).choose,fun x=> (fQ x 1).choose_spec⟩
    conv=>whnf
    repeat' (first| intro g| apply ca (n2 _) | apply ca (n3 _) | apply ca (n4 _) | apply ca SH| apply ca SJ| apply ca C3| apply ca (SK _) | refine st ?_| (refine dj.bW ?_;intro s) | refine br ?_ ?_<;>intro hc| rfl) <;>conv=>whnf
    ·  refine fA.ex (pK hl BK ae0 _ _ _ _) ?_
       rintro _ ⟨D1,a',b,kK,rfl⟩
       conv=>whnf
       repeat' (first| intro g| apply ca (n2 _) | apply ca (n3 _) | apply ca (n4 _) | apply ca SH| apply ca SJ| apply ca C3| apply ca (SK _) | refine st ?_| (refine dj.bW ?_;intro s) | refine br ?_ ?_<;>intro hc| rfl) <;>conv=>whnf
       ·refine fA.ex (pK hl kK ae0 _ _ _ _) ?_
        rintro _ ⟨ws2,a2,b2,GR,rfl⟩
        conv=>whnf
        repeat' (first| intro g| apply ca (n2 _) | apply ca (n3 _) | apply ca (n4 _) | apply ca SH| apply ca SJ| apply ca C3| apply ca (SK _) | refine st ?_| (refine dj.bW ?_;intro s) | refine br ?_ ?_<;>intro hc| rfl) <;>conv=>whnf
        exact⟨ws2,GR.mono ae0,rfl⟩
       ·exact⟨D1,kK.mono ae0,rfl⟩
    ·  refine fA.ex (pK hl BK ae0 _ _ _ _) ?_
       rintro _ ⟨D1,a',b,kK,rfl⟩
       conv=>whnf
       repeat' (first| intro g| apply ca (n2 _) | apply ca (n3 _) | apply ca (n4 _) | apply ca SH| apply ca SJ| apply ca C3| apply ca (SK _) | refine st ?_| (refine dj.bW ?_;intro s) | refine br ?_ ?_<;>intro hc| rfl) <;>conv=>whnf
       exact⟨D1,kK.mono ae0,rfl⟩
    ·exact⟨ws,BK.mono ae0,rfl⟩
  ·obtain⟨p00,SH⟩:=fQ 0 0
   obtain⟨p11,SJ⟩:=fQ 1 1
   obtain⟨p30,C3⟩:=fQ 3 0
   obtain⟨p21,SK⟩: ∃f:Int→Pt,∀x,Ev E 120 [vi x,vi 1] ⟨(f x).v,[]⟩:=⟨fun x=> (fQ x 1).choose,fun x=> (fQ x 1).choose_spec⟩
   conv=>whnf
   repeat' (first| intro g| apply ca (n2 _) | apply ca (n3 _) | apply ca (n4 _) | apply ca SH| apply ca SJ| apply ca C3| apply ca (SK _) | refine st ?_| (refine dj.bW ?_;intro s) | refine br ?_ ?_<;>intro hc| rfl) <;>conv=>whnf
   ·refine fA.ex (pK hl BK ae0 _ _ _ _) ?_
    rintro _ ⟨D1,a',b,kK,rfl⟩
    conv=>whnf
    repeat' (first| intro g| apply ca (n2 _) | apply ca (n3 _) | apply ca (n4 _) | apply ca SH| apply ca SJ| apply ca C3| apply ca (SK _) | refine st ?_| (refine dj.bW ?_;intro s) | refine br ?_ ?_<;>intro hc| rfl) <;>conv=>whnf
    ·  refine fA.ex (pK hl kK ae0 _ _ _ _) ?_
       rintro _ ⟨ws2,a2,b2,GR,rfl⟩
       conv=>whnf
       repeat' (first| intro g| apply ca (n2 _) | apply ca (n3 _) | apply ca (n4 _) | apply ca SH| apply ca SJ| apply ca C3| apply ca (SK _) | refine st ?_| (refine dj.bW ?_;intro s) | refine br ?_ ?_<;>intro hc| rfl) <;>conv=>whnf
       exact⟨ws2,GR.mono ae0,rfl⟩
    ·exact⟨D1,kK.mono ae0,rfl⟩
   ·refine fA.ex (pK hl BK ae0 _ _ _ _) ?_
    rintro _ ⟨D1,a',b,kK,rfl⟩
    conv=>whnf
    repeat' (first| intro g| apply ca (n2 _) | apply ca (n3 _) | apply ca (n4 _) | apply ca SH| apply ca SJ| apply ca C3| apply ca (SK _) | refine st ?_| (refine dj.bW ?_;intro s) | refine br ?_ ?_<;>intro hc| rfl) <;>conv=>whnf
    exact⟨D1,kK.mono ae0,rfl⟩
   ·exact⟨ws,BK.mono ae0,rfl⟩
end Go.AM
namespace Go.AM
structure C4 where
 x:Int
 y:Int
 z:Int
def C4.v (s:C4):V:= .agg [vi s.x,vi s.y,vi s.z]
structure fk where
 id:Int
 oN:List C4
 left:Int
 right:Int
def fk.v (t:fk):V:= .agg [vi t.id,.lit 3 (t.oN.map C4.v),vi t.left,vi t.right]
theorem C4.aV (l:List C4):V.ak (l.map C4.v)=true:=AM.aV (fun _=>rfl) l
theorem fk.aV (l:List fk):V.ak (l.map fk.v)=true:=AM.aV (fun _=>rfl) l
def aam (ts:List fk):Prop:=ts.length< 1000∧ ∀t ∈ ts,t.oN.length≤5
theorem Lz {es:List Edge} {n:Nat} (he:ju es n) (hn:n< 1000): ∃res,Ev E 164 [.lit 4 (es.map Edge.v)] res∧ ∃ts:List fk,aam ts∧res=⟨.own 4 (ts.map fk.v),[]⟩:=by
 refine Ev.bH rfl rfl rfl ?_
 have rB:=he.1
 conv=>whnf
 repeat' (first| intro g| refine st ?_| refine br ?_ ?_<;>intro hc| rfl) <;>conv=>whnf
 refine aO.by (fun ((k,ts,g):Nat×List fk×Nat)=> ⟨[(0,.lit 4 (es.map Edge.v)),(3,.sl 65 g 0 ts.length),(4,ar k)],[(65,⟨g,4,true,false,some (ts.map fk.v)⟩)]⟩)
  (fun (k,ts,g)=>k≤es.length∧ts.length=k∧ ∀t ∈ ts,t.oN.length≤5) (fun (k,_)=>es.length - k) (0,[],g) su ⟨afU,afU,afU⟩ ?_
 rintro⟨k,ts,g⟩ ⟨hk,ht,hts⟩
 try dsimp only at hk ht hts
 by_cases bk:k<es.length
 ·obtain⟨e,kE⟩: ∃e,es[k]? =some e:=⟨_,aL bk⟩
  have hlf:=he.2 e (List.mem_of_getElem? kE)
  have T9:=hlf.1
  have GP:=hlf.2
  conv=>whnf
  repeat' (first| intro g| refine wi (av kE rfl) ?_| refine st ?_| refine br ?_ ?_<;>intro hc| rfl) <;>conv=>whnf
  rename_i g5
  refine aO.by (fun ((i,ss,og):Nat×List C4×Option Nat)=> ⟨[(0,.lit 4 (es.map Edge.v)),(3,.sl 65 g5 0 ts.length),(4,ar k),(5,.ptr 96 g 0 0),(6,ar i)],
   match og with
   | none=> [(65,⟨g5,4,true,false,some (ts.map fk.v)⟩),(96,⟨g,4,false,false,some [.agg [vi e.id,.nils,vi e.left,vi e.right]]⟩)]
   | some g9=> [(65,⟨g5,4,true,false,some (ts.map fk.v)⟩),(96,⟨g,4,false,false,some [.agg [vi e.id,.sl 99 g9 0 ss.length,vi e.left,vi e.right]]⟩),(99,⟨g9,3,true,false,some (ss.map C4.v)⟩)]⟩)
   (fun (i,ss,og)=>i≤e.line.length∧ss.length=i∧(og=none→ss=[])) (fun (i,_)=>e.line.length - i) (0,[],none) ?_ ⟨afU,afU,afU⟩ ?_
  ·exact su
  rintro⟨i,ss,og⟩ ⟨hi,hs,r9⟩
  try dsimp only at hi hs r9
  by_cases Fv:i<e.line.length
  ·obtain⟨x,hx⟩: ∃x,e.line[i]? =some x:=⟨_,aL Fv⟩
   have C5:Ev E 199 [x.v] ⟨.agg [vi x.x,vi x.y,vi 1],[]⟩:=qI x.x x.y
   cases og with
   | none=>
     obtain rfl:=r9 rfl
     conv=>whnf
     repeat' (first| intro g| refine wi (av kE rfl) ?_| refine wi (av hx rfl) ?_| apply ca C5| refine st ?_| refine br ?_ ?_<;>intro hc| rfl) <;>conv=>whnf
     exact aK.mk (i+1,[⟨x.x,x.y,1⟩],some g) om ⟨om,by simp at hs ⊢;omega,afU⟩ su
   | some g9=>
     conv=>whnf
     repeat' (first| intro g| refine wi (av kE rfl) ?_| refine wi (av hx rfl) ?_| apply ca C5| refine st ?_| refine br ?_ ?_<;>intro hc| rfl) <;>conv=>whnf
     exact aK.mk (i+1,ss++[⟨x.x,x.y,1⟩],some g) om ⟨om,by simp;omega,afU⟩ su
  ·cases og with
   | none=>
     obtain rfl:=r9 rfl
     simp at hs
     omega
   | some g9=>
     conv=>whnf
     repeat' (first| intro g| refine wi (av kE rfl) ?_| refine st ?_| refine br ?_ ?_<;>intro hc| rfl) <;>conv=>whnf
     refine aK.mk (k+1,ts++[⟨e.id,ss,e.left,e.right⟩],g) om ⟨om,by simp;omega,?_⟩ su
     intro t h
     rcases agd.1 h with h| h
     ·exact hts t h
     ·have:t=⟨e.id,ss,e.left,e.right⟩:=by simpa using h
      subst this;dsimp only;omega
 ·conv=>whnf
  repeat' (first| intro g| refine st ?_| refine br ?_ ?_<;>intro hc| rfl) <;>conv=>whnf
  exact⟨ts,⟨ae0,hts⟩,rfl⟩
end Go.AM
namespace Go.AM
theorem C6 {ts:List fk} (ht:aam ts) (p:Pt): ∃ (r:Int) (b:Bool),Ev E 163 [.lit 4 (ts.map fk.v),p.v] ⟨.tuple [vi r,.bool b],[]⟩:=by
 have key:=Ev.bH (R:=fun res=> ∃ (r:Int) (b:Bool),res=⟨.tuple [vi r,.bool b],[]⟩) Zu (Zv [.lit 4 (ts.map fk.v),p.v]) rfl ?_
 ·obtain⟨res,h1,r,b,rfl⟩:=key
  exact⟨r,b,h1⟩
 have C5:Ev E 199 [p.v] ⟨.agg [vi p.x,vi p.y,vi 1],[]⟩:=qI p.x p.y
 have Xt:=ht.1
 conv=>whnf
 repeat' (first| intro g| apply ca C5| apply ca (yO _ _ _) | refine st ?_| refine br ?_ ?_<;>intro hc| rfl) <;>conv=>whnf
 ·exact⟨_,_,rfl⟩
 refine aO.by (fun (k:Nat)=> ⟨[(0,.lit 4 (ts.map fk.v)),(3,.ptr 64 g 0 0),(6,ar k)],[(64,⟨g,2,false,false,some [p.v]⟩)]⟩)
  (fun k=>k≤ts.length) (fun k=>ts.length - k) 0 su om ?_
 intro k hk
 by_cases bk:k<ts.length
 ·obtain⟨t,he⟩: ∃t,ts[k]? =some t:=⟨_,aL bk⟩
  have htf:=ht.2 t (List.mem_of_getElem? he)
  conv=>whnf
  repeat' (first| intro g| refine st ?_| refine br ?_ ?_<;>intro hc| rfl) <;>conv=>whnf
  refine aO.by (fun (i:Nat)=> ⟨[(0,.lit 4 (ts.map fk.v)),(3,.ptr 64 g 0 0),(6,ar k),(7,ar i)],[(64,⟨g,2,false,false,some [p.v]⟩)]⟩)
   (fun i=>i≤t.oN.length) (fun i=>t.oN.length - i) 0 su om ?_
  intro i hi
  by_cases Fv:i<t.oN.length
  ·obtain⟨s,hs⟩: ∃s,t.oN[i]? =some s:=⟨_,aL Fv⟩
   have hb:Ev E 198 [s.v] ⟨.bool (EI s.x s.y s.z),[]⟩:=yO s.x s.y s.z
   conv=>whnf
   repeat' (first| intro g| refine wi (av he rfl) ?_| refine wi (av hs rfl) ?_| apply ca hb| refine st ?_| refine br ?_ ?_<;>intro hc| rfl) <;>conv=>whnf
   ·exact⟨_,_,rfl⟩
   ·exact aK.mk (i+1) om om su
  ·conv=>whnf
   repeat' (first| intro g| refine wi (av he rfl) ?_| refine st ?_| refine br ?_ ?_<;>intro hc| rfl) <;>conv=>whnf
   exact aK.mk (k+1) om om su
 ·conv=>whnf
  repeat' (first| intro g| refine st ?_| refine br ?_ ?_<;>intro hc| rfl) <;>conv=>whnf
  rename_i g3
  refine aO.by (fun ((k,found,a1,a2,a3,a4,a5,a6,a7):Nat×Bool×Int×Int×Int×Int×Int×Int×Int)=> ⟨[(0,.lit 4 (ts.map fk.v)),(3,.ptr 64 g3 0 0),(8,.bool found),(9,.ptr 160 g 0 0),(10,ar k)],[(64,⟨g3,2,false,false,some [p.v]⟩),(160,⟨g,7,false,false,some [.agg [vi a1,vi a2,vi a3,vi a4,vi a5,vi a6,vi a7]]⟩)]⟩)
   (fun (k,_)=>k≤ts.length) (fun (k,_)=>ts.length - k) (0,false,0,0,0,0,0,0,0) su om ?_
  rintro⟨k,found,a1,a2,a3,a4,a5,a6,a7⟩ hk
  try dsimp only at hk
  by_cases bk:k<ts.length
  ·obtain⟨t,he⟩: ∃t,ts[k]? =some t:=⟨_,aL bk⟩
   have htf:=ht.2 t (List.mem_of_getElem? he)
   conv=>whnf
   repeat' (first| intro g| refine st ?_| refine br ?_ ?_<;>intro hc| rfl) <;>conv=>whnf
   refine aO.by (fun ((j,found,a1,a2,a3,a4,a5,a6,a7):Nat×Bool×Int×Int×Int×Int×Int×Int×Int)=> ⟨[(0,.lit 4 (ts.map fk.v)),(3,.ptr 64 g3 0 0),(8,.bool found),(9,.ptr 160 g 0 0),(10,ar k),(11,ar j)],[(64,⟨g3,2,false,false,some [p.v]⟩),(160,⟨g,7,false,false,some [.agg [vi a1,vi a2,vi a3,vi a4,vi a5,vi a6,vi a7]]⟩)]⟩)
    (fun (j,_)=>j≤t.oN.length) (fun (j,_)=>t.oN.length - j) (0,found,a1,a2,a3,a4,a5,a6,a7) su om ?_
   rintro⟨j,found,a1,a2,a3,a4,a5,a6,a7⟩ hj
   try dsimp only at hj
   have e1:IntKind.i64.wrap ((j:Int)+1)=((j+1:Nat):Int):=wt
   by_cases hlj:j+1 <t.oN.length
   ·obtain⟨x,hx⟩: ∃s,t.oN[j]? =some s:=⟨_,aL ae0⟩
    obtain⟨y,hy⟩: ∃s,t.oN[j+1]? =some s:=⟨_,aL hlj⟩
    have hon:Ev E 200 [x.v,y.v,p.v] ⟨.bool (onF x.x x.y x.z y.x y.y y.z p.x p.y),[]⟩:=ZW _ _ _ _ _ _ _ _
    have aan:Ev E 201 [x.v,y.v,p.v] ⟨vi (EK x.x x.y x.z y.x y.y y.z p.x p.y),[]⟩:=HA _ _ _ _ _ _ _ _
    cases found
    ·  conv=>whnf
       repeat' (first| intro g| refine wi (av he rfl) ?_| refine wi (av hx rfl) ?_| refine wi (av hy e1) ?_| apply ca hon| apply ca aan| apply ca (Bk _ _ _ _ _ _ _ _ _ _ _ _ _ _) | refine st ?_| refine br ?_ ?_<;>intro hc| rfl) <;>conv=>whnf
       ·exact⟨_,_,rfl⟩
       ·exact aK.mk (j+1,true,y.x,y.y,y.z,x.x,x.y,x.z,t.left) om om su
       ·exact aK.mk (j+1,true,x.x,x.y,x.z,y.x,y.y,y.z,t.right) om om su
       ·exact aK.mk (j+1,false,a1,a2,a3,a4,a5,a6,a7) om om su
    ·  conv=>whnf
       repeat' (first| intro g| refine wi (av he rfl) ?_| refine wi (av hx rfl) ?_| refine wi (av hy e1) ?_| apply ca hon| apply ca aan| apply ca (Bk _ _ _ _ _ _ _ _ _ _ _ _ _ _) | refine st ?_| refine br ?_ ?_<;>intro hc| rfl) <;>conv=>whnf
       ·exact⟨_,_,rfl⟩
       ·exact aK.mk (j+1,true,y.x,y.y,y.z,x.x,x.y,x.z,t.left) om om su
       ·exact aK.mk (j+1,true,a1,a2,a3,a4,a5,a6,a7) om om su
       ·exact aK.mk (j+1,true,x.x,x.y,x.z,y.x,y.y,y.z,t.right) om om su
       ·exact aK.mk (j+1,true,a1,a2,a3,a4,a5,a6,a7) om om su
       ·exact aK.mk (j+1,true,a1,a2,a3,a4,a5,a6,a7) om om su
   ·conv=>whnf
    repeat' (first| intro g| refine wi (av he rfl) ?_| refine st ?_| refine br ?_ ?_<;>intro hc| rfl) <;>conv=>whnf
    exact aK.mk (k+1,found,a1,a2,a3,a4,a5,a6,a7) om om su
  ·conv=>whnf
   repeat' (first| intro g| refine st ?_| refine br ?_ ?_<;>intro hc| rfl) <;>conv=>whnf
   exact⟨_,_,rfl⟩
end Go.AM
namespace Go.AM
theorem VW {es:List Edge} {n:Nat} (he:ju es n) (hn:n< 1000) (p:Pt): ∃ (r:Int) (b:Bool),Ev E 121 [.lit 4 (es.map Edge.v),p.v] ⟨.tuple [vi r,.bool b],[]⟩:=by
 have key:=Ev.bH (R:=fun res=> ∃ (r:Int) (b:Bool),res=⟨.tuple [vi r,.bool b],[]⟩) Zk (Zl [.lit 4 (es.map Edge.v),p.v]) rfl ?_
 ·obtain⟨res,h1,r,b,rfl⟩:=key
  exact⟨r,b,h1⟩
 conv=>whnf
 repeat' (first| intro g| refine st ?_| refine br ?_ ?_<;>intro hc| rfl) <;>conv=>whnf
 refine fA.ex (Lz he hn) ?_
 rintro _ ⟨ts,ht,rfl⟩
 obtain⟨r,b,hr⟩:=C6 ht p
 conv=>whnf
 repeat' (first| intro g| apply ca hr| refine st ?_| refine br ?_ ?_<;>intro hc| rfl) <;>conv=>whnf
 exact⟨_,_,rfl⟩
theorem uf (m:aG) (hf:m.al.length< 1000) (id:Int): ∃r:Int,Ev E 122 [m.v,vi id] ⟨vi r,[]⟩:=by
 refine bp (Ev.bH rfl rfl rfl ?_)
 conv=>whnf
 repeat' (first| intro g| refine st ?_| refine br ?_ ?_<;>intro hc| rfl) <;>conv=>whnf
 refine aO.by (fun (k:Nat)=> ⟨[(1,vi id),(2,.ptr 48 g 0 0),(5,ar k)],[(48,⟨g,4,false,false,some [m.v]⟩)]⟩)
  (fun k=>k≤m.al.length) (fun k=>m.al.length - k) 0 su om ?_
 intro k hk
 by_cases bk:k<m.al.length
 ·obtain⟨f,hx⟩: ∃f,m.al[k]? =some f:=⟨_,aL bk⟩
  conv=>whnf
  repeat' (first| intro g| refine wi (av hx rfl) ?_| refine st ?_| refine br ?_ ?_<;>intro hc| rfl) <;>conv=>whnf
  ·exact⟨_,rfl⟩
  ·exact aK.mk (k+1) om om su
 ·conv=>whnf
  repeat' (first| intro g| refine st ?_| refine br ?_ ?_<;>intro hc| rfl) <;>conv=>whnf
  exact⟨_,rfl⟩
end Go.AM
namespace Go.AM
def aao (p:Place):Prop:=(-16384≤p.x∧p.x≤16384∧ -16384≤p.y∧p.y≤16384)∧0≤p.weight∧p.weight≤1073741824
def C7 (ps:List Place) (n:Nat):Prop:=ps.length≤n∧(∀ (i:Nat) (p:Place),ps[i]? =some p→p.id=61+(i:Int))∧ ∀p ∈ ps,aao p
theorem Ug {b a:Nat} (hb:b< 10) (ha:a< 3): -16384≤IntKind.i64.wrap (IntKind.i64.wrap (90+IntKind.i64.wrap (100*(a:Int)))+IntKind.i64.wrap (16+(b:Int)))∧IntKind.i64.wrap (IntKind.i64.wrap (90+IntKind.i64.wrap (100*(a:Int)))+IntKind.i64.wrap (16+(b:Int)))≤16384:=by
 rw[wrap64 (n:=100*(a:Int)) ae0 ae0,wrap64 (n:=90+100*(a:Int)) ae0 ae0,wrap64 (n:=16+(b:Int)) ae0 ae0,wrap64 ae0 ae0]
 omega
theorem Uh {b a:Nat} (hb:b< 10) (ha:a< 3): -16384≤IntKind.i64.wrap (IntKind.i64.wrap (90+IntKind.i64.wrap (100*(a:Int)))+IntKind.i64.wrap (0 - IntKind.i64.wrap (16+(b:Int))))∧IntKind.i64.wrap (IntKind.i64.wrap (90+IntKind.i64.wrap (100*(a:Int)))+IntKind.i64.wrap (0 - IntKind.i64.wrap (16+(b:Int))))≤16384:=by
 rw[wrap64 (n:=100*(a:Int)) ae0 ae0,wrap64 (n:=90+100*(a:Int)) ae0 ae0,wrap64 (n:=16+(b:Int)) ae0 ae0,wrap64 (n:=0 - (16+(b:Int))) ae0 ae0,wrap64 ae0 ae0]
 omega
theorem SL {a b:Nat} (ha:a< 2) (hb:b< 51): -16384≤IntKind.i64.wrap (IntKind.i64.wrap (IntKind.i64.wrap (90+IntKind.i64.wrap (100*(a:Int)))+(b:Int)) - 25)∧IntKind.i64.wrap (IntKind.i64.wrap (IntKind.i64.wrap (90+IntKind.i64.wrap (100*(a:Int)))+(b:Int)) - 25)≤16384:=by
 rw[wrap64 (n:=100*(a:Int)) ae0 ae0,wrap64 (n:=90+100*(a:Int)) ae0 ae0,wrap64 (n:=90+100*(a:Int)+(b:Int)) ae0 ae0,wrap64 ae0 ae0]
 omega
theorem aap {a:Nat} (ha:a< 60):0≤IntKind.i64.wrap (1+(a:Int))∧IntKind.i64.wrap (1+(a:Int))≤1073741824:=by
 rw[wrap64 ae0 ae0]
 omega
theorem C7.snoc {ps:List Place} {n:Nat} {p:Place} (h:C7 ps n) (k:p.id=61+(ps.length:Int)) (q:aao p):C7 (ps++[p]) (n+1):=by
 refine⟨by have:=h.1;simp;omega,fun i x hx=> ?_,fun x hx=>by
  rcases agd.1 hx with hx| hx
  ·exact h.2.2 x hx
  ·rw[agW.1 hx];exact q⟩
 by_cases hi:i<ps.length
 ·rw[agM hi] at hx
  exact h.2.1 i x hx
 ·rw[agU ae0] at hx
  have hl:i - ps.length=0:=by
   have:=(af0.1 hx).1
   simp at this;omega
  rw[hl] at hx
  obtain rfl:p=x:=by simpa using hx
  rw[k];congr 1;omega
theorem C7.mono {ps:List Place} {n m:Nat} (h:C7 ps n) (k:n≤m):C7 ps m:=⟨agm h.1 k,h.2⟩
theorem LA {l:List Int} (hl:l.length< 9223372036854775808) {m:aG} {n:Nat} (he:ju m.az n) (hn:n< 1000) (hf:m.al.length< 1000): ∃res,Ev E 87 [m.v,.lit 1 (l.map vi)] res∧ ∃ps:List Place,C7 ps 6∧res=⟨.own 7 (ps.map Place.v),[]⟩:=by
 refine Ev.bH rfl rfl rfl ?_
 have n2:=fun a=>cp hl 2 (a:=a) ae0 ae0
 have n3:=fun a=>cp hl 3 (a:=a) ae0 ae0
 have n5:=fun a=>cp hl 5 (a:=a) ae0 ae0
 have n10:=fun a=>cp hl 10 (a:=a) ae0 ae0
 have n51:=fun a=>cp hl 51 (a:=a) ae0 ae0
 have n60:=fun a=>cp hl 60 (a:=a) ae0 ae0
 have n7:=cp hl 7 (a:=0) ae0 ae0
 have hb:=ew (l:=l) (a:=0) (n:=7) ae0 ae0
 generalize dC l 0 7=many at hb n7
 have iG: ∀x y,∃rb:Int×Bool,Ev E 121 [.lit 4 (m.az.map Edge.v),.agg [vi x,vi y]] ⟨.tuple [vi rb.1,.bool rb.2],[]⟩:=by
  intro x y
  obtain⟨r,b,h⟩:=VW he hn ⟨x,y⟩
  exact⟨(r,b),h⟩
 obtain⟨fr,iG⟩: ∃f:Int→Int→Int×Bool,∀x y,Ev E 121 [.lit 4 (m.az.map Edge.v),.agg [vi x,vi y]] ⟨.tuple [vi (f x y).1,.bool (f x y).2],[]⟩:=⟨fun x y=> (iG x y).choose,fun x y=> (iG x y).choose_spec⟩
 obtain⟨fd,hd⟩: ∃f:Int→Int,∀x,Ev E 122 [m.v,vi x] ⟨vi (f x),[]⟩:=⟨fun x=> (uf m hf x).choose,fun x=> (uf m hf x).choose_spec⟩
 conv=>whnf
 repeat' (first| intro g| apply ca n7| refine st ?_| (refine dj.bW ?_;intro s) | refine br ?_ ?_<;>intro hc| rfl) <;>conv=>whnf
 rename_i g2 _ gd
 refine aO.by (fun ((k,ps,a,g):Nat×List Place×Nat×Nat)=> ⟨[(2,.ptr 48 g2 0 0),(5,.ptr 256 gd 0 0),(6,.sl 113 g 0 ps.length),(7,ar many),(8,ar k)],
   [(48,⟨g2,4,false,false,some [m.v]⟩),(256,⟨gd,2,false,false,some [df l a]⟩),(113,⟨g,7,true,false,some (ps.map Place.v)⟩)]⟩)
  (fun (k,ps,a,g)=>k≤many∧C7 ps k) (fun (k,_)=>many - k) (0,[],aZ l 0,g) su ⟨afU,afU,afU,afU⟩ ?_
 rintro⟨k,ps,a,g⟩ ⟨hk,hp⟩
 try dsimp only at hk hp
 by_cases bk:k<many
 ·have DY:=hp.1
  have Nu:IntKind.i64.wrap (61+(ps.length:Int))=61+(ps.length:Int):=wrap64 ae0 ae0
  have b10:=ew (l:=l) (a:=a) (n:=10) ae0 ae0
  have b3:=ew (l:=l) (a:=(aZ l (aZ l a))) (n:=3) ae0 ae0
  have b2:=ew (l:=l) (a:=(aZ l (aZ l (aZ l a)))) (n:=2) ae0 ae0
  have b51:=ew (l:=l) (a:=(aZ l (aZ l (aZ l (aZ l a))))) (n:=51) ae0 ae0
  have b60:=ew (l:=l) (a:=(aZ l (aZ l (aZ l (aZ l (aZ l a)))))) (n:=60) ae0 ae0
  conv=>whnf
  repeat' (first| intro g| apply ca (n2 _) | apply ca (n3 _) | apply ca (n5 _) | apply ca (n10 _) | apply ca (n51 _) | apply ca (n60 _) | apply ca (iG _ _) | apply ca (hd _) | refine st ?_| (refine dj.bW ?_;intro s) | refine br ?_ ?_<;>intro hc| rfl) <;>conv=>whnf
  ·exact aK.mk (k+1,ps++[⟨IntKind.i64.wrap (61+(ps.length:Int)),IntKind.i64.wrap (IntKind.i64.wrap (90+IntKind.i64.wrap (100*((dC l (aZ l (aZ l a)) 3:Nat):Int)))+IntKind.i64.wrap (0 - IntKind.i64.wrap (16+((dC l a 10:Nat):Int)))),IntKind.i64.wrap (IntKind.i64.wrap (IntKind.i64.wrap (90+IntKind.i64.wrap (100*((dC l (aZ l (aZ l (aZ l a))) 2:Nat):Int)))+((dC l (aZ l (aZ l (aZ l (aZ l a)))) 51:Nat):Int)) - 25),_,_,IntKind.i64.wrap (1+((dC l (aZ l (aZ l (aZ l (aZ l (aZ l a))))) 60:Nat):Int)),_⟩],_,g) om ⟨om,hp.snoc Nu ⟨⟨(Uh b10 b3).1,(Uh b10 b3).2,(SL b2 b51).1,(SL b2 b51).2⟩,aap b60⟩⟩ su
  ·exact aK.mk (k+1,ps,_,_) om ⟨om,hp.mono ae0⟩ su
  ·exact aK.mk (k+1,ps,_,_) om ⟨om,hp.mono ae0⟩ su
  ·exact aK.mk (k+1,ps++[⟨IntKind.i64.wrap (61+(ps.length:Int)),IntKind.i64.wrap (IntKind.i64.wrap (90+IntKind.i64.wrap (100*((dC l (aZ l (aZ l a)) 3:Nat):Int)))+IntKind.i64.wrap (16+((dC l a 10:Nat):Int))),IntKind.i64.wrap (IntKind.i64.wrap (IntKind.i64.wrap (90+IntKind.i64.wrap (100*((dC l (aZ l (aZ l (aZ l a))) 2:Nat):Int)))+((dC l (aZ l (aZ l (aZ l (aZ l a)))) 51:Nat):Int)) - 25),_,_,IntKind.i64.wrap (1+((dC l (aZ l (aZ l (aZ l (aZ l (aZ l a))))) 60:Nat):Int)),_⟩],_,g) om ⟨om,hp.snoc Nu ⟨⟨(Ug b10 b3).1,(Ug b10 b3).2,(SL b2 b51).1,(SL b2 b51).2⟩,aap b60⟩⟩ su
  ·exact aK.mk (k+1,ps,_,_) om ⟨om,hp.mono ae0⟩ su
  ·exact aK.mk (k+1,ps,_,_) om ⟨om,hp.mono ae0⟩ su
 ·conv=>whnf
  repeat' (first| intro g| refine st ?_| (refine dj.bW ?_;intro s) | refine br ?_ ?_<;>intro hc| rfl) <;>conv=>whnf
  exact⟨ps,hp.mono ae0,rfl⟩
end Go.AM
namespace Go.AM
theorem C8 {ls:List (List Int)} (hs:wc ls) (i:Nat) (hi:i< 1000): ∃l:List Int,l.length< 9223372036854775808∧Ev E 84 [gg ls,ar i] ⟨fP l,[]⟩:=by
 have hl:=hs.1
 by_cases h:i<ls.length
 ·obtain⟨l,hx⟩: ∃l,ls[i]? =some l:=⟨_,aL h⟩
  refine⟨l,hs.2 _ (List.mem_of_getElem? hx),?_⟩
  refine Ev.aI rfl rfl rfl ?_
  conv=>whnf
  repeat' (first| intro g| refine wi (jv hx) ?_| refine st ?_| (refine dj.bW ?_;intro s) | refine br ?_ ?_<;>intro hc| rfl) <;>conv=>whnf
 ·refine⟨[],afU,?_⟩
  refine Ev.aI rfl rfl rfl ?_
  exact dr
theorem Fw {α:Type} {f:α→V} {l:List α} {k n:Nat} (h:n=min k l.length):aF (l.map f) 0 n=(l.take k).map f:=by
 subst h
 unfold aF
 rw[List.drop_zero,←ahM,List.take_eq_take_min (i:=k)]
theorem aet {α:Type} {f:α→V} {l:List α} {k:Nat} {a b c:V} (x:α): (((((l.map f).set ((k:Int)).toNat a).set ((k:Int)).toNat b).set ((k:Int)).toNat c).set ((k:Int)).toNat (f x))=(l.set k x).map f:=by
 simp only[List.set_set,ag0,ahf]
theorem aeu (n:Nat): (if (3:Int) < (n:Int) then(3:Int) else(n:Int)).toNat=min 3 n:=by
 split<;>omega
structure aG.SM (m:aG):Prop where
 az:ju m.az 18
 al:m.al.length≤36
 ways:vx m.ways 12
 aA:C7 m.aA 6
def aG.vo (m:aG):V:= .agg [.lit 4 (m.az.map Edge.v),.lit 5 (m.al.map aX.v),.lit 8 (m.ways.map Way.v),.own 7 (m.aA.map Place.v)]
theorem LB {ls:List (List Int)} (hs:wc ls): ∃res,Ev E 77 [gg ls] res∧ ∃m:aG,aG.SM m∧res=⟨m.vo,[]⟩:=by
 refine Ev.bH rfl rfl rfl ?_
 have BL:wc (ls.take 3):=⟨by have:=hs.1;simp;omega,fun l h=>hs.2 l (agp h)⟩
 obtain⟨l3,h3,p3⟩:=C8 hs 3 ae0
 obtain⟨l4,h4,p4⟩:=C8 hs 4 ae0
 obtain⟨l5,h5,p5⟩:=C8 hs 5 ae0
 have n2:=fun a=>cp h3 2 (a:=a) ae0 ae0
 have n3:=fun a=>cp h3 3 (a:=a) ae0 ae0
 have n4:=fun a=>cp h3 4 (a:=a) ae0 ae0
 have n6:=fun a=>cp h3 6 (a:=a) ae0 ae0
 have n60:=fun a=>cp h3 60 (a:=a) ae0 ae0
 have hl:=hs.1
 conv=>whnf
 repeat' (first| intro g| refine wi (Fw (k:=3) (by rw[List.length_map];exact aeu _)) ?_| refine st ?_| (refine dj.bW ?_;intro s) | refine br ?_ ?_<;>intro hc| rfl) <;>conv=>whnf
 refine fA.ex (KA BL) ?_
 rintro _ ⟨es,fs,he,hf,rfl⟩
 conv=>whnf
 repeat' (first| intro g| apply ca p3| refine st ?_| (refine dj.bW ?_;intro s) | refine br ?_ ?_<;>intro hc| rfl) <;>conv=>whnf
 rename_i g2 g3 gf
 obtain⟨n,hn⟩: ∃n,fs.length=n:=⟨_,rfl⟩
 refine aO.by (fun ((k,fs,a):Nat×List aX×Nat)=> ⟨[(0,gg ls),(2,.ptr 48 g2 0 0),(3,.ptr 64 g3 0 0),(4,.ptr 352 g 0 0),(5,ar k)],
   [(48,⟨g2,4,false,false,some [.agg [.lit 4 [],.lit 5 [],.lit 8 [],.lit 7 []]]⟩),(64,⟨g3,4,false,false,some [.agg [.lit 4 (es.map Edge.v),.sl 232 gf 0 n,.lit 8 [],.lit 7 []]]⟩),(232,⟨gf,5,true,false,some (fs.map aX.v)⟩),(352,⟨g,2,false,false,some [df l3 a]⟩)]⟩)
  (fun (k,fs,a)=>k≤n∧fs.length=n) (fun (k,fs,_)=>n - k) (0,fs,0) (by subst hn;exact su) ⟨afU,hn⟩ ?_
 rw[hn] at hf;clear hn
 rintro⟨k,fs,a⟩ ⟨hk,mc⟩
 try dsimp only at hk mc
 by_cases bk:k<n
 ·obtain⟨f,hx⟩: ∃f,fs[k]? =some f:=⟨_,aL ae0⟩
  conv=>whnf
  repeat' (first| intro g| refine wi (kD (kD (kD (av hx rfl)))) ?_| refine wi (kD (kD (av hx rfl))) ?_| refine wi (kD (av hx rfl)) ?_| refine wi (av hx rfl) ?_| apply ca (n2 _) | apply ca (n3 _) | apply ca (n4 _) | apply ca (n6 _) | apply ca (n60 _) | refine st ?_| (refine dj.bW ?_;intro s) | refine br ?_ ?_<;>intro hc| rfl) <;>conv=>whnf
  have CP: ∀c nm w d (x y z:V),((((fs.map aX.v).set ((k:Int)).toNat x).set ((k:Int)).toNat y).set ((k:Int)).toNat z).set ((k:Int)).toNat (aX.v ⟨f.id,c,nm,w,d⟩)=(fs.set k ⟨f.id,c,nm,w,d⟩).map aX.v:=fun c nm w d x y z=>aet (f:=aX.v) _
  rename_i cl
  exact aK.mk (k+1,fs.set k ⟨f.id,cl,s,IntKind.i64.wrap (1+((dC l3 (aZ l3 (aZ l3 a)) 60:Nat):Int)),IntKind.i64.wrap (1+(IntKind.i64.wrap (((dC l3 (aZ l3 (aZ l3 (aZ l3 a))) 4:Nat):Int)*((dC l3 (aZ l3 (aZ l3 (aZ l3 (aZ l3 a)))) 2:Nat):Int))).tmod 3)⟩,(aZ l3 (aZ l3 (aZ l3 (aZ l3 (aZ l3 a)))))) om ⟨om,by simp[mc]⟩ (by(refine⟨?_,?_⟩ <;>repeat' (first| exact True.intro| refine And.intro (congrArg (fun L=> (⟨gf,5,true,false,some L⟩:Obj)) (CP cl s (IntKind.i64.wrap (1+((dC l3 (aZ l3 (aZ l3 a)) 60:Nat):Int))) (IntKind.i64.wrap (1+(IntKind.i64.wrap (((dC l3 (aZ l3 (aZ l3 (aZ l3 a))) 4:Nat):Int)*((dC l3 (aZ l3 (aZ l3 (aZ l3 (aZ l3 a)))) 2:Nat):Int))).tmod 3)) _ _ _)) ?_| refine ai ?_| refine And.intro ?_ ?_)))
 ·obtain rfl:k=n:=ae0
  conv=>whnf
  repeat' (first| intro g| apply ca p4| refine st ?_| (refine dj.bW ?_;intro s) | refine br ?_ ?_<;>intro hc| rfl) <;>conv=>whnf
  refine fA.ex (SG h4) ?_
  rintro _ ⟨ws,hw,rfl⟩
  conv=>whnf
  repeat' (first| intro g| apply ca p5| refine st ?_| (refine dj.bW ?_;intro s) | refine br ?_ ?_<;>intro hc| rfl) <;>conv=>whnf
  refine fA.ex (LA h5 (m:=⟨es,fs,ws,[]⟩) he ae0 om) ?_
  rintro _ ⟨ps,hp,rfl⟩
  conv=>whnf
  repeat' (first| intro g| refine st ?_| (refine dj.bW ?_;intro s) | refine br ?_ ?_<;>intro hc| rfl) <;>conv=>whnf
  exact⟨⟨es,fs,ws,ps⟩,⟨he,om,hw,hp⟩,rfl⟩
end Go.AM
namespace Go.AM
theorem aaq (n:Nat): (if (10:Int) < (n:Int) then(10:Int) else(n:Int)).toNat=min 10 n:=by
 split<;>omega
theorem SM.bd {m:aG} (hf:m.SM):m.Bd:=
 ⟨hf.az.1,fun e he=>by have:=(hf.az.2 e he).2;omega,hf.al,hf.ways.1,fun w hw=>by have:=hf.ways.2 w hw;exact⟨by have:=this.1;omega,by have:=this.2;omega⟩,by have:=hf.aA.1;omega⟩
theorem LC {ls:List (List Int)} (hs:wc ls): ∃m:aG,m.Bd∧Ev E 729 [gg ls] ⟨m.v,[]⟩:=by
 suffices h: ∃res,Ev E 729 [gg ls] res∧ ∃m:aG,m.Bd∧res=⟨m.v,[]⟩ by
  obtain⟨_,h1,m,h2,rfl⟩:=h
  exact⟨m,h2,h1⟩
 have aev:wc (ls.take 10):=⟨by have:=hs.1;simp;omega,fun l h=>hs.2 l (agp h)⟩
 obtain⟨_,hm,m,hf,rfl⟩:=LB aev
 have hl:=hs.1
 have hbd:=SM.bd hf
 refine Ev.bH rfl rfl rfl ?_
 obtain⟨es,fs,ws,ps⟩:=m
 unfold aG.vo at hm
 dsimp only at hm
 conv=>whnf
 repeat' (first| intro g| refine wi (Fw (k:=10) (by rw[List.length_map];exact aaq _)) ?_| apply ca hm| refine st ?_| refine br ?_ ?_<;>intro hc| rfl) <;>conv=>whnf
 all_goals exact⟨⟨es,fs,ws,ps⟩,hbd,rfl⟩
end Go.AM
namespace Go.AM
theorem pJ.head {d:Int} {m m':aG} {b b':Int} {e:Event} {es:List Event} (h:pJ d m b (e::es) m' b'): ∃M:aG,Ev E 644 [m.v,vi d,vi b] ⟨.tuple [e.v,.bool true],[]⟩∧Ev E 645 [m.v,e.v] ⟨.tuple [M.v,vi 0],[]⟩∧M.Bd∧pJ d M e.at_ es m' b':=by
 cases h with
 | cons h1 h2 h3 h4 h5=>exact⟨_,h1,h2,h4,h5⟩
theorem pJ.done {d:Int} {m m':aG} {b b':Int} (h:pJ d m b [] m' b'):m=m'∧b=b':=by
 cases h;exact⟨rfl,rfl⟩
theorem Fx (aar:Ev E 728 [] ⟨.bool true,[]⟩) {ls:List (List Int)} (hs:wc ls):Ev E 726 [gg ls] ⟨.bool true,[]⟩:=by
 obtain⟨m,hbd,Ui⟩:=LC hs
 obtain⟨ds,l,hds,hdl,hld,hch,kA⟩:=SF hbd
 have hlen:l.length=ds.length:=by rw[←hld,List.length_map]
 have ug: ((l.map lZ.v).length:Int)=(ds.map vi).length:=by simp[hlen]
 refine Ev.aI rfl rfl rfl ?_
 conv=>whnf
 repeat' (first| ((exfalso;omega)) | intro g| apply ca aar| apply ca Ui| apply ca kA| apply ca hds| refine st ?_| refine br ?_ ?_<;>intro hc| rfl) <;>conv=>whnf
 clear aar Ui kA hds
 refine aO.by (fun i:Nat=> ⟨[(3,.bool true),(4,.ptr 80 g 0 0),(5,.lit 2 (l.map lZ.v)),(6,.lit 1 (ds.map vi)),(7,ar i)],[(80,⟨g,4,false,false,some [m.v]⟩)]⟩)
  (fun i=>i≤l.length) (fun i=>l.length - i) 0 su ae0 ?_
 intro i hi
 by_cases bk:i<l.length
 case neg=>
  conv=>whnf
  repeat' (first| intro g| refine st ?_| refine br ?_ ?_<;>intro hc| rfl) <;>conv=>whnf
 obtain⟨h,hx⟩: ∃x,l[i]? =some x:=⟨_,aL bk⟩
 have hd:ds[i]? =some h.bB:=by rw[←hld,age,hx];rfl
 obtain⟨m',b',hn,np,sm⟩:=hch h (List.mem_of_getElem? hx)
 conv=>whnf
 repeat' (first| contradiction| intro g| refine wi (av hx rfl) ?_| refine wi (av hd rfl) ?_| refine st ?_| refine br ?_ ?_<;>intro hc| rfl) <;>conv=>whnf
 rename_i JF
 obtain⟨gx,hg⟩: ∃x,x=g:=⟨_,rfl⟩
 rw[←hg];clear hg g
 obtain⟨d,evs⟩:=h
 dsimp only at hd hn np sm
 refine aO.by (fun ((k,cur,b):Nat×aG×Int)=> ⟨[(3,.bool true),(4,.ptr 80 JF 0 0),(5,.lit 2 (l.map lZ.v)),(6,.lit 1 (ds.map vi)),(7,ar i),(8,.ptr 144 gx 0 0),(9,vi b),(10,ar k)],[(80,⟨JF,4,false,false,some [m.v]⟩),(144,⟨gx,4,false,false,some [cur.v]⟩)]⟩)
  (fun (k,cur,b)=>k≤evs.length∧cur.Bd∧pJ d cur b (evs.drop k) m' b') (fun (k,_)=>evs.length - k) (0,m,0) su ⟨afU,hbd,np⟩ ?_
 clear np
 rintro⟨k,cur,b⟩ ⟨hk,hcb,np⟩
 try dsimp only at hk hcb np
 by_cases VX:k<evs.length
 case neg=>
  obtain rfl:k=evs.length:=ae0
  rw[List.drop_length] at np
  obtain⟨rfl,rfl⟩:=np.done
  obtain⟨e,ok,h1,_⟩:=BI hcb d b
  have Q9:ok=true→evs.length=200:=fun h=>by
   rcases sm with sm| ⟨e',h2⟩
   ·exact sm
   ·   have:=h1.Z1 h2
       injection this with this
       injection this with this
       simp[h] at this
  clear sm np
  cases ok
  ·conv=>whnf
   repeat' (first| contradiction| intro g| refine wi (av hx rfl) ?_| refine wi (av hd rfl) ?_| apply ca h1| refine st ?_| refine br ?_ ?_<;>intro hc| rfl) <;>conv=>whnf
   exact aK.mk (i+1) om ae0 su
  ·replace Q9:=Q9 rfl
   have afH: ¬ ((evs.map Event.v).length:Int) < 200:=by rw[List.length_map];omega
   conv=>whnf
   repeat' (first| contradiction| intro g| refine wi (av hx rfl) ?_| refine wi (av hd rfl) ?_| apply ca h1| refine st ?_| refine br ?_ ?_<;>intro hc| rfl) <;>conv=>whnf
   exact aK.mk (i+1) om ae0 su
 obtain⟨e,he⟩: ∃x,evs[k]? =some x:=⟨_,aL VX⟩
 rw[agq VX] at np
 obtain⟨rfl⟩:e=evs[k]:=by rw[af3 VX] at he;injection he with he;exact he.symm
 obtain⟨M,k1,k2,k4,k3⟩:=np.head
 generalize evs[k]=e at*
 conv=>whnf
 repeat' (first| contradiction| intro g| refine wi (av hx rfl) ?_| refine wi (av hd rfl) ?_| refine wi (av he rfl) ?_| apply ca k1| apply ca k2| refine st ?_| refine br ?_ ?_<;>intro hc| rfl) <;>conv=>whnf
 exact aK.mk (k+1,M,e.at_) om ⟨ae0,k4,k3⟩ su
end Go.AM
