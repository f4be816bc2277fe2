/- Texts of the proof. -/
import Derived.Test.YtgjbecccmiehkaaGreatGba
set_option maxRecDepth 20000
set_option maxHeartbeats 4000000
set_option linter.unusedSimpArgs false
set_option linter.unusedVariables false
namespace Go.AM
theorem ef (i j:Int): ∃p:Pt,Ev E 120 [vi i,vi j] ⟨p.v,[]⟩:=by
 refine eR (Ev.eQ rfl rfl rfl ?_)
 conv=>whnf
 repeat' (first| intro g| refine st ?_| (refine eW.cJ ?_;intro s) | refine br ?_ ?_<;>intro hc| rfl) <;>conv=>whnf
 exact⟨⟨_,_⟩,rfl⟩
def rH (ws:List Way) (n:Nat):Prop:=ws.length≤n∧ ∀w ∈ ws,dh w.line
theorem rH.snoc {es:List Way} {n:Nat} {e:Way} (h:rH es n) (k:dh e.line):rH (es++[e]) (n+1):=
 ⟨by have:=h.1;simp;omega,fun x hx=>by
   rcases ZF.1 hx with hx| hx
   ·exact h.2 x hx
   · have:x=e:=by simpa using hx
     subst this;exact k⟩
theorem rH.mono {es:List Way} {n m:Nat} (h:rH es n) (k:n≤m):rH es m:=⟨Z1 h.1 k,h.2⟩
theorem mK {l:List Int} (hl:l.length< 9223372036854775808) {ws:List Way} {n:Nat} (hw:rH ws n) (hn:n< 1000) (p q:Pt) (level:Int) (a0:Nat):
  ∃res,Ev E 119 [.msl 8 (ws.map Way.v) 0 ws.length,p.v,q.v,vi level,.mptr 2 [bY l a0] 0 0] res∧ ∃ (yQ:List Way) (a b:Nat),rH yQ (n+1)∧res=⟨.sl 0 b 0 yQ.length,[(b,yQ.map Way.v),(0,[bY l a])]⟩:=by
 refine Ev.eQ rfl rfl rfl ?_
 have kZ:=hw.1
 have nx:=fun k a (h:0 <k) (h2:k< 1000)=>bG hl k (a:=a) h Zl
 have hb:=cB (l:=l) (a:=a0) (n:=3) Zl Zl
 have n3:=nx 3 a0 Zl Zl
 generalize hm:cb l a0 3=many at hb n3
 have e1:IntKind.i64.wrap ((many:Int)+1)=((many+1:Nat):Int):=wt
 have BY:IntKind.i64.wrap (41+(ws.length:Int))=41+(ws.length:Int):=wrap64 Zl Zl
 conv=>whnf
 repeat' (first| intro g| apply ca n3| refine st ?_| (refine eW.cJ ?_;intro s) | refine br ?_ ?_<;>intro hc| rfl) <;>conv=>whnf
 rename_i g6 g7 gb
 refine a8.by (fun ((k,L,a,gb):Nat×List Pt×Nat×Nat)=> ⟨[(0,.sl 0 0 0 ws.length),(4,.ptr 4 0 0 0),(6,.ptr 112 g6 0 0),(7,.ptr 128 g7 0 0),(11,.ptr 192 g 0 0),(12,aL many),(13,aL k)],
   [(0,⟨0,8,true,false,some (ws.map Way.v)⟩),(4,⟨0,2,false,false,some [bY l a]⟩),(112,⟨g6,2,false,false,some [p.v]⟩),(128,⟨g7,2,false,false,some [q.v]⟩),
    (192,⟨g,8,false,false,some [.agg [vi (41+(ws.length:Int)),.sl 352 gb 0 L.length,vi level,.str [],.str [],.bool false,vi 0,vi 0]]⟩),(352,⟨gb,2,true,false,some (L.map Pt.v)⟩)]⟩)
  (fun (k,L,_,_)=>1≤k∧k≤many+1∧L.length=k) (fun (k,_)=>many+1 - k) (1,[p],aK l a0,gb) ?_ ⟨Zm,Zm,Zm⟩ ?_
 ·rw[BY];exact su
 rintro⟨k,L,a,gb⟩ ⟨uB,BK,hL⟩
 try dsimp only at uB BK hL
 by_cases bz:k≤many
 ·have n17:=nx 17 a Zl Zl
  conv=>whnf
  repeat' (first| intro g| apply ca n17| refine st ?_| (refine eW.cJ ?_;intro s) | refine br ?_ ?_<;>intro hc| rfl) <;>conv=>whnf
  all_goals exact bo.mk (k+1,L++[⟨_,_⟩],aK l a,g) om ⟨om,om,by simp[hL]⟩ su
 ·have n2:=fun a=>bG hl 2 (a:=a) Zl Zl
  have n3:=fun a=>bG hl 3 (a:=a) Zl Zl
  have n4:=fun a=>bG hl 4 (a:=a) Zl Zl
  have n60:=fun a=>bG hl 60 (a:=a) Zl Zl
  conv=>whnf
  repeat' (first| intro g| apply ca (n2 _) | apply ca (n3 _) | apply ca (n4 _) | apply ca (n60 _) | refine st ?_| (refine eW.cJ ?_;intro s) | refine br ?_ ?_<;>intro hc| rfl) <;>conv=>whnf
  have WQ:dh (L++[q]):=⟨by simp;omega,by simp;omega⟩
  exact⟨ws++[⟨_,L++[q],_,_,_,_,_,_⟩],_,_,hw.snoc WQ,by
   simp only[aai,List.map_cons,aaI,List.length_append,ZH,ZL,List.length_map,Way.v,kB]
   rfl⟩
end Go.AM
namespace Go.AM
theorem Jy {l:List Int} (hl:l.length< 9223372036854775808): ∃res,Ev E 86 [.lit 1 (l.map vi)] res∧ ∃ws:List Way,rH ws 12∧res=⟨.own 8 (ws.map Way.v),[]⟩:=by
 refine Ev.eQ rfl rfl rfl ?_
 have n2:=fun a=>bG hl 2 (a:=a) Zl Zl
 have n3:=fun a=>bG hl 3 (a:=a) Zl Zl
 have n4:=fun a=>bG hl 4 (a:=a) Zl Zl
 conv=>whnf
 repeat' (first| intro g| refine st ?_| (refine eW.cJ ?_;intro s) | refine br ?_ ?_<;>intro hc| rfl) <;>conv=>whnf
 rename_i gd
 refine a8.by (fun ((j,ws,a,g):Nat×List Way×Nat×Nat)=> ⟨[(3,.ptr 176 gd 0 0),(4,.sl 81 g 0 ws.length),(5,aL j)],[(176,⟨gd,2,false,false,some [bY l a]⟩),(81,⟨g,8,true,false,some (ws.map Way.v)⟩)]⟩)
  (fun (j,ws,_,_)=>j≤2∧rH ws (3*j)) (fun (j,_)=>2 - j) (0,[],0,g) su ⟨Zm,Zm,Zm⟩ ?_
 rintro⟨j,ws,a,g⟩ ⟨hj,wE⟩
 try dsimp only at hj wE
 by_cases bz:j< 2
 ·conv=>whnf
  repeat' (first| intro g| refine st ?_| (refine eW.cJ ?_;intro s) | refine br ?_ ?_<;>intro hc| rfl) <;>conv=>whnf
  refine a8.by (fun ((i,ws,a,g):Nat×List Way×Nat×Nat)=> ⟨[(3,.ptr 176 gd 0 0),(4,.sl 81 g 0 ws.length),(5,aL j),(6,aL i)],[(176,⟨gd,2,false,false,some [bY l a]⟩),(81,⟨g,8,true,false,some (ws.map Way.v)⟩)]⟩)
   (fun (i,ws,_,_)=>i≤3∧rH ws (3*j+i)) (fun (i,_)=>3 - i) (0,ws,a,g) su ⟨Zm,wE⟩ ?_
  clear wE
  rintro⟨i,ws,a,g⟩ ⟨hi,wE⟩
  try dsimp only at hi wE
  by_cases il:i< 3
  ·obtain⟨p,hp⟩:=ef i j
   obtain⟨q,hq⟩:=ef (IntKind.i64.wrap ((i:Int)+1)) j
   conv=>whnf
   repeat' (first| intro g| apply ca (n2 _) | apply ca hp| apply ca hq| refine st ?_| (refine eW.cJ ?_;intro s) | refine br ?_ ?_<;>intro hc| rfl) <;>conv=>whnf
   ·refine c6.ex (mK hl wE Zl p q 0 (aK l a)) ?_
    rintro _ ⟨yQ,a',b,iP,rfl⟩
    conv=>whnf
    repeat' (first| intro g| refine st ?_| (refine eW.cJ ?_;intro s) | refine br ?_ ?_<;>intro hc| rfl) <;>conv=>whnf
    exact bo.mk (i+1,yQ,a',g+b) om ⟨om,iP⟩ su
   ·exact bo.mk (i+1,ws,aK l a,g) om ⟨om,wE.mono Zl⟩ su
  ·conv=>whnf
   repeat' (first| intro g| refine st ?_| (refine eW.cJ ?_;intro s) | refine br ?_ ?_<;>intro hc| rfl) <;>conv=>whnf
   exact bo.mk (j+1,ws,a,g) om ⟨om,wE.mono Zl⟩ su
 ·conv=>whnf
  repeat' (first| intro g| refine st ?_| (refine eW.cJ ?_;intro s) | refine br ?_ ?_<;>intro hc| rfl) <;>conv=>whnf
  refine a8.by (fun ((i,ws,a,g):Nat×List Way×Nat×Nat)=> ⟨[(3,.ptr 176 gd 0 0),(4,.sl 81 g 0 ws.length),(7,aL i)],[(176,⟨gd,2,false,false,some [bY l a]⟩),(81,⟨g,8,true,false,some (ws.map Way.v)⟩)]⟩)
   (fun (i,ws,_,_)=>i≤4∧rH ws (6+i)) (fun (i,_)=>4 - i) (0,ws,a,g) su ⟨Zm,wE.mono Zl⟩ ?_
  clear wE
  rintro⟨i,ws,a,g⟩ ⟨hi,wE⟩
  try dsimp only at hi wE
  by_cases il:i< 4
  ·by_cases WR:ws.length< 5
   ·obtain⟨p,hp⟩:=ef i 0
    obtain⟨q,hq⟩:=ef i 1
    conv=>whnf
    repeat' (first| intro g| apply ca (n2 _) | apply ca hp| apply ca hq| refine st ?_| (refine eW.cJ ?_;intro s) | refine br ?_ ?_<;>intro hc| rfl) <;>conv=>whnf
    ·  refine c6.ex (mK hl wE Zl p q 0 (aK l a)) ?_
       rintro _ ⟨yQ,a',b,iP,rfl⟩
       conv=>whnf
       repeat' (first| intro g| refine st ?_| (refine eW.cJ ?_;intro s) | refine br ?_ ?_<;>intro hc| rfl) <;>conv=>whnf
       exact bo.mk (i+1,yQ,a',g+b) om ⟨om,iP⟩ su
    ·exact bo.mk (i+1,ws,aK l a,g) om ⟨om,wE.mono Zl⟩ su
   ·obtain⟨WT,Jz⟩:=ef 0 0
    obtain⟨WU,JA⟩:=ef 1 1
    obtain⟨WV,xV⟩:=ef 3 0
    obtain⟨WW,JB⟩: ∃f:Int→Pt,∀x,Ev E 120 [vi x,vi 1] ⟨(f x).v,[]⟩:=⟨fun x=> (ef x 1).choose,fun x=> (ef x 1).choose_spec⟩
    conv=>whnf
    repeat' (first| intro g| apply ca (n2 _) | apply ca (n3 _) | apply ca (n4 _) | apply ca Jz| apply ca JA| apply ca xV| apply ca (JB _) | refine st ?_| (refine eW.cJ ?_;intro s) | refine br ?_ ?_<;>intro hc| rfl) <;>conv=>whnf
    ·  refine c6.ex (mK hl wE Zl _ _ _ _) ?_
       rintro _ ⟨yQ,a',b,iP,rfl⟩
       conv=>whnf
       repeat' (first| intro g| apply ca (n2 _) | apply ca (n3 _) | apply ca (n4 _) | apply ca Jz| apply ca JA| apply ca xV| apply ca (JB _) | refine st ?_| (refine eW.cJ ?_;intro s) | refine br ?_ ?_<;>intro hc| rfl) <;>conv=>whnf
       ·refine c6.ex (mK hl iP Zl _ _ _ _) ?_
        rintro _ ⟨Ti,a2,b2,xL,rfl⟩
        conv=>whnf
        repeat' (first| intro g| apply ca (n2 _) | apply ca (n3 _) | apply ca (n4 _) | apply ca Jz| apply ca JA| apply ca xV| apply ca (JB _) | refine st ?_| (refine eW.cJ ?_;intro s) | refine br ?_ ?_<;>intro hc| rfl) <;>conv=>whnf
        exact⟨Ti,xL.mono Zl,rfl⟩
       ·exact⟨yQ,iP.mono Zl,rfl⟩
    ·  refine c6.ex (mK hl wE Zl _ _ _ _) ?_
       rintro _ ⟨yQ,a',b,iP,rfl⟩
       conv=>whnf
       repeat' (first| intro g| apply ca (n2 _) | apply ca (n3 _) | apply ca (n4 _) | apply ca Jz| apply ca JA| apply ca xV| apply ca (JB _) | refine st ?_| (refine eW.cJ ?_;intro s) | refine br ?_ ?_<;>intro hc| rfl) <;>conv=>whnf
       exact⟨yQ,iP.mono Zl,rfl⟩
    ·exact⟨ws,wE.mono Zl,rfl⟩
  ·obtain⟨WT,Jz⟩:=ef 0 0
   obtain⟨WU,JA⟩:=ef 1 1
   obtain⟨WV,xV⟩:=ef 3 0
   obtain⟨WW,JB⟩: ∃f:Int→Pt,∀x,Ev E 120 [vi x,vi 1] ⟨(f x).v,[]⟩:=⟨fun x=> (ef x 1).choose,fun x=> (ef x 1).choose_spec⟩
   conv=>whnf
   repeat' (first| intro g| apply ca (n2 _) | apply ca (n3 _) | apply ca (n4 _) | apply ca Jz| apply ca JA| apply ca xV| apply ca (JB _) | refine st ?_| (refine eW.cJ ?_;intro s) | refine br ?_ ?_<;>intro hc| rfl) <;>conv=>whnf
   ·refine c6.ex (mK hl wE Zl _ _ _ _) ?_
    rintro _ ⟨yQ,a',b,iP,rfl⟩
    conv=>whnf
    repeat' (first| intro g| apply ca (n2 _) | apply ca (n3 _) | apply ca (n4 _) | apply ca Jz| apply ca JA| apply ca xV| apply ca (JB _) | refine st ?_| (refine eW.cJ ?_;intro s) | refine br ?_ ?_<;>intro hc| rfl) <;>conv=>whnf
    ·  refine c6.ex (mK hl iP Zl _ _ _ _) ?_
       rintro _ ⟨Ti,a2,b2,xL,rfl⟩
       conv=>whnf
       repeat' (first| intro g| apply ca (n2 _) | apply ca (n3 _) | apply ca (n4 _) | apply ca Jz| apply ca JA| apply ca xV| apply ca (JB _) | refine st ?_| (refine eW.cJ ?_;intro s) | refine br ?_ ?_<;>intro hc| rfl) <;>conv=>whnf
       exact⟨Ti,xL.mono Zl,rfl⟩
    ·exact⟨yQ,iP.mono Zl,rfl⟩
   ·refine c6.ex (mK hl wE Zl _ _ _ _) ?_
    rintro _ ⟨yQ,a',b,iP,rfl⟩
    conv=>whnf
    repeat' (first| intro g| apply ca (n2 _) | apply ca (n3 _) | apply ca (n4 _) | apply ca Jz| apply ca JA| apply ca xV| apply ca (JB _) | refine st ?_| (refine eW.cJ ?_;intro s) | refine br ?_ ?_<;>intro hc| rfl) <;>conv=>whnf
    exact⟨yQ,iP.mono Zl,rfl⟩
   ·exact⟨ws,wE.mono Zl,rfl⟩
end Go.AM
namespace Go.AM
def Ph (p:Place):Prop:=(-16384≤p.x∧p.x≤16384∧ -16384≤p.y∧p.y≤16384)∧0≤p.weight∧p.weight≤1073741824
def xY (ps:List Place) (n:Nat):Prop:=ps.length≤n∧(∀ (i:Nat) (p:Place),ps[i]? =some p→p.id=61+(i:Int))∧ ∀p ∈ ps,Ph p
theorem Kx {b a:Nat} (hb:b< 10) (ha:a< 3): -16384≤IntKind.i64.wrap (IntKind.i64.wrap (90+IntKind.i64.wrap (100*(a:Int)))+IntKind.i64.wrap (16+(b:Int)))∧IntKind.i64.wrap (IntKind.i64.wrap (90+IntKind.i64.wrap (100*(a:Int)))+IntKind.i64.wrap (16+(b:Int)))≤16384:=by
 rw[wrap64 (n:=100*(a:Int)) Zl Zl,wrap64 (n:=90+100*(a:Int)) Zl Zl,wrap64 (n:=16+(b:Int)) Zl Zl,wrap64 Zl Zl]
 omega
theorem Ky {b a:Nat} (hb:b< 10) (ha:a< 3): -16384≤IntKind.i64.wrap (IntKind.i64.wrap (90+IntKind.i64.wrap (100*(a:Int)))+IntKind.i64.wrap (0 - IntKind.i64.wrap (16+(b:Int))))∧IntKind.i64.wrap (IntKind.i64.wrap (90+IntKind.i64.wrap (100*(a:Int)))+IntKind.i64.wrap (0 - IntKind.i64.wrap (16+(b:Int))))≤16384:=by
 rw[wrap64 (n:=100*(a:Int)) Zl Zl,wrap64 (n:=90+100*(a:Int)) Zl Zl,wrap64 (n:=16+(b:Int)) Zl Zl,wrap64 (n:=0 - (16+(b:Int))) Zl Zl,wrap64 Zl Zl]
 omega
theorem JC {a b:Nat} (ha:a< 2) (hb:b< 51): -16384≤IntKind.i64.wrap (IntKind.i64.wrap (IntKind.i64.wrap (90+IntKind.i64.wrap (100*(a:Int)))+(b:Int)) - 25)∧IntKind.i64.wrap (IntKind.i64.wrap (IntKind.i64.wrap (90+IntKind.i64.wrap (100*(a:Int)))+(b:Int)) - 25)≤16384:=by
 rw[wrap64 (n:=100*(a:Int)) Zl Zl,wrap64 (n:=90+100*(a:Int)) Zl Zl,wrap64 (n:=90+100*(a:Int)+(b:Int)) Zl Zl,wrap64 Zl Zl]
 omega
theorem Pj {a:Nat} (ha:a< 60):0≤IntKind.i64.wrap (1+(a:Int))∧IntKind.i64.wrap (1+(a:Int))≤1073741824:=by
 rw[wrap64 Zl Zl]
 omega
theorem xY.snoc {ps:List Place} {n:Nat} {p:Place} (h:xY ps n) (k:p.id=61+(ps.length:Int)) (q:Ph p):xY (ps++[p]) (n+1):=by
 refine⟨by have:=h.1;simp;omega,fun i x hx=> ?_,fun x hx=>by
  rcases ZF.1 hx with hx| hx
  ·exact h.2.2 x hx
  ·rw[ZZ.1 hx];exact q⟩
 by_cases hi:i<ps.length
 ·rw[ZW hi] at hx
  exact h.2.1 i x hx
 ·rw[aaf Zl] at hx
  have hl:i - ps.length=0:=by
   have:=(Zs.1 hx).1
   simp at this;omega
  rw[hl] at hx
  obtain rfl:p=x:=by simpa using hx
  rw[k];congr 1;omega
theorem xY.mono {ps:List Place} {n m:Nat} (h:xY ps n) (k:n≤m):xY ps m:=⟨Z1 h.1 k,h.2⟩
theorem Ey {l:List Int} (hl:l.length< 9223372036854775808) {m:bA} {n:Nat} (he:kf m.aH n) (hn:n< 1000) (hf:m.b9.length< 1000): ∃res,Ev E 87 [m.v,.lit 1 (l.map vi)] res∧ ∃ps:List Place,xY ps 6∧res=⟨.own 7 (ps.map Place.v),[]⟩:=by
 refine Ev.eQ rfl rfl rfl ?_
 have n2:=fun a=>bG hl 2 (a:=a) Zl Zl
 have n3:=fun a=>bG hl 3 (a:=a) Zl Zl
 have n5:=fun a=>bG hl 5 (a:=a) Zl Zl
 have n10:=fun a=>bG hl 10 (a:=a) Zl Zl
 have n51:=fun a=>bG hl 51 (a:=a) Zl Zl
 have n60:=fun a=>bG hl 60 (a:=a) Zl Zl
 have n7:=bG hl 7 (a:=0) Zl Zl
 have hb:=cB (l:=l) (a:=0) (n:=7) Zl Zl
 generalize cb l 0 7=many at hb n7
 have jS: ∀x y,∃rb:Int×Bool,Ev E 121 [.lit 4 (m.aH.map Edge.v),.agg [vi x,vi y]] ⟨.tuple [vi rb.1,.bool rb.2],[]⟩:=by
  intro x y
  obtain⟨r,b,h⟩:=L1 he hn ⟨x,y⟩
  exact⟨(r,b),h⟩
 obtain⟨fr,jS⟩: ∃f:Int→Int→Int×Bool,∀x y,Ev E 121 [.lit 4 (m.aH.map Edge.v),.agg [vi x,vi y]] ⟨.tuple [vi (f x y).1,.bool (f x y).2],[]⟩:=⟨fun x y=> (jS x y).choose,fun x y=> (jS x y).choose_spec⟩
 obtain⟨fd,hd⟩: ∃f:Int→Int,∀x,Ev E 122 [m.v,vi x] ⟨vi (f x),[]⟩:=⟨fun x=> (qp m hf x).choose,fun x=> (qp m hf x).choose_spec⟩
 conv=>whnf
 repeat' (first| intro g| apply ca n7| refine st ?_| (refine eW.cJ ?_;intro s) | refine br ?_ ?_<;>intro hc| rfl) <;>conv=>whnf
 rename_i g2 _ gd
 refine a8.by (fun ((k,ps,a,g):Nat×List Place×Nat×Nat)=> ⟨[(2,.ptr 48 g2 0 0),(5,.ptr 256 gd 0 0),(6,.sl 113 g 0 ps.length),(7,aL many),(8,aL k)],
   [(48,⟨g2,4,false,false,some [m.v]⟩),(256,⟨gd,2,false,false,some [bY l a]⟩),(113,⟨g,7,true,false,some (ps.map Place.v)⟩)]⟩)
  (fun (k,ps,a,g)=>k≤many∧xY ps k) (fun (k,_)=>many - k) (0,[],aK l 0,g) su ⟨Zm,Zm,Zm,Zm⟩ ?_
 rintro⟨k,ps,a,g⟩ ⟨hk,hp⟩
 try dsimp only at hk hp
 by_cases bz:k<many
 ·have Fv:=hp.1
  have BY:IntKind.i64.wrap (61+(ps.length:Int))=61+(ps.length:Int):=wrap64 Zl Zl
  have QU:=cB (l:=l) (a:=a) (n:=10) Zl Zl
  have b3:=cB (l:=l) (a:=(aK l (aK l a))) (n:=3) Zl Zl
  have b2:=cB (l:=l) (a:=(aK l (aK l (aK l a)))) (n:=2) Zl Zl
  have QV:=cB (l:=l) (a:=(aK l (aK l (aK l (aK l a))))) (n:=51) Zl Zl
  have Vf:=cB (l:=l) (a:=(aK l (aK l (aK l (aK l (aK l a)))))) (n:=60) Zl Zl
  conv=>whnf
  repeat' (first| intro g| apply ca (n2 _) | apply ca (n3 _) | apply ca (n5 _) | apply ca (n10 _) | apply ca (n51 _) | apply ca (n60 _) | apply ca (jS _ _) | apply ca (hd _) | refine st ?_| (refine eW.cJ ?_;intro s) | refine br ?_ ?_<;>intro hc| rfl) <;>conv=>whnf
  ·exact bo.mk (k+1,ps++[⟨IntKind.i64.wrap (61+(ps.length:Int)),IntKind.i64.wrap (IntKind.i64.wrap (90+IntKind.i64.wrap (100*((cb l (aK l (aK l a)) 3:Nat):Int)))+IntKind.i64.wrap (0 - IntKind.i64.wrap (16+((cb l a 10:Nat):Int)))),IntKind.i64.wrap (IntKind.i64.wrap (IntKind.i64.wrap (90+IntKind.i64.wrap (100*((cb l (aK l (aK l (aK l a))) 2:Nat):Int)))+((cb l (aK l (aK l (aK l (aK l a)))) 51:Nat):Int)) - 25),_,_,IntKind.i64.wrap (1+((cb l (aK l (aK l (aK l (aK l (aK l a))))) 60:Nat):Int)),_⟩],_,g) om ⟨om,hp.snoc BY ⟨⟨(Ky QU b3).1,(Ky QU b3).2,(JC b2 QV).1,(JC b2 QV).2⟩,Pj Vf⟩⟩ su
  ·exact bo.mk (k+1,ps,_,_) om ⟨om,hp.mono Zl⟩ su
  ·exact bo.mk (k+1,ps,_,_) om ⟨om,hp.mono Zl⟩ su
  ·exact bo.mk (k+1,ps++[⟨IntKind.i64.wrap (61+(ps.length:Int)),IntKind.i64.wrap (IntKind.i64.wrap (90+IntKind.i64.wrap (100*((cb l (aK l (aK l a)) 3:Nat):Int)))+IntKind.i64.wrap (16+((cb l a 10:Nat):Int))),IntKind.i64.wrap (IntKind.i64.wrap (IntKind.i64.wrap (90+IntKind.i64.wrap (100*((cb l (aK l (aK l (aK l a))) 2:Nat):Int)))+((cb l (aK l (aK l (aK l (aK l a)))) 51:Nat):Int)) - 25),_,_,IntKind.i64.wrap (1+((cb l (aK l (aK l (aK l (aK l (aK l a))))) 60:Nat):Int)),_⟩],_,g) om ⟨om,hp.snoc BY ⟨⟨(Kx QU b3).1,(Kx QU b3).2,(JC b2 QV).1,(JC b2 QV).2⟩,Pj Vf⟩⟩ su
  ·exact bo.mk (k+1,ps,_,_) om ⟨om,hp.mono Zl⟩ su
  ·exact bo.mk (k+1,ps,_,_) om ⟨om,hp.mono Zl⟩ su
 ·conv=>whnf
  repeat' (first| intro g| refine st ?_| (refine eW.cJ ?_;intro s) | refine br ?_ ?_<;>intro hc| rfl) <;>conv=>whnf
  exact⟨ps,hp.mono Zl,rfl⟩
end Go.AM
namespace Go.AM
theorem xZ {ls:List (List Int)} (hs:si ls) (i:Nat) (hi:i< 1000): ∃l:List Int,l.length< 9223372036854775808∧Ev E 84 [eb ls,aL i] ⟨ee l,[]⟩:=by
 have hl:=hs.1
 by_cases h:i<ls.length
 ·obtain⟨l,hx⟩: ∃l,ls[i]? =some l:=⟨_,bp h⟩
  refine⟨l,hs.2 _ (List.mem_of_getElem? hx),?_⟩
  refine Ev.aO rfl rfl rfl ?_
  conv=>whnf
  repeat' (first| intro g| refine wi (gk hx) ?_| refine st ?_| (refine eW.cJ ?_;intro s) | refine br ?_ ?_<;>intro hc| rfl) <;>conv=>whnf
 ·refine⟨[],Zm,?_⟩
  refine Ev.aO rfl rfl rfl ?_
  exact dr
theorem zQ {α:Type} {f:α→V} {l:List α} {k n:Nat} (h:n=min k l.length):aw (l.map f) 0 n=(l.take k).map f:=by
 subst h
 unfold aw
 rw[List.drop_zero,←List.map_take,List.take_eq_take_min (i:=k)]
theorem Tk {α:Type} {f:α→V} {l:List α} {k:Nat} {a b c:V} (x:α): (((((l.map f).set ((k:Int)).toNat a).set ((k:Int)).toNat b).set ((k:Int)).toNat c).set ((k:Int)).toNat (f x))=(l.set k x).map f:=by
 simp only[List.set_set,List.map_set,Int.toNat_natCast]
theorem Tl (n:Nat): (if (3:Int) < (n:Int) then(3:Int) else(n:Int)).toNat=min 3 n:=by
 split<;>omega
structure bA.Pk (m:bA):Prop where
 aH:kf m.aH 18
 b9:m.b9.length≤36
 ways:rH m.ways 12
 bL:xY m.bL 6
def bA.vo (m:bA):V:= .agg [.lit 4 (m.aH.map Edge.v),.lit 5 (m.b9.map da.v),.lit 8 (m.ways.map Way.v),.own 7 (m.bL.map Place.v)]
end Go.AM
