import Derived.Test.YtokgamncgleelaaGreatGradSaysS1
set_option linter.unusedVariables false
set_option maxRecDepth 100000
set_option maxHeartbeats 8000000
namespace Go.Proofs
open Go.AM
open IntKind (i64 u64 i32 u32 i16 u16 i8 u8)
def f38_l1 (c:Int) (k:(Int×NL×LTz1×Jn)→Option (NL×LTz1×Jn)) (b:Int) (j:NL) (g:LTz1) (e:Int) (h d:LI):Option (NL×LTz1×Jn):=
 bif (decide (b<(i64.wrap (c+1)))) then
 D4 (f39 j b) fun a=>
 D4 (f73 a.2.1 (0:Int)) fun i=>
 Ey ((List.length (List.set g (Int.toNat e) (h,d))+1)*48≤140737488355328)<|
 k ((i64.wrap (b+1)),a.2.2.2,((List.set g (Int.toNat e) (h,d))++[(Ty.z T7)]),(List.length (List.set g (Int.toNat e) (h,d)):Int),i.2.1,i.2.2)
 else
 some (j,g,e,h,d)
def f38_l2 (i:(Int×NL×LTz1×(List Bool))→Option (Sum (Int×NL) (LTz1×(List Bool)×NL))) (n:Int) (h:NL) (e:LTz1) (g:List Bool):Option (Sum (Int×NL) (LTz1×(List Bool)×NL)):=
 bif (decide (n≥0)) then
 Ey (0≤n∧n<g.length)<|
 bif (!(rd false g n)) then
 i ((i64.wrap (n-1)),h,e,g)
 else
 D4 (f74 h n) fun d=>
 Ey (0≤n∧n<e.length)<|
 D4 (f75 d.2.2.2.2.2.2.2 n ((rd (Ty.z T7) e n).1,(rd (Ty.z T7) e n).2)) fun a=>
 bif (a.1 != 0) then
 some (Sum.inl (a.1,a.2.2.2.2.2))
 else
 D4 (f76 e g d.2.1 (a.2.1,a.2.2.1)) fun b=>
 bif (b.1 != 0) then
 some (Sum.inl (b.1,a.2.2.2.2.2))
 else
 D4 (f76 b.2.1 b.2.2 d.2.2.1 (a.2.2.2.1,a.2.2.2.2.1)) fun c=>
 bif (c.1 != 0) then
 some (Sum.inl (c.1,a.2.2.2.2.2))
 else
 i ((i64.wrap (n-1)),a.2.2.2.2.2,c.2.1,c.2.2)
 else
 some (Sum.inr (e,g,h))
def f38 (g:NL) (a:Int):Option (Int×LTz1×NL):=
 D4 (f39 g a) fun e=>
 bif (!e.1) then
 some ((1:Int),[],e.2.2.2)
 else
 bif (decide ((e.2.2.1.length:Int)>1)) then
 some ((4:Int),[],e.2.2.2)
 else
 Ey (0≤(i64.wrap (a+1))∧(i64.wrap (a+1))≤(i64.wrap (a+1))∧Int.toNat (i64.wrap (a+1))*1≤140737488355328)<|
 D4 (Fp (fun h x=>f38_l1 a h x.1 x.2.1 x.2.2.1 x.2.2.2.1 x.2.2.2.2.1 x.2.2.2.2.2) Fq ((0:Int),e.2.2.2,[],(0:Int),[],[])) fun d=>
 Ey (0≤a∧a<d.2.1.length)<|
 Ey (a=d.2.2.1)<|
 Ey (0≤(0:Int)∧0<(d.2.2.2.2.length:Int))<|
 Ey (0≤a∧a<(List.length (List.replicate (Int.toNat (i64.wrap (a+1))) false):Int))<|
 D4 (Fp (fun h x=>f38_l2 h x.1 x.2.1 x.2.2.1 x.2.2.2) Fq (a,d.1,(List.set d.2.1 (Int.toNat d.2.2.1) (d.2.2.2.1,(List.set d.2.2.2.2 (Int.toNat (0:Int)) (4294967296:Int)))),(List.set (List.replicate (Int.toNat (i64.wrap (a+1))) false) (Int.toNat a) true))) fun i=>
 F5 i (fun c=>
 some (c.1,[],c.2)) (fun b=>
 some ((0:Int),b.1,b.2.2))
instance H38 (c:NL) (b:Int): HF 38 [P0 0 0,.dat T0 b] [(0,.cells [(.osl 1)]),(1,.arr 161 T6 c)] 2 (f38 c b) (fun y=>[O0 2,.dat T0 y.1]) (fun y=>[(0,.cells [(.osl 1)]),(1,.arr 161 T6 y.2.2),(2,.arr 101 T7 y.2.1)]) 3:=hd Tryz.f38 rfl fun y q=>by
 unfold f38 at q
 refine OL (OL ?_)
 obtain ⟨r1,h,q⟩:=bE q
 refine cL h gW ?_
 refine R2 (AI (lQ rfl) (R2 (AJ (AI (R2 TV) (OL (OL (OL (cI q (fun q=>?_) (fun q=>?_)))))))))
 ·exact gV
 refine OL (cI q (fun q=>?_) (fun q=>?_))
 ·exact gV
 refine OL (gI q (fun q=>?_))
 refine OL (OL ?_)
 obtain ⟨z5,p,q⟩:=bE q
 let d:LH:=fun w=>(0,.cells [(.osl 1)])::w
 refine lJ p (fun x=>⟨[(0,P0 0 0),(1,.dat T0 b),(8,P0 2 0),(42,.dat T0 (i64.wrap (b+1))),(43,.dat T0 x.1)],d [(1,.arr 161 T6 x.2.1),(2,.cells [(.osl 3),(.osl 4)]),(3,.hol 101 T7 x.2.2.1 x.2.2.2.1 [(.osl 5),(.osl 6)]),(4,.arr 4 .bool (List.replicate (Int.toNat (i64.wrap (b+1))) false)),(5,.arr 3 T0 x.2.2.2.2.1),(6,.arr 35 T0 x.2.2.2.2.2)],7⟩) (fun z=>[(3,⟨[(0,P0 0 0),(1,.dat T0 b),(8,P0 2 0)],d [(1,.arr 161 T6 z.1),(2,.cells [(.osl 3),(.osl 4)]),(3,.hol 101 T7 z.2.1 z.2.2.1 [(.osl 5),(.osl 6)]),(4,.arr 4 .bool (List.replicate (Int.toNat (i64.wrap (b+1))) false)),(5,.arr 3 T0 z.2.2.2.1),(6,.arr 35 T0 z.2.2.2.2)],7⟩)]) gV (fun m=>F3 (fun l=>F3 (fun s=>F3 (fun j=>F3 (fun i3=>F3 (fun l5=>fun l6 z q=>?_)))))) ?_
 ·have q:f38_l1 b _ l s j i3 l5 l6=some z:=q
  unfold f38_l1 at q
  refine OL (OL (cI q (fun q=>?_) (fun q=>?_)))
  ·refine OL (OL (OL ?_))
   obtain ⟨i,h,q⟩:=bE q
   refine cL h gW ?_
   refine R2 (AI (lQ rfl) (R2 (AJ (AI (R2 TV) (OL (OL ?_))))))
   obtain ⟨r6,h,q⟩:=bE q
   refine cL h gW ?_
   refine R3 (AI (lQ rfl) (R2 (AI TV (AI TV (OL (EI (tU 0 6 (.alt 6 (.alt 7 (.take 8 (.take 9 (.alt 10 .done .done))) .done) .done)) (EI [(10,[2])] (EI [] (AI rfl (AI TV (OQ (AI TV (OQ ?_)))))))))))))
   exact gV
  exact gV
 refine AI (OL (EI (tU 0 14 (.alt 14 (.take 15 (.alt 16 .done .done)) .done)) (EI [] (EI [] (AI rfl (gI q (fun q=>?_))))))) TV
 refine gI q (fun q=>?_)
 refine gI q (fun q=>?_)
 refine AI TV (OL (gI q (fun q=>?_)))
 refine AI TV (OL (OL (OL ?_)))
 obtain ⟨k,h,q⟩:=bE q
 refine lJ h (fun x=>⟨[(0,P0 0 0),(8,P0 2 0),(14,.dat T0 x.1)],d [(1,.arr 161 T6 x.2.1),(2,.cells [(.osl 3),(.osl 4)]),(3,.arr 101 T7 x.2.2.1),(4,.arr 4 .bool x.2.2.2)],5⟩) (fun z=>Sum.elim (fun u=>[(1,⟨[(4,.raw false [N0]),(5,.dat T0 u.1)],d [(1,.arr 161 T6 u.2)],2⟩)]) (fun o=>[(5,⟨[(8,P0 2 0)],d [(1,.arr 161 T6 o.2.2),(2,.cells [(.osl 3),(.osl 4)]),(3,.arr 101 T7 o.1),(4,.arr 4 .bool o.2.1)],5⟩)]) z) (EI [3] (AI rfl (EI [] (EI [] (EI [] (EI I5 (R2 (AI (R2 TV) (R5 TV))))))))) (fun m=>F3 (fun n=>F3 (fun s=>F3 (fun j=>fun l4 z q=>?_)))) ?_
 ·have q:f38_l2 _ n s j l4=some z:=q
  unfold f38_l2 at q
  exact gV
 rcases k with t | v
 ·exact gV
 exact gV
def f11_j3 (a:Int):Option Bool:=
 bif (decide (a<1)) then
 some true
 else
 some (decide (a>3))
def f11_j2 (a:Int):Option (Sum Unit Unit):=
 D4 (f11_j3 a) fun b=>
 bif b then
 some (Sum.inr ())
 else
 some (Sum.inl ())
def f11_l4 (b:Int×Int×LI×NL) (d:Int×LTz1×NL) (e:Jy→Option LI) (a:Int) (c:LI):Option LI:=
 bif (decide (a<b.2.2.1.length)) then
 Ey (0≤a∧a<b.2.2.1.length)<|
 Ey (0≤(rd 0 b.2.2.1 a)∧(rd 0 b.2.2.1 a)<d.2.1.length)<|
 Ey ((c.length+List.length ((rd (Ty.z T7) d.2.1 (rd 0 b.2.2.1 a)).2))*8≤140737488355328)<|
 e ((i64.wrap (a+1)),(c++((rd (Ty.z T7) d.2.1 (rd 0 b.2.2.1 a)).2)))
 else
 some c
def f11 (n:Js) (a:Int) (m:LI) (d:PTz12):Option (Int×Jy):=
 D4 (f11_j2 a) fun o=>
 F5 o (fun i=>
 D4 (f35) fun g=>
 D4 (f36 ([]) (n.1,n.2) m d.1) fun b=>
 bif (b.2.1 != 0) then
 some ((0:Int),b.2.1,[])
 else
 D4 (f37 b.2.2.2 a b.1 (d.1,d.2.1,d.2.2)) fun c=>
 bif (c.2.1 != 0) then
 some ((0:Int),c.2.1,[])
 else
 D4 (f38 c.2.2 c.1) fun e=>
 bif (e.1 != 0) then
 some ((0:Int),e.1,[])
 else
 D4 (Fp (fun l x=>f11_l4 b e l x.1 x.2) Fq ((0:Int),[])) fun j=>
 D4 (f39 e.2.2 c.1) fun h=>
 Ey (0≤(0:Int)∧0<(h.2.2.1.length:Int))<|
 some ((rd 0 h.2.2.1 0),(0:Int),j)) (fun k=>
 some ((0:Int),(1:Int),[]))
instance H11 (n:Js) (b:Int) (i:LI) (d:PTz12): HF 11 [.dat T2 n,.dat T0 b,.dat T4 i,.dat T10 d] [] 0 (f11 n b i d) (fun y=>[O0 0,.dat T0 y.1,.dat T0 y.2.1]) (fun y=>[(0,.arr 35 T0 y.2.2)]) 1:=hd Tryz.f11 rfl fun y q=>by
 unfold f11 at q
 refine OL ?_
 obtain ⟨v,c,q⟩:=bE q
 let w:LH:=fun zz=>(0,.cells [(.d T4 n.1),(.d T3 n.2)])::(1,.cells [(.d T4 d.1),(.d T4 d.2.1),(.d T0 d.2.2)])::zz
 refine OQ ⟨Sum.elim (fun o=>[(0,⟨[(1,.dat T0 b),(2,.dat T4 i),(4,P0 0 0),(7,P0 1 0)],w [],2⟩)]) (fun p=>[(1,⟨[(8,.raw false [N0]),(9,D0 0),(10,D0 1)],[],0⟩)]) v,?_,?_⟩
 ·have q:=c
  clear c
  unfold f11_j2 at q
  obtain ⟨z3,l,q⟩:=bE q
  refine OQ ⟨[(0,⟨[(1,.dat T0 b),(2,.dat T4 i),(4,P0 0 0),(7,P0 1 0),(27,.dat .bool z3)],w [],2⟩)],?_,?_⟩
  ·have q:=l
   unfold f11_j3 at q
   exact gV
  exact gV
 rcases v with o | p
 ·dsimp only [F5] at q
  refine AI (OL ?_) TV
  obtain ⟨s,h,q⟩:=bE q
  refine cL h gW ?_
  refine AI rfl (AI (lQ rfl) (R2 (AI TV (AI TV (OL ?_)))))
  obtain ⟨k,h,q⟩:=bE q
  refine cL h gW ?_
  refine R5 (AI (lQ rfl) (R2 (AJ (AI (R2 TV) (OL (OL (cI q (fun q=>?_) (fun q=>?_))))))))
  ·exact gV
  refine OL ?_
  obtain ⟨u,h,q⟩:=bE q
  refine cL h gW ?_
  refine R5 (AI (lQ rfl) (R2 (AJ (AI (R2 TV) (OL (OL (cI q (fun q=>?_) (fun q=>?_))))))))
  ·exact gV
  refine OL ?_
  obtain ⟨j,h,q⟩:=bE q
  refine cL h gW ?_
  refine R2 (AI (lQ rfl) (R2 (AJ (AI (R2 TV) (OL (OL (cI q (fun q=>?_) (fun q=>?_))))))))
  ·exact gV
  refine OL (OL (OL ?_))
  obtain ⟨z7,h,q⟩:=bE q
  refine lJ h (fun x=>⟨[(11,P0 0 0),(15,.dat T0 u.1),(16,O0 1),(17,O0 2),(62,O0 3),(63,.dat T0 (k.2.2.1.length:Int)),(64,.dat T0 x.1)],[(0,.cells [(.osl 4)]),(1,.arr 101 T7 j.2.1),(2,.arr 35 T0 x.2),(3,.arr 3 T0 k.2.2.1),(4,.arr 161 T6 j.2.2)],5⟩) (fun z=>[(2,⟨[(11,P0 0 0),(15,.dat T0 u.1),(17,O0 1)],[(0,.cells [(.osl 2)]),(1,.arr 35 T0 z),(2,.arr 161 T6 j.2.2)],3⟩)]) gV (fun m=>F3 (fun t=>fun l2 z q=>?_)) ?_
  ·have q:f11_l4 k j _ t l2=some z:=q
   unfold f11_l4 at q
   exact gV
  exact gV
 exact gV
def f16_l4 (c:Int×Jy) (g:(Int×LTz2)→Option LTz2) (a:Int) (b:LTz2):Option LTz2:=
 bif (decide (a<c.2.2.length)) then
 Ey (0≤a∧a<c.2.2.length)<|
 Ey (0≤a∧a<b.length)<|
 D4 (f45 (rd 0 c.2.2 a)) fun e=>
 D4 (f44 ((rd (Ty.z T9) b a).1,(rd (Ty.z T9) b a).2) (e.1,e.2)) fun d=>
 Ey (0≤a∧a<b.length)<|
 g ((i64.wrap (a+1)),(List.set b (Int.toNat a) (d.1,d.2)))
 else
 some b
def f16_l3 (n:Js) (h:Int) (m:LI) (l:List PTz12) (i:(Int×LTz2×Ji)→Option (Sum Int (LTz2×Ji))) (b:Int) (j:LTz2) (g e:Int):Option (Sum Int (LTz2×Ji)):=
 bif (decide (b<l.length)) then
 Ey (0≤b∧b<l.length)<|
 D4 (f11 (n.1,n.2) h m ((rd (Ty.z T10) l b).1,((rd (Ty.z T10) l b).2).1,((rd (Ty.z T10) l b).2).2)) fun a=>
 bif (a.2.1 != 0) then
 some (Sum.inl a.2.1)
 else
 D4 (Fp (fun i x=>f16_l4 a i x.1 x.2) Fq ((0:Int),j)) fun k=>
 D4 (f45 a.1) fun c=>
 D4 (f44 (g,e) (c.1,c.2)) fun d=>
 i ((i64.wrap (b+1)),k,d.1,d.2)
 else
 some (Sum.inr (j,g,e))
def f16 (n:Js) (c:Int) (g:LI) (l:List PTz12):Option (Int×Int×Int×LTz2):=
 D4 (f43 (n.1,n.2)) fun a=>
 bif (a.2 != 0) then
 some ((0:Int),(0:Int),a.2,[])
 else
 Ey (0≤a.1∧a.1≤a.1∧Int.toNat a.1*16≤140737488355328)<|
 D4 (Fp (fun e x=>f16_l3 n c g l e x.1 x.2.1 x.2.2.1 x.2.2.2) Fq ((0:Int),(List.replicate (Int.toNat a.1) (Ty.z T9)),(0:Int),(0:Int))) fun h=>
 F5 h (fun d=>
 some ((0:Int),(0:Int),d,[])) (fun b=>
 some (b.2.1,b.2.2,(0:Int),b.1))
instance H16 (n:Js) (c:Int) (p:LI) (l:List PTz12): HF 16 [.dat T2 n,.dat T0 c,.dat T4 p,.dat T11 l] [] 0 (f16 n c p l) (fun y=>[O0 0,.raw true [(.d T0 y.1),(.d T8 y.2.1)],.dat T0 y.2.2.1]) (fun y=>[(0,.arr 53 T9 y.2.2.2)]) 1:=hd Tryz.f16 rfl fun y q=>by
 unfold f16 at q
 refine OL (OL ?_)
 obtain ⟨s,h,q⟩:=bE q
 refine cL h gW ?_
 refine R3 (AI (lQ rfl) (R2 (AI TV (AI TV (OL (OL (cI q (fun q=>?_) (fun q=>?_))))))))
 ·exact gV
 refine OL (gI q (fun q=>?_))
 refine OL (OL (OL (OL ?_)))
 obtain ⟨z4,w,q⟩:=bE q
 let e0:LE:=fun k=>(1,.dat T0 c)::(2,.dat T4 p)::(4,P0 0 0)::(9,P0 1 0)::(13,O0 2)::(14,P0 3 0)::k
 let u:LH:=fun k=>(0,.cells [(.d T4 n.1),(.d T3 n.2)])::(1,.cells [(.d T0 (0:Int)),(.d T8 (0:Int))])::k
 refine lJ w (fun x=>⟨e0 [(34,.dat T11 l),(35,.dat T0 (l.length:Int)),(36,.dat T0 x.1)],u [(2,.arr 53 T9 x.2.1),(3,.cells [(.d T0 x.2.2.1),(.d T8 x.2.2.2)])],4⟩) (fun z=>Sum.elim (fun za=>[(1,⟨[(8,.raw false [N0]),(9,P0 0 0),(10,.dat T0 za)],[(0,.cells [(.d T0 (0:Int)),(.d T8 (0:Int))])],1⟩)]) (fun t=>[(2,⟨[(9,P0 0 0),(13,O0 1),(14,P0 2 0)],[(0,.cells [(.d T0 (0:Int)),(.d T8 (0:Int))]),(1,.arr 53 T9 t.1),(2,.cells [(.d T0 t.2.1),(.d T8 t.2.2)])],3⟩)]) z) gV (fun m=>F3 (fun o=>F3 (fun l2=>F3 (fun d=>fun i z q=>?_)))) ?_
 ·have q:f16_l3 n c p l _ o l2 d i=some z:=q
  unfold f16_l3 at q
  refine OL (OL (cI q (fun q=>?_) (fun q=>?_)))
  ·refine OL (OL (gI q (fun q=>?_)))
   refine OL (OL ?_)
   obtain ⟨b,h,q⟩:=bE q
   refine cL h gW ?_
   refine R7 (AI (lQ rfl) (R2 (AI TV (AI TV (OL (OL (cI q (fun q=>?_) (fun q=>?_))))))))
   ·exact gV
   refine OL (OL ?_)
   obtain ⟨z5,v,q⟩:=bE q
   let e2:LE:=fun k=>e0 ((18,.dat T0 b.1)::(34,.dat T11 l)::(35,.dat T0 (l.length:Int))::(36,.dat T0 o)::k)
   refine lJ v (fun x=>⟨e2 [(53,O0 4),(54,.dat T0 (b.2.2.length:Int)),(55,.dat T0 x.1)],u [(2,.arr 53 T9 x.2),(3,.cells [(.d T0 d),(.d T8 i)]),(4,.arr 35 T0 b.2.2)],5⟩) (fun z=>[(4,⟨e2 [],u [(2,.arr 53 T9 z),(3,.cells [(.d T0 d),(.d T8 i)])],4⟩)]) gV (fun m=>F3 (fun b0=>fun j z q=>?_)) ?_
   ·have q:f16_l4 b _ b0 j=some z:=q
    unfold f16_l4 at q
    refine OL (OL (cI q (fun q=>?_) (fun q=>?_)))
    ·refine OL (OL (gI q (fun q=>?_)))
     refine EI (tU 0 7 (.alt 7 (.alt 8 (.take 9 (.alt 10 .done .done)) .done) .done)) (EI [(10,[2])] (EI [] (AI rfl ?_)))
     exact gV
    exact gV
   refine AI (EI (.take 0 (.take 1 (.alt 2 (.alt 3 (.alt 4 .done .done) .done) .done))) (EI [(4,[3])] (EI [] (AI rfl ?_)))) TV
   exact gV
  exact gV
 rcases z4 with b1 | b2
 ·exact gV
 exact gV
def f15_l1 (a b:LI) (c:Int→Option (Sum Unit Unit)) (i:Int):Option (Sum Unit Unit):=
 bif (decide (i<a.length)) then
 Ey (0≤i∧i<a.length)<|
 Ey (0≤i∧i<b.length)<|
 bif ((rd 0 a i) != (rd 0 b i)) then
 some (Sum.inl ())
 else
 c (i64.wrap (i+1))
 else
 some (Sum.inr ())
def f15 (a b:LI):Option Bool:=
 bif ((a.length:Int) != b.length) then
 some false
 else
 D4 (Fp (fun e x=>f15_l1 a b e x) Fq (0:Int)) fun g=>
 F5 g (fun d=>
 some false) (fun c=>
 some true)
instance H15 (a b:LI): HE 15 [.dat T4 a,.dat T4 b] (f15 a b) (fun y=>[.dat .bool y]):=hd Tryz.f15 rfl fun y q=>by
 unfold f15 at q
 refine OL (OL (OL (cI q (fun q=>?_) (fun q=>?_))))
 ·exact gV
 refine OL (OL ?_)
 obtain ⟨j,h,q⟩:=bE q
 refine lJ h (fun x=>⟨[(0,.dat T4 a),(1,.dat T4 b),(5,.dat T0 x)],[],0⟩) (fun z=>Sum.elim (fun k=>[(1,⟨[(4,.dat .bool false)],[],0⟩)]) (fun l=>[(2,⟨[],[],0⟩)]) z) gV (fun m=>fun i z q=>?_) ?_
 ·have q:f15_l1 a b _ i=some z:=q
  unfold f15_l1 at q
  exact gV
 rcases j with d | c
 ·exact gV
 exact gV
def f7:Option Bool:=
 D4 (f33) fun r1=>
 D4 (f16 ([(1:Int)],[((ByteArray.mk #[100,101,110,115,101]),(1:Int),(0:Int))]) (1:Int) ([(0:Int),(0:Int)]) ([])) fun r2=>
 D4 (f33) fun r3=>
 D4 (f11 ([(1:Int)],[((ByteArray.mk #[100,101,110,115,101]),(1:Int),(0:Int))]) (1:Int) ([(0:Int),(0:Int)]) ([(8589934592:Int)],[(4294967296:Int)],(0:Int))) fun r4=>
 bif (r2.2.2.1==0) then
 bif ((r2.2.2.2.length:Int)==2) then
 Ey (0≤(0:Int)∧0<(r2.2.2.2.length:Int))<|
 bif (((rd (Ty.z T9) r2.2.2.2 0).1)==0&&((rd (Ty.z T9) r2.2.2.2 0).2)==0) then
 bif (r4.2.1==0) then
 bif (r4.1==4294967296) then
 D4 (f15 r4.2.2 ([(-17179869184:Int),(-8589934592:Int)])) fun r5=>
 some r5
 else
 some false
 else
 some false
 else
 some false
 else
 some false
 else
 some false
instance H7:HE 7 [] (f7) (fun y=>[.dat .bool y]):=hd Tryz.f7 rfl fun y q=>by
 unfold f7 at q
 refine OL (OL ?_)
 obtain ⟨d,h,q⟩:=bE q
 refine cL h gW ?_
 refine AI rfl (AI (lQ rfl) (R2 (AI TV (AI TV (OL ?_)))))
 obtain ⟨b,h,q⟩:=bE q
 refine cL h gW ?_
 refine R6 (AI (lQ rfl) (R2 (AI TV (AI TV (OL (OL ?_))))))
 obtain ⟨i,h,q⟩:=bE q
 refine cL h gW ?_
 refine AI rfl (AI (lQ rfl) (R2 (AI TV (AI TV (OL (OL (OL ?_)))))))
 obtain ⟨c,h,q⟩:=bE q
 refine cL h gW ?_
 refine R7 (AI (lQ rfl) (R2 (AI TV (AI TV (OL (cI q (fun q=>?_) (fun q=>?_)))))))
 ·refine gX (gX (cT (cI q (fun q=>?_) (fun q=>?_))))
  ·refine gX (gI q (fun q=>?_))
   refine gX (gX (gX (AI ⟨by kernel_rfl,by kernel_rfl,by decide,by decide⟩ ?_)))
   exact gV
  exact gV
 exact gV
def f13_l1 (n:Js) (b:(Int×LTz0)→Option LTz0) (i:Int) (a:LTz0):Option LTz0:=
 bif (decide (i<n.2.length)) then
 Ey (0≤i∧i<n.2.length)<|
 Ey (0≤i∧i<n.2.length)<|
 Ey (0≤i∧i<n.2.length)<|
 Ey ((a.length+List.length ([((rd (Ty.z T1) n.2 i).1,((rd (Ty.z T1) n.2 i).2).1,((rd (Ty.z T1) n.2 i).2).2)]))*32≤140737488355328)<|
 b ((i64.wrap (i+1)),(a++([((rd (Ty.z T1) n.2 i).1,((rd (Ty.z T1) n.2 i).2).1,((rd (Ty.z T1) n.2 i).2).2)])))
 else
 some a
def f13 (n:Js):Option Js:=
 D4 (Fp (fun a x=>f13_l1 n a x.1 x.2) Fq ((0:Int),[])) fun b=>
 some (n.1,b)
instance H13 (n:Js): HF 13 [.dat T2 n] [] 0 (f13 n) (fun y=>[.raw true [(.d T4 y.1),(.osl 0)]]) (fun y=>[(0,.arr 115 T1 y.2)]) 1:=hd Tryz.f13 rfl fun y q=>by
 unfold f13 at q
 refine OL (OL (OL (OL (OL ?_))))
 obtain ⟨c,h,q⟩:=bE q
 refine lJ h (fun x=>⟨[(1,P0 0 0),(2,P0 1 0),(3,P0 2 0),(4,.dat T0 x.1)],[(0,.cells [(.d T4 n.1),(.d T3 n.2)]),(1,.cells [N0,N0]),(2,.cells [(.d T4 n.1),(.osl 3)]),(3,.arr 115 T1 x.2)],4⟩) (fun z=>[(2,⟨[(2,P0 0 0),(3,P0 1 0)],[(0,.cells [N0,N0]),(1,.cells [(.d T4 n.1),(.osl 2)]),(2,.arr 115 T1 z)],3⟩)]) gV (fun m=>F3 (fun i=>fun b z q=>?_)) ?_
 ·have q:f13_l1 n _ i b=some z:=q
  unfold f13_l1 at q
  refine OL (OL (cI q (fun q=>?_) (fun q=>?_)))
  ·refine OL (EI (tU 0 21 (.alt 21 (.alt 22 (.take 23 (.alt 24 .done .done)) .done) .done)) (EI [(24,[2])] (EI [] (AI rfl ?_))))
   exact gV
  exact gV
 exact gV
def f95 (v b a:Int):Option Bool:=
 bif (decide (v≥b)) then
 some (decide (v≤a))
 else
 some false
instance H95 (v c b:Int): HE 95 [.dat T0 v,.dat T0 c,.dat T0 b] (f95 v c b) (fun y=>[.dat .bool y]):=hd Tryz.f95 rfl fun y q=>by
 unfold f95 at q
 exact gV
def f60_j1 (n:Js):Option (Sum Unit Unit):=
 bif ((n.1.length:Int)==1) then
 Ey (0≤(0:Int)∧0<(n.1.length:Int))<|
 D4 (f95 (rd 0 n.1 0) (1:Int) (1024:Int)) fun b=>
 bif (!b) then
 some (Sum.inr ())
 else
 some (Sum.inl ())
 else
 bif ((n.1.length:Int)==2) then
 Ey (0≤(0:Int)∧0<(n.1.length:Int))<|
 D4 (f95 (rd 0 n.1 0) (1:Int) (64:Int)) fun c=>
 bif (!c) then
 some (Sum.inr ())
 else
 Ey (0≤(1:Int)∧1<(n.1.length:Int))<|
 D4 (f95 (rd 0 n.1 1) (1:Int) (64:Int)) fun a=>
 bif (!a) then
 some (Sum.inr ())
 else
 some (Sum.inl ())
 else
 some (Sum.inr ())
def f60_j5 (n:Js) (i:Int):Option Bool:=
 bif (ByteArray.toList ((rd (Ty.z T1) n.2 i).1)==ByteArray.toList (ByteArray.mk #[100,101,110,115,101])) then
 D4 (f95 (((rd (Ty.z T1) n.2 i).2).1) (1:Int) (256:Int)) fun b=>
 bif b then
 some ((((rd (Ty.z T1) n.2 i).2).2)==0)
 else
 some false
 else
 bif (ByteArray.toList ((rd (Ty.z T1) n.2 i).1)==ByteArray.toList (ByteArray.mk #[99,111,110,118])) then
 D4 (f95 (((rd (Ty.z T1) n.2 i).2).1) (1:Int) (16:Int)) fun d=>
 bif d then
 D4 (f95 (((rd (Ty.z T1) n.2 i).2).2) (1:Int) (16:Int)) fun e=>
 some e
 else
 some false
 else
 bif (ByteArray.toList ((rd (Ty.z T1) n.2 i).1)==ByteArray.toList (ByteArray.mk #[112,111,111,108])) then
 D4 (f95 (((rd (Ty.z T1) n.2 i).2).1) (1:Int) (16:Int)) fun a=>
 bif a then
 some ((((rd (Ty.z T1) n.2 i).2).2)==0)
 else
 some false
 else
 bif (ByteArray.toList ((rd (Ty.z T1) n.2 i).1)==ByteArray.toList (ByteArray.mk #[98,101,110,100])) then
 D4 (f95 (((rd (Ty.z T1) n.2 i).2).1) (1:Int) (5:Int)) fun c=>
 bif c then
 some ((((rd (Ty.z T1) n.2 i).2).2)==0)
 else
 some false
 else
 bif (ByteArray.toList ((rd (Ty.z T1) n.2 i).1)==ByteArray.toList (ByteArray.mk #[115,107,105,112])) then
 bif ((((rd (Ty.z T1) n.2 i).2).1)==0) then
 some ((((rd (Ty.z T1) n.2 i).2).2)==0)
 else
 some false
 else
 some false
def f60_l4 (n:Js) (b:Int→Option (Sum Unit Unit)) (i:Int):Option (Sum Unit Unit):=
 bif (decide (i<n.2.length)) then
 Ey (0≤i∧i<n.2.length)<|
 D4 (f60_j5 n i) fun a=>
 bif (!a) then
 some (Sum.inl ())
 else
 b (i64.wrap (i+1))
 else
 some (Sum.inr ())
def f60 (n:Js):Option Bool:=
 D4 (f60_j1 n) fun h=>
 F5 h (fun g=>
 D4 (Fp (fun e x=>f60_l4 n e x) Fq (0:Int)) fun a=>
 F5 a (fun b=>
 some false) (fun c=>
 some true)) (fun d=>
 some false)
instance H60 (n:Js): HE 60 [.dat T2 n] (f60 n) (fun y=>[.dat .bool y]):=hd Tryz.f60 rfl fun y q=>by
 unfold f60 at q
 refine OL ?_
 obtain ⟨p,l,q⟩:=bE q
 let o:LH:=fun u=>(0,.cells [(.d T4 n.1),(.d T3 n.2)])::u
 refine OQ ⟨Sum.elim (fun d=>[(0,⟨[(1,P0 0 0)],o [],1⟩)]) (fun k=>[(1,⟨[(2,.dat .bool false)],[],0⟩)]) p,?_,?_⟩
 ·have q:=l
  unfold f60_j1 at q
  exact gV
 rcases p with d | k
 ·dsimp only [F5] at q
  refine AI (OL (OL ?_)) TV
  obtain ⟨c,h,q⟩:=bE q
  refine lJ h (fun x=>⟨[(1,P0 0 0),(3,.dat T0 x)],o [],1⟩) (fun z=>Sum.elim (fun v=>[(1,⟨[(2,.dat .bool false)],[],0⟩)]) (fun w=>[(3,⟨[],[],0⟩)]) z) gV (fun m=>fun i z q=>?_) ?_
  ·have q:f60_l4 n _ i=some z:=q
   unfold f60_l4 at q
   refine OL (OL (cI q (fun q=>?_) (fun q=>?_)))
   ·refine OL (OL (gI q (fun q=>?_)))
    refine OL (OL ?_)
    obtain ⟨j,b,q⟩:=bE q
    refine OQ ⟨[(0,⟨[(1,P0 0 0),(3,.dat T0 i),(5,.dat .bool j)],o [],1⟩)],?_,?_⟩
    ·have q:=b
     unfold f60_j5 at q
     exact gV
    exact gV
   exact gV
  rcases c with s | t
  ·exact gV
  exact gV
 exact gV
def f61_l1 (d:LI) (a:Ji→Option Int) (n i:Int):Option Int:=
 bif (decide (i<d.length)) then
 Ey (0≤i∧i<d.length)<|
 a ((i64.wrap (n*(rd 0 d i))),(i64.wrap (i+1)))
 else
 some n
def f61 (d:LI):Option Int:=
 D4 (Fp (fun a x=>f61_l1 d a x.1 x.2) Fq ((1:Int),(0:Int))) fun b=>
 some b
instance H61 (d:LI): HE 61 [.dat T4 d] (f61 d) (fun y=>[.dat T0 y]):=hd Tryz.f61 rfl fun y q=>by
 unfold f61 at q
 refine OL (OL (OL (OL ?_)))
 obtain ⟨b,h,q⟩:=bE q
 refine lJ h (fun x=>⟨[(0,.dat T4 d),(3,.dat T0 x.1),(4,.dat T0 x.2)],[],0⟩) (fun z=>[(2,⟨[(3,.dat T0 z)],[],0⟩)]) gV (fun m=>F3 (fun n=>fun i z q=>?_)) ?_
 ·have q:f61_l1 d _ n i=some z:=q
  unfold f61_l1 at q
  exact gV
 exact gV
def f62_l1 (a b:LI) (c:Int→Option (Sum Unit Unit)) (i:Int):Option (Sum Unit Unit):=
 bif (decide (i<a.length)) then
 Ey (0≤i∧i<a.length)<|
 Ey (0≤i∧i<b.length)<|
 bif ((rd 0 a i) != (rd 0 b i)) then
 some (Sum.inl ())
 else
 c (i64.wrap (i+1))
 else
 some (Sum.inr ())
def f62 (a b:LI):Option Bool:=
 bif ((a.length:Int) != b.length) then
 some false
 else
 D4 (Fp (fun e x=>f62_l1 a b e x) Fq (0:Int)) fun g=>
 F5 g (fun d=>
 some false) (fun c=>
 some true)
instance H62 (a b:LI): HE 62 [.dat T4 a,.dat T4 b] (f62 a b) (fun y=>[.dat .bool y]):=hd Tryz.f62 rfl fun y q=>by
 unfold f62 at q
 refine OL (OL (OL (cI q (fun q=>?_) (fun q=>?_))))
 ·exact gV
 refine OL (OL ?_)
 obtain ⟨j,h,q⟩:=bE q
 refine lJ h (fun x=>⟨[(0,.dat T4 a),(1,.dat T4 b),(5,.dat T0 x)],[],0⟩) (fun z=>Sum.elim (fun k=>[(1,⟨[(4,.dat .bool false)],[],0⟩)]) (fun l=>[(2,⟨[],[],0⟩)]) z) gV (fun m=>fun i z q=>?_) ?_
 ·have q:f62_l1 a b _ i=some z:=q
  unfold f62_l1 at q
  exact gV
 rcases j with d | c
 ·exact gV
 exact gV
def f34_j54 (n:Js) (a:Bool) (i b:Int):Option Bool:=
 bif a then
 some true
 else
 some (decide ((i64.wrap ((((rd (Ty.z T1) n.2 i).2).1)*b))>4096))
def f34_j57 (n:Js) (i:Int) (a:List LI):Option Bool:=
 bif ((List.length (rd (Ty.z T4) a (i64.wrap ((a.length:Int)-1))):Int) != 2) then
 some true
 else
 Ey (0≤(1:Int)∧(1:Int)<(List.length (rd (Ty.z T4) a (i64.wrap ((a.length:Int)-1))):Int))<|
 some (decide ((((rd (Ty.z T1) n.2 i).2).2)>(rd 0 (rd (Ty.z T4) a (i64.wrap ((a.length:Int)-1))) (1:Int))))
def f34_j56 (n:Js) (i:Int) (b:List LI):Option (Sum Unit Unit):=
 D4 (f34_j57 n i b) fun a=>
 bif a then
 some (Sum.inr ())
 else
 some (Sum.inl ())
def f34_j58 (n:Js) (a:Bool) (i:Int) (b:List LI):Option Bool:=
 bif a then
 some true
 else
 Ey (0≤(0:Int)∧(0:Int)<(List.length (rd (Ty.z T4) b (i64.wrap ((b.length:Int)-1))):Int))<|
 some (decide ((i64.wrap ((i64.wrap ((((rd (Ty.z T1) n.2 i).2).1)*(rd 0 (rd (Ty.z T4) b (i64.wrap ((b.length:Int)-1))) (0:Int))))*(((rd (Ty.z T1) n.2 i).2).2)))>4096))
def f34_j61 (n:Js) (i:Int) (a:List LI):Option Bool:=
 bif ((List.length (rd (Ty.z T4) a (i64.wrap ((a.length:Int)-1))):Int) != 2) then
 some true
 else
 Ey (0≤(1:Int)∧(1:Int)<(List.length (rd (Ty.z T4) a (i64.wrap ((a.length:Int)-1))):Int))<|
 some (decide ((((rd (Ty.z T1) n.2 i).2).1)>(rd 0 (rd (Ty.z T4) a (i64.wrap ((a.length:Int)-1))) (1:Int))))
def f34_j60 (n:Js) (i:Int) (b:List LI):Option (Sum Unit Unit):=
 D4 (f34_j61 n i b) fun a=>
 bif a then
 some (Sum.inr ())
 else
 some (Sum.inl ())
def f34_j62 (n:Js) (i:Int) (a:List LI):Option Bool:=
 bif (i==0) then
 some true
 else
 Ey (0≤(i64.wrap (i-1))∧(i64.wrap (i-1))<n.2.length)<|
 bif (ByteArray.toList ((rd (Ty.z T1) n.2 (i64.wrap (i-1))).1)==ByteArray.toList (ByteArray.mk #[115,107,105,112])) then
 some true
 else
 Ey (0≤(i64.wrap ((a.length:Int)-2))∧(i64.wrap ((a.length:Int)-2))<a.length)<|
 D4 (f62 (rd (Ty.z T4) a (i64.wrap ((a.length:Int)-2))) (rd (Ty.z T4) a (i64.wrap ((a.length:Int)-1)))) fun b=>
 some (!b)
def f34_j53 (n:Js) (c:Int) (b:Bool) (i:Int) (a:List LI):Option (Sum (Int×Bool×LI) Unit):=
 bif (ByteArray.toList ((rd (Ty.z T1) n.2 i).1)==ByteArray.toList (ByteArray.mk #[100,101,110,115,101])) then
 D4 (f61 (rd (Ty.z T4) a (i64.wrap ((a.length:Int)-1)))) fun d=>
 D4 (f34_j54 n b i d) fun g=>
 some (Sum.inl ((i64.wrap ((i64.wrap (c+(i64.wrap ((((rd (Ty.z T1) n.2 i).2).1)*d))))+(((rd (Ty.z T1) n.2 i).2).1))),g,[((rd (Ty.z T1) n.2 i).2).1]))
 else
 bif (ByteArray.toList ((rd (Ty.z T1) n.2 i).1)==ByteArray.toList (ByteArray.mk #[99,111,110,118])) then
 D4 (f34_j56 n i a) fun j=>
 F5 j (fun p=>
 D4 (f34_j58 n b i a) fun e=>
 Ey (0≤(0:Int)∧(0:Int)<(List.length (rd (Ty.z T4) a (i64.wrap ((a.length:Int)-1))):Int))<|
 Ey (0≤(1:Int)∧(1:Int)<(List.length (rd (Ty.z T4) a (i64.wrap ((a.length:Int)-1))):Int))<|
 some (Sum.inl ((i64.wrap (c+(i64.wrap ((i64.wrap ((((rd (Ty.z T1) n.2 i).2).1)*(rd 0 (rd (Ty.z T4) a (i64.wrap ((a.length:Int)-1))) (0:Int))))*(((rd (Ty.z T1) n.2 i).2).2))))),e,[((rd (Ty.z T1) n.2 i).2).1,(i64.wrap ((i64.wrap ((rd 0 (rd (Ty.z T4) a (i64.wrap ((a.length:Int)-1))) (1:Int))-(((rd (Ty.z T1) n.2 i).2).2)))+1))]))) (fun m=>
 some (Sum.inr ()))
 else
 bif (ByteArray.toList ((rd (Ty.z T1) n.2 i).1)==ByteArray.toList (ByteArray.mk #[112,111,111,108])) then
 D4 (f34_j60 n i a) fun h=>
 F5 h (fun l=>
 Ey (0≤(0:Int)∧(0:Int)<(List.length (rd (Ty.z T4) a (i64.wrap ((a.length:Int)-1))):Int))<|
 Ey (0≤(1:Int)∧(1:Int)<(List.length (rd (Ty.z T4) a (i64.wrap ((a.length:Int)-1))):Int))<|
 Ey ((((rd (Ty.z T1) n.2 i).2).1)≠0)<|
 some (Sum.inl (c,b,[(rd 0 (rd (Ty.z T4) a (i64.wrap ((a.length:Int)-1))) (0:Int)),(i64.wrap (Int.tdiv (rd 0 (rd (Ty.z T4) a (i64.wrap ((a.length:Int)-1))) (1:Int)) (((rd (Ty.z T1) n.2 i).2).1)))]))) (fun o=>
 some (Sum.inr ()))
 else
 bif (ByteArray.toList ((rd (Ty.z T1) n.2 i).1)==ByteArray.toList (ByteArray.mk #[115,107,105,112])) then
 D4 (f34_j62 n i a) fun k=>
 bif k then
 some (Sum.inr ())
 else
 some (Sum.inl (c,b,(rd (Ty.z T4) a (i64.wrap ((a.length:Int)-1)))))
 else
 some (Sum.inl (c,b,(rd (Ty.z T4) a (i64.wrap ((a.length:Int)-1)))))
def f34_j63 (a:Int×Bool×LI):Option Bool:=
 bif a.2.1 then
 some true
 else
 D4 (f61 a.2.2) fun b=>
 some (decide (b>4096))
def f34_j64 (a:Int×Bool×LI) (b:Bool):Option PTz14:=
 bif (decide (a.1>4096)) then
 some ((4097:Int),true)
 else
 some (a.1,b)
def f34_l43 (n:Js) (k:(Int×Bool×Int×(List LI))→Option (Sum Unit (Int×Bool×(List LI)))) (e:Int) (b:Bool) (i:Int) (c:List LI):Option (Sum Unit (Int×Bool×(List LI))):=
 bif (decide (i<n.2.length)) then
 Ey (0≤(i64.wrap ((c.length:Int)-1))∧(i64.wrap ((c.length:Int)-1))<c.length)<|
 Ey (0≤i∧i<n.2.length)<|
 D4 (f34_j53 n e b i c) fun h=>
 F5 h (fun a=>
 D4 (f34_j63 a) fun g=>
 D4 (f34_j64 a g) fun d=>
 Ey ((List.length ([]:LI)+a.2.2.length)*8≤140737488355328)<|
 Ey ((c.length+List.length ([(([]:LI)++a.2.2)]))*24≤140737488355328)<|
 k (d.1,d.2,(i64.wrap (i+1)),(c++([(([]:LI)++a.2.2)])))) (fun j=>
 some (Sum.inl ()))
 else
 some (Sum.inr (e,b,c))
def f34_j67 (n:Js) (a:Int×Bool×(List LI)):Option Bool:=
 bif a.2.1 then
 some true
 else
 D4 (f61 n.1) fun b=>
 some (decide (b>4096))
def f34_j66 (n:Js) (a:Int×Bool×(List LI)):Option (Sum Unit Unit):=
 D4 (f34_j67 n a) fun b=>
 bif b then
 some (Sum.inr ())
 else
 some (Sum.inl ())
def f34 (n:Js):Option (Int×Int×(List LI)):=
 D4 (f60 (n.1,n.2)) fun h=>
 bif (!h) then
 some ((0:Int),(1:Int),[])
 else
 Ey ((List.length ([]:LI)+n.1.length)*8≤140737488355328)<|
 D4 (Fp (fun i x=>f34_l43 n i x.1 x.2.1 x.2.2.1 x.2.2.2) Fq ((0:Int),(decide ((n.2.length:Int)>16)),(0:Int),[(([]:LI)++n.1)])) fun b=>
 F5 b (fun g=>
 some ((0:Int),(4:Int),[])) (fun a=>
 D4 (f34_j66 n a) fun c=>
 F5 c (fun e=>
 some (a.1,(0:Int),a.2.2)) (fun d=>
 some ((0:Int),(2:Int),[])))
instance H34 (n:Js): HF 34 [.dat T2 n] [] 0 (f34 n) (fun y=>[O0 0,.dat T0 y.1,.dat T0 y.2.1]) (fun y=>[(0,.arr 22 T4 y.2.2)]) 1:=hd Tryz.f34 rfl fun y q=>by
 unfold f34 at q
 refine OL (OL (OL ?_))
 obtain ⟨r1,h,q⟩:=bE q
 refine cL h gW ?_
 refine R3 (AI (lQ rfl) (R2 (AI TV (AI TV (cI q (fun q=>?_) (fun q=>?_))))))
 ·exact gV
 refine OL (OL (OL (gI q (fun q=>?_))))
 refine OL (OL (EI (tU 0 6 .done) (EI [] (EI [] (AI rfl (OL (OL ?_)))))))
 obtain ⟨d5,c7,q⟩:=bE q
 let o:LE:=fun d=>(1,P0 0 0)::(5,O0 1)::d
 let h1:LH:=fun d=>(0,.cells [(.d T4 n.1),(.d T3 n.2)])::d
 let w:LE:=fun d=>(2,.raw false [N0])::(3,D0 0)::d
 refine lJ c7 (fun x=>⟨o [(6,.dat T0 x.1),(7,.dat .bool x.2.1),(8,.dat T0 x.2.2.1)],h1 [(1,.arr 22 T4 x.2.2.2)],2⟩) (fun z=>Sum.elim (fun za=>[(1,⟨w [(4,D0 4)],[],0⟩)]) (fun zb=>[(2,⟨o [(6,.dat T0 zb.1),(7,.dat .bool zb.2.1)],h1 [(1,.arr 22 T4 zb.2.2)],2⟩)]) z) gV (fun m=>F3 (fun k=>F3 (fun c=>F3 (fun i=>fun l z q=>?_)))) ?_
 ·have q:f34_l43 n _ k c i l=some z:=q
  unfold f34_l43 at q
  refine OL (OL (cI q (fun q=>?_) (fun q=>?_)))
  ·refine OL (OL (gI q (fun q=>?_)))
   refine OL (gI q (fun q=>?_))
   refine OL ?_
   obtain ⟨c0,t,q⟩:=bE q
   let v:LH:=fun d=>h1 ((1,.arr 22 T4 l)::d)
   refine OQ ⟨Sum.elim (fun b=>[(0,⟨o [(6,.dat T0 b.1),(7,.dat .bool b.2.1),(8,.dat T0 i),(9,.dat T4 b.2.2)],v [],2⟩)]) (fun d0=>[(1,⟨w [(4,D0 4)],[],0⟩)]) c0,?_,?_⟩
   ·have q:=t
    clear t
    unfold f34_j53 at q
    refine OL (OL (cI q (fun q=>?_) (fun q=>?_)))
    ·refine OL ?_
     obtain ⟨d2,h,q⟩:=bE q
     refine cL h gW ?_
     refine R2 (AI (lQ rfl) (R2 (AI TV (AI TV ?_))))
     obtain ⟨d8,c5,q⟩:=bE q
     refine OQ ⟨[(0,⟨o [(6,.dat T0 k),(7,.dat .bool d8),(8,.dat T0 i),(10,P0 2 0),(11,.dat T0 d2)],v [(2,.cells [(.d .str ((rd (Ty.z T1) n.2 i).1)),(.d T0 (((rd (Ty.z T1) n.2 i).2).1)),(.d T0 (((rd (Ty.z T1) n.2 i).2).2))])],3⟩)],?_,?_⟩
     ·have q:=c5
      unfold f34_j54 at q
      exact gV
     exact gV
    refine OL (cI q (fun q=>?_) (fun q=>?_))
    ·obtain ⟨b3,p,q⟩:=bE q
     let e4:LE:=fun d=>o ((6,.dat T0 k)::(7,.dat .bool c)::(8,.dat T0 i)::(9,.dat T4 (rd (Ty.z T4) l (i64.wrap ((l.length:Int)-1))))::(10,P0 2 0)::d)
     let h5:LH:=fun d=>v ((2,.cells [(.d .str ((rd (Ty.z T1) n.2 i).1)),(.d T0 (((rd (Ty.z T1) n.2 i).2).1)),(.d T0 (((rd (Ty.z T1) n.2 i).2).2))])::d)
     refine OQ ⟨Sum.elim (fun b5=>[(0,⟨e4 [],h5 [],3⟩)]) (fun b7=>[(1,⟨w [(4,D0 4)],[],0⟩)]) b3,?_,?_⟩
     ·have q:=p
      clear p
      unfold f34_j56 at q
      obtain ⟨d3,b0,q⟩:=bE q
      refine OQ ⟨[(0,⟨e4 [(80,.dat .bool d3)],h5 [],3⟩)],?_,?_⟩
      ·have q:=b0
       unfold f34_j57 at q
       exact gV
      exact gV
     rcases b3 with b5 | b7
     ·dsimp only [F5] at q
      refine AI ?_ TV
      obtain ⟨d7,c4,q⟩:=bE q
      refine OQ ⟨[(0,⟨o [(6,.dat T0 k),(7,.dat .bool d7),(8,.dat T0 i),(9,.dat T4 (rd (Ty.z T4) l (i64.wrap ((l.length:Int)-1)))),(10,P0 2 0)],h5 [],3⟩)],?_,?_⟩
      ·have q:=c4
       unfold f34_j58 at q
       exact gV
      exact gV
     exact gV
    refine OL (cI q (fun q=>?_) (fun q=>?_))
    ·obtain ⟨b8,u,q⟩:=bE q
     let e6:LE:=fun d=>o ((6,.dat T0 k)::(7,.dat .bool c)::(8,.dat T0 i)::(9,.dat T4 (rd (Ty.z T4) l (i64.wrap ((l.length:Int)-1))))::(10,P0 2 0)::d)
     let h7:LH:=fun d=>v ((2,.cells [(.d .str ((rd (Ty.z T1) n.2 i).1)),(.d T0 (((rd (Ty.z T1) n.2 i).2).1)),(.d T0 (((rd (Ty.z T1) n.2 i).2).2))])::d)
     refine OQ ⟨Sum.elim (fun c3=>[(0,⟨e6 [],h7 [],3⟩)]) (fun b2=>[(1,⟨w [(4,D0 4)],[],0⟩)]) b8,?_,?_⟩
     ·have q:=u
      clear u
      unfold f34_j60 at q
      obtain ⟨d9,b4,q⟩:=bE q
      refine OQ ⟨[(0,⟨e6 [(127,.dat .bool d9)],h7 [],3⟩)],?_,?_⟩
      ·have q:=b4
       unfold f34_j61 at q
       exact gV
      exact gV
     rcases b8 with c3 | b2
     ·exact gV
     exact gV
    refine OL (cI q (fun q=>?_) (fun q=>?_))
    ·obtain ⟨d4,c6,q⟩:=bE q
     refine OQ ⟨[(0,⟨o [(6,.dat T0 k),(7,.dat .bool c),(8,.dat T0 i),(9,.dat T4 (rd (Ty.z T4) l (i64.wrap ((l.length:Int)-1)))),(162,.dat .bool d4)],v [],2⟩)],?_,?_⟩
     ·have q:=c6
      unfold f34_j62 at q
      exact gV
     exact gV
    exact gV
   rcases c0 with b | d0
   ·dsimp only [F5] at q
    refine AI ?_ TV
    obtain ⟨d1,b1,q⟩:=bE q
    refine OQ ⟨[(0,⟨o [(6,.dat T0 b.1),(7,.dat .bool d1),(8,.dat T0 i),(9,.dat T4 b.2.2)],v [],2⟩)],?_,?_⟩
    ·have q:=b1
     unfold f34_j63 at q
     exact gV
    refine AI ?_ TV
    obtain ⟨c2,b6,q⟩:=bE q
    refine OQ ⟨[(0,⟨o [(6,.dat T0 c2.1),(7,.dat .bool c2.2),(8,.dat T0 i),(9,.dat T4 b.2.2)],v [],2⟩)],?_,?_⟩
    ·have q:=b6
     unfold f34_j64 at q
     exact gV
    exact gV
   exact gV
  exact gV
 rcases d5 with i0 | j
 ·exact gV
 dsimp only [F5] at q
 refine AI ?_ TV
 obtain ⟨c9,s,q⟩:=bE q
 refine OQ ⟨Sum.elim (fun c1=>[(0,⟨[(5,O0 0),(6,.dat T0 j.1)],[(0,.arr 22 T4 j.2.2)],1⟩)]) (fun b9=>[(1,⟨w [(4,D0 2)],[],0⟩)]) c9,?_,?_⟩
 ·have q:=s
  clear s
  unfold f34_j66 at q
  obtain ⟨d6,c8,q⟩:=bE q
  refine OQ ⟨[(0,⟨[(5,O0 0),(6,.dat T0 j.1),(183,.dat .bool d6)],[(0,.arr 22 T4 j.2.2)],1⟩)],?_,?_⟩
  ·have q:=c8
   unfold f34_j67 at q
   exact gV
  exact gV
 rcases c9 with c1 | b9
 ·exact gV
 exact gV
def f8_j1 (n:Js):Option (Sum Unit Unit):=
 bif (decide ((n.1.length:Int)>4)) then
 some (Sum.inr ())
 else
 bif (decide ((n.2.length:Int)>6)) then
 some (Sum.inr ())
 else
 some (Sum.inl ())
def f8 (n:Js):Option PTz14:=
 D4 (f8_j1 n) fun e=>
 F5 e (fun d=>
 D4 (f13 (n.1,n.2)) fun b=>
 D4 (f34 (b.1,b.2)) fun a=>
 bif (a.2.1==0) then
 some (a.1,(decide (a.1≤80)))
 else
 some (a.1,false)) (fun c=>
 some ((0:Int),false))
instance H8 (n:Js): HE 8 [.dat T2 n] (f8 n) (fun y=>[.dat T0 y.1,.dat .bool y.2]):=hd Tryz.f8 rfl fun y q=>by
 unfold f8 at q
 refine OL ?_
 obtain ⟨i,d,q⟩:=bE q
 refine OQ ⟨Sum.elim (fun c=>[(0,⟨[(1,P0 0 0)],[(0,.cells [(.d T4 n.1),(.d T3 n.2)])],1⟩)]) (fun b=>[(1,⟨[(2,D0 0),(3,.dat .bool false)],[],0⟩)]) i,?_,?_⟩
 ·have q:=d
  unfold f8_j1 at q
  exact gV
 rcases i with c | b
 ·exact gV
 exact gV
def f9 (e:PTz12):Option Bool:=
 bif (decide ((e.1.length:Int)≤60)) then
 some (decide ((e.2.1.length:Int)≤60))
 else
 some false
instance H9 (e:PTz12): HE 9 [.dat T10 e] (f9 e) (fun y=>[.dat .bool y]):=hd Tryz.f9 rfl fun y q=>by
 unfold f9 at q
 exact gV
def f10_j4 (l:LI) (n i:Int):Option (Sum Unit Unit):=
 bif (decide (i<n)) then
 bif (decide ((l.length:Int)>0)) then
 some (Sum.inl ())
 else
 some (Sum.inr ())
 else
 some (Sum.inr ())
def f10_l3 (l:LI) (n:Int) (c:Jy→Option LI) (i:Int) (a:LI):Option LI:=
 D4 (f10_j4 l n i) fun e=>
 F5 e (fun d=>
 Ey ((l.length:Int)≠0)<|
 Ey (0≤(Int.tmod i (l.length:Int))∧(Int.tmod i (l.length:Int))<l.length)<|
 Ey (0≤i∧i<a.length)<|
 c ((i64.wrap (i+1)),(List.set a (Int.toNat i) (rd 0 l (Int.tmod i (l.length:Int)))))) (fun b=>
 some a)
def f10 (l:LI) (n:Int):Option LI:=
 Ey (0≤n∧n≤n∧Int.toNat n*8≤140737488355328)<|
 D4 (Fp (fun b x=>f10_l3 l n b x.1 x.2) Fq ((0:Int),(List.replicate (Int.toNat n) (0:Int)))) fun a=>
 some a
instance H10 (l:LI) (n:Int): HF 10 [.dat T4 l,.dat T0 n] [] 0 (f10 l n) (fun _=>[O0 0]) (fun y=>[(0,.arr 35 T0 y)]) 1:=hd Tryz.f10 rfl fun y q=>by
 unfold f10 at q
 refine OL (OL (gI q (fun q=>?_)))
 refine OL (OL ?_)
 obtain ⟨o,h,q⟩:=bE q
 refine lJ h (fun x=>⟨[(0,.dat T4 l),(1,.dat T0 n),(5,O0 0),(6,.dat T0 x.1)],[(0,.arr 35 T0 x.2)],1⟩) (fun z=>[(2,⟨[(5,O0 0)],[(0,.arr 35 T0 z)],1⟩)]) gV (fun m=>F3 (fun i=>fun c z q=>?_)) ?_
 ·have q:f10_l3 l n _ i c=some z:=q
  unfold f10_l3 at q
  obtain ⟨k,j,q⟩:=bE q
  refine OQ ⟨Sum.elim (fun d=>[(0,⟨[(0,.dat T4 l),(1,.dat T0 n),(5,O0 0),(6,.dat T0 i)],[(0,.arr 35 T0 c)],1⟩)]) (fun b=>[(2,⟨[(5,O0 0)],[(0,.arr 35 T0 c)],1⟩)]) k,?_,?_⟩
  ·have q:=j
   unfold f10_j4 at q
   exact gV
  rcases k with d | b
  ·exact gV
  exact gV
 exact gV
def f14 (e:PTz12):Option PTz12:=
 some (e.1,e.2.1,e.2.2)
instance H14 (e:PTz12): HE 14 [.dat T10 e] (f14 e) (fun y=>[.raw true [(.d T4 y.1),(.d T4 y.2.1),(.d T0 y.2.2)]]):=hd Tryz.f14 rfl fun y q=>by
 unfold f14 at q
 exact gV
def f173_j4 (d:LI) (i:Int):Option (Sum Unit Unit):=
 Ey (0≤i∧i<d.length)<|
 bif (decide ((rd 0 d i)<1)) then
 some (Sum.inr ())
 else
 Ey (0≤i∧i<d.length)<|
 bif (decide ((rd 0 d i)>4096)) then
 some (Sum.inr ())
 else
 some (Sum.inl ())
def f173_l3 (d:LI) (b:Ji→Option (Sum Unit Unit)) (n i:Int):Option (Sum Unit Unit):=
 bif (decide (i<d.length)) then
 D4 (f173_j4 d i) fun e=>
 F5 e (fun c=>
 Ey (0≤i∧i<d.length)<|
 bif (decide ((i64.wrap (n*(rd 0 d i)))>4096)) then
 some (Sum.inl ())
 else
 b ((i64.wrap (n*(rd 0 d i))),(i64.wrap (i+1)))) (fun a=>
 some (Sum.inl ()))
 else
 some (Sum.inr ())
def f173 (d:LI):Option Bool:=
 bif (decide ((d.length:Int)>4)) then
 some false
 else
 D4 (Fp (fun e x=>f173_l3 d e x.1 x.2) Fq ((1:Int),(0:Int))) fun b=>
 F5 b (fun c=>
 some false) (fun a=>
 some true)
instance H173 (d:LI): HE 173 [.dat T4 d] (f173 d) (fun y=>[.dat .bool y]):=hd Tryz.f173 rfl fun y q=>by
 unfold f173 at q
 refine OL (OL (OL (cI q (fun q=>?_) (fun q=>?_))))
 ·exact gV
 refine OL (OL (OL ?_))
 obtain ⟨o,h,q⟩:=bE q
 refine lJ h (fun x=>⟨[(0,.dat T4 d),(3,.dat T0 x.1),(4,.dat T0 x.2)],[],0⟩) (fun z=>Sum.elim (fun s=>[(1,⟨[(2,.dat .bool false)],[],0⟩)]) (fun t=>[(2,⟨[],[],0⟩)]) z) gV (fun m=>F3 (fun n=>fun i z q=>?_)) ?_
 ·have q:f173_l3 d _ n i=some z:=q
  unfold f173_l3 at q
  refine OL (OL (cI q (fun q=>?_) (fun q=>?_)))
  ·refine OL ?_
   obtain ⟨k,j,q⟩:=bE q
   refine OQ ⟨Sum.elim (fun c=>[(0,⟨[(0,.dat T4 d),(3,.dat T0 n),(4,.dat T0 i)],[],0⟩)]) (fun b=>[(1,⟨[(2,.dat .bool false)],[],0⟩)]) k,?_,?_⟩
   ·have q:=j
    unfold f173_j4 at q
    exact gV
   rcases k with c | b
   ·exact gV
   exact gV
  exact gV
 rcases o with p | l
 ·exact gV
 exact gV
def f122_l1 (d:LI) (a:Ji→Option Int) (n i:Int):Option Int:=
 bif (decide (i<d.length)) then
 Ey (0≤i∧i<d.length)<|
 a ((i64.wrap (n*(rd 0 d i))),(i64.wrap (i+1)))
 else
 some n
def f122 (d:LI):Option Int:=
 D4 (f173 d) fun a=>
 bif (!a) then
 some (0:Int)
 else
 D4 (Fp (fun b x=>f122_l1 d b x.1 x.2) Fq ((1:Int),(0:Int))) fun c=>
 some c
instance H122 (d:LI): HE 122 [.dat T4 d] (f122 d) (fun y=>[.dat T0 y]):=hd Tryz.f122 rfl fun y q=>by
 unfold f122 at q
 refine OL (OL (OL ?_))
 obtain ⟨b,h,q⟩:=bE q
 refine cL h gW ?_
 refine R2 (AI (lQ rfl) (R2 (AI TV (AI TV (cI q (fun q=>?_) (fun q=>?_))))))
 ·exact gV
 refine OL (OL (OL ?_))
 obtain ⟨c,h,q⟩:=bE q
 refine lJ h (fun x=>⟨[(0,.dat T4 d),(3,.dat T0 x.1),(4,.dat T0 x.2)],[],0⟩) (fun z=>[(2,⟨[(3,.dat T0 z)],[],0⟩)]) gV (fun m=>F3 (fun n=>fun i z q=>?_)) ?_
 ·have q:f122_l1 d _ n i=some z:=q
  unfold f122_l1 at q
  exact gV
 exact gV
def f118 (t:Fz):Option Bool:=
 D4 (f173 t.1) fun a=>
 bif a then
 D4 (f122 t.1) fun b=>
 some ((t.2.length:Int)==b)
 else
 some false
instance H118 (t:Fz): HE 118 [.dat T7 t] (f118 t) (fun y=>[.dat .bool y]):=hd Tryz.f118 rfl fun y q=>by
 unfold f118 at q
 exact gV
def f77_j1 (a:Fz):Option Unit:=
 Ey ((List.length ([]:LI)+a.1.length)*8≤140737488355328)<|
 Ey ((List.length ([]:LI)+a.2.length)*8≤140737488355328)<|
 some ()
def f77 (a:NL) (b:Fz):Option Ki:=
 bif (decide ((a.length:Int)≥512)) then
 some ((0:Int),(2:Int),a)
 else
 D4 (f118 (b.1,b.2)) fun c=>
 bif (!c) then
 some ((0:Int),(1:Int),a)
 else
 D4 (f77_j1 b) fun d=>
 Ey ((a.length+List.length ([((1:Int),(-1:Int),(-1:Int),(0:Int),(([]:LI)++b.1),(([]:LI)++b.2))]))*80≤140737488355328)<|
 some ((i64.wrap ((List.length (a++([((1:Int),(-1:Int),(-1:Int),(0:Int),(([]:LI)++b.1),(([]:LI)++b.2))])):Int)-1)),(0:Int),(a++([((1:Int),(-1:Int),(-1:Int),(0:Int),(([]:LI)++b.1),(([]:LI)++b.2))])))
instance H77 (d:NL) (j:Fz): HF 77 [P0 0 0,.dat T7 j] [(0,.cells [(.osl 1)]),(1,.arr 112 T6 d)] 2 (f77 d j) (fun y=>[.dat T0 y.1,.dat T0 y.2.1]) (fun y=>[(0,.cells [(.osl 2)]),(2,.arr 112 T6 y.2.2)]) 3:=hd Tryz.f77 rfl fun y q=>by
 unfold f77 at q
 refine OL (OL (OL (cI q (fun q=>?_) (fun q=>?_))))
 ·exact gV
 refine OL (OL ?_)
 obtain ⟨k,h,q⟩:=bE q
 refine cL h gW ?_
 refine R3 (AI (lQ rfl) (R2 (AI TV (AI TV (cI q (fun q=>?_) (fun q=>?_))))))
 ·exact gV
 obtain ⟨l,i,q⟩:=bE q
 refine OQ ⟨[(0,⟨[(0,P0 0 0),(6,P0 2 0)],[(0,.cells [(.osl 1)]),(1,.arr 112 T6 d),(2,.cells [(.osl 3),(.osl 4)]),(3,.arr 3 T0 (([]:LI)++j.1)),(4,.arr 35 T0 (([]:LI)++j.2))],5⟩)],?_,?_⟩
 ·have q:=i
  clear i
  unfold f77_j1 at q
  obtain ⟨c,q⟩:=gE q
  obtain ⟨b,q⟩:=gE q
  refine EI (.take 1 (.take 2 (.take 5 (.take 6 (.alt 0 (.alt 3 (.alt 4 (.alt 7 (.take 8 (.alt 9 (.alt 10 .done .done) .done)) (.alt 9 (.alt 7 (.take 8 (.alt 10 .done .done)) .done) .done)) (.alt 9 (.alt 4 (.alt 7 (.take 8 (.alt 10 .done .done)) .done) .done) .done)) (.alt 4 (.alt 3 (.alt 7 (.take 8 (.alt 9 (.alt 10 .done .done) .done)) (.alt 9 (.alt 7 (.take 8 (.alt 10 .done .done)) .done) .done)) (.alt 9 (.alt 3 (.alt 7 (.take 8 (.alt 10 .done .done)) .done) .done) .done)) (.alt 9 (.alt 3 (.alt 4 (.alt 7 (.take 8 (.alt 10 .done .done)) .done) .done) (.alt 4 (.alt 3 (.alt 7 (.take 8 (.alt 10 .done .done)) .done) .done) .done)) .done))) (.alt 4 (.alt 0 (.alt 3 (.alt 7 (.take 8 (.alt 9 (.alt 10 .done .done) .done)) (.alt 9 (.alt 7 (.take 8 (.alt 10 .done .done)) .done) .done)) (.alt 9 (.alt 3 (.alt 7 (.take 8 (.alt 10 .done .done)) .done) .done) .done)) (.alt 9 (.alt 0 (.alt 3 (.alt 7 (.take 8 (.alt 10 .done .done)) .done) .done) .done) .done)) (.alt 9 (.alt 0 (.alt 3 (.alt 4 (.alt 7 (.take 8 (.alt 10 .done .done)) .done) .done) (.alt 4 (.alt 3 (.alt 7 (.take 8 (.alt 10 .done .done)) .done) .done) .done)) (.alt 4 (.alt 0 (.alt 3 (.alt 7 (.take 8 (.alt 10 .done .done)) .done) .done) .done) .done)) .done))))))) (EI [] (EI [] (AI rfl ?_)))
  refine AI (AI (AI TV ?_) ?_) ?_
  ·refine AI (AI TV ?_) ?_
   ·refine OL (AI TV (OL (AI TV (OL (AI c (AI TV (OL (AI b ?_))))))))
    exact gV
   refine OL (AI (AI TV ?_) ?_)
   ·refine OL (AI TV (OL (AI c (AI TV (OL (AI b ?_))))))
    exact gV
   refine OL (AI c (AI TV (OL (AI TV (OL (AI b ?_))))))
   exact gV
  ·refine OL (AI (AI TV ?_) ?_)
   ·refine AI TV (OL (AI TV (OL (AI c (AI TV (OL (AI b ?_)))))))
    exact gV
   refine OL (AI (AI TV ?_) ?_)
   ·refine AI TV (OL (AI c (AI TV (OL (AI b ?_)))))
    exact gV
   refine OL (AI c (AI (AI TV ?_) ?_))
   ·refine AI TV (OL (AI b ?_))
    exact gV
   refine OL (AI b ?_)
   exact gV
  refine OL (AI (AI (AI TV ?_) ?_) ?_)
  ·refine AI (AI TV ?_) ?_
   ·refine OL (AI TV (OL (AI c (AI TV (OL (AI b ?_))))))
    exact gV
   refine OL (AI c (AI TV (OL (AI TV (OL (AI b ?_))))))
   exact gV
  ·refine OL (AI (AI TV ?_) ?_)
   ·refine AI TV (OL (AI c (AI TV (OL (AI b ?_)))))
    exact gV
   refine OL (AI c (AI (AI TV ?_) ?_))
   ·refine AI TV (OL (AI b ?_))
    exact gV
   refine OL (AI b ?_)
   exact gV
  refine OL (AI c (AI (AI TV ?_) ?_))
  ·refine AI TV (OL (AI TV (OL (AI b ?_))))
   exact gV
  refine OL (AI (AI TV ?_) ?_)
  ·refine AI TV (OL (AI b ?_))
   exact gV
  refine OL (AI b ?_)
  exact gV
 refine AI (OL (EI (tU 0 7 (.alt 7 (.alt 8 (.take 9 (.take 10 (.alt 11 .done .done))) .done) .done)) (EI [(11,[0])] (EI [] (AI rfl ?_))))) TV
 exact gV
def f119 (a:Int):Option Bool:=
 bif (a==2) then
 some true
 else
 bif (a==3) then
 some true
 else
 bif (a==4) then
 some true
 else
 bif (a==6) then
 some true
 else
 some (a==12)
instance H119 (b:Int): HE 119 [.dat T0 b] (f119 b) (fun y=>[.dat .bool y]):=hd Tryz.f119 rfl fun y q=>by
 unfold f119 at q
 exact gV
def f120 (a:Int):Option Bool:=
 bif (a==5) then
 some true
 else
 bif (a==8) then
 some true
 else
 bif (a==11) then
 some true
 else
 bif (a==12) then
 some true
 else
 some (a==13)
instance H120 (b:Int): HE 120 [.dat T0 b] (f120 b) (fun y=>[.dat .bool y]):=hd Tryz.f120 rfl fun y q=>by
 unfold f120 at q
 exact gV
def f136_j1 (a b:LI):Option (Sum Unit Unit):=
 D4 (f173 a) fun c=>
 bif (!c) then
 some (Sum.inr ())
 else
 D4 (f173 b) fun d=>
 bif (!d) then
 some (Sum.inr ())
 else
 some (Sum.inl ())
def f136_j2 (a b:LI):Option Int:=
 bif (decide ((b.length:Int)>a.length)) then
 some (b.length:Int)
 else
 some (a.length:Int)
def f136_j12 (a:LI) (i:Int):Option Int:=
 bif (decide (i≤a.length)) then
 Ey (0≤(i64.wrap ((a.length:Int)-i))∧(i64.wrap ((a.length:Int)-i))<a.length)<|
 some (rd 0 a (i64.wrap ((a.length:Int)-i)))
 else
 some (1:Int)
def f136_j13 (b:LI) (i:Int):Option Int:=
 bif (decide (i≤b.length)) then
 Ey (0≤(i64.wrap ((b.length:Int)-i))∧(i64.wrap ((b.length:Int)-i))<b.length)<|
 some (rd 0 b (i64.wrap ((b.length:Int)-i)))
 else
 some (1:Int)
def f136_j14 (b a:Int):Option (Sum Unit Unit):=
 bif (b != a) then
 bif (b != 1) then
 bif (a != 1) then
 some (Sum.inr ())
 else
 some (Sum.inl ())
 else
 some (Sum.inl ())
 else
 some (Sum.inl ())
def f136_j15 (b a:Int):Option Int:=
 bif (decide (a>b)) then
 some a
 else
 some b
def f136_l11 (a b:LI) (e:Int) (m:Jy→Option (Sum Unit LI)) (i:Int) (g:LI):Option (Sum Unit LI):=
 bif (decide (i≤e)) then
 D4 (f136_j12 a i) fun c=>
 D4 (f136_j13 b i) fun d=>
 D4 (f136_j14 c d) fun h=>
 F5 h (fun k=>
 D4 (f136_j15 c d) fun j=>
 Ey (0≤(i64.wrap (e-i))∧(i64.wrap (e-i))<g.length)<|
 m ((i64.wrap (i+1)),(List.set g (Int.toNat (i64.wrap (e-i))) j))) (fun l=>
 some (Sum.inl ()))
 else
 some (Sum.inr g)
def f136 (a b:LI):Option Jy:=
 D4 (f136_j1 a b) fun j=>
 F5 j (fun k=>
 D4 (f136_j2 a b) fun d=>
 Ey (0≤d∧d≤d∧Int.toNat d*8≤140737488355328)<|
 D4 (Fp (fun l x=>f136_l11 a b d l x.1 x.2) Fq ((1:Int),(List.replicate (Int.toNat d) (0:Int)))) fun g=>
 F5 g (fun h=>
 some ((4:Int),[])) (fun c=>
 D4 (f173 c) fun e=>
 bif (!e) then
 some ((2:Int),[])
 else
 some ((0:Int),c))) (fun i=>
 some ((1:Int),[]))
instance H136 (a b:LI): HF 136 [.dat T4 a,.dat T4 b] [] 0 (f136 a b) (fun y=>[O0 0,.dat T0 y.1]) (fun y=>[(0,.arr 3 T0 y.2)]) 1:=hd Tryz.f136 rfl fun y q=>by
 unfold f136 at q
 refine OL ?_
 obtain ⟨z3,b0,q⟩:=bE q
 let e0:LE:=fun k=>(0,.dat T4 a)::(1,.dat T4 b)::k
 refine OQ ⟨Sum.elim (fun b3=>[(0,⟨e0 [],[],0⟩)]) (fun w=>[(1,⟨[(4,.raw false [N0]),(5,D0 1)],[],0⟩)]) z3,?_,?_⟩
 ·have q:=b0
  unfold f136_j1 at q
  exact gV
 rcases z3 with b3 | w
 ·dsimp only [F5] at q
  refine AI (OL ?_) TV
  obtain ⟨z6,b4,q⟩:=bE q
  let e1:LE:=fun k=>e0 ((6,.dat T0 z6)::k)
  refine OQ ⟨[(0,⟨e1 [],[],0⟩)],?_,?_⟩
  ·have q:=b4
   unfold f136_j2 at q
   exact gV
  refine AI (OL (gI q (fun q=>?_))) TV
  refine OL (OL ?_)
  obtain ⟨b1,h,q⟩:=bE q
  refine lJ h (fun x=>⟨e1 [(7,O0 0),(8,.dat T0 x.1)],[(0,.arr 3 T0 x.2)],1⟩) (fun z=>Sum.elim (fun za=>[(1,⟨[(4,.raw false [N0]),(5,D0 4)],[],0⟩)]) (fun zb=>[(2,⟨[(7,O0 0)],[(0,.arr 3 T0 zb)],1⟩)]) z) gV (fun m=>F3 (fun i=>fun l z q=>?_)) ?_
  ·have q:f136_l11 a b z6 _ i l=some z:=q
   unfold f136_l11 at q
   refine OL (OL (cI q (fun q=>?_) (fun q=>?_)))
   ·refine OL (OL ?_)
    obtain ⟨c,u,q⟩:=bE q
    let v:LE:=fun k=>e1 ((7,O0 0)::(8,.dat T0 i)::k)
    refine OQ ⟨[(0,⟨v [(9,.dat T0 c),(10,D0 1)],[(0,.arr 3 T0 l)],1⟩)],?_,?_⟩
    ·have q:=u
     unfold f136_j12 at q
     exact gV
    refine AI ?_ TV
    obtain ⟨j,p,q⟩:=bE q
    refine OQ ⟨[(0,⟨v [(9,.dat T0 c),(10,.dat T0 j)],[(0,.arr 3 T0 l)],1⟩)],?_,?_⟩
    ·have q:=p
     unfold f136_j13 at q
     exact gV
    refine AI ?_ TV
    obtain ⟨n,d,q⟩:=bE q
    refine OQ ⟨Sum.elim (fun s=>[(0,⟨v [(9,.dat T0 c),(10,.dat T0 j)],[(0,.arr 3 T0 l)],1⟩)]) (fun t=>[(1,⟨[(4,.raw false [N0]),(5,D0 4)],[],0⟩)]) n,?_,?_⟩
    ·have q:=d
     unfold f136_j14 at q
     exact gV
    rcases n with s | t
    ·dsimp only [F5] at q
     refine AI ?_ TV
     obtain ⟨b2,o,q⟩:=bE q
     refine OQ ⟨[(0,⟨v [(9,.dat T0 b2)],[(0,.arr 3 T0 l)],1⟩)],?_,?_⟩
     ·have q:=o
      unfold f136_j15 at q
      exact gV
     exact gV
    exact gV
   exact gV
  rcases b1 with b6 | b5
  ·exact gV
  exact gV
 exact gV
def f79_l1 (v:Int) (b:Jy→Option LI) (i:Int) (a:LI):Option LI:=
 bif (decide (i<a.length)) then
 Ey (0≤i∧i<a.length)<|
 b ((i64.wrap (i+1)),(List.set a (Int.toNat i) v))
 else
 some a
def f79 (d:LI) (v:Int):Option Fz:=
 Ey ((List.length ([]:LI)+d.length)*8≤140737488355328)<|
 D4 (f122 d) fun a=>
 Ey (0≤a∧a≤a∧Int.toNat a*8≤140737488355328)<|
 D4 (Fp (fun b x=>f79_l1 v b x.1 x.2) Fq ((0:Int),(List.replicate (Int.toNat a) (0:Int)))) fun c=>
 some ((([]:LI)++d),c)
instance H79 (d:LI) (v:Int): HF 79 [.dat T4 d,.dat T0 v] [] 0 (f79 d v) (fun _=>[.raw true [(.osl 0),(.osl 1)]]) (fun y=>[(0,.arr 3 T0 y.1),(1,.arr 35 T0 y.2)]) 2:=hd Tryz.f79 rfl fun y q=>by
 unfold f79 at q
 refine OL (OL (OL (OL (gI q (fun q=>?_)))))
 obtain ⟨l,h,q⟩:=bE q
 refine cL h gW ?_
 refine R2 (AI (lQ rfl) (R2 (AI TV (AI TV (gI q (fun q=>?_))))))
 refine OL (OL (OL ?_))
 obtain ⟨n,b,q⟩:=bE q
 let c:LH:=fun k=>(0,.cells [N0,N0])::(1,.cells [(.osl 2),(.osl 3)])::(2,.arr 3 T0 (([]:LI)++d))::k
 refine lJ b (fun x=>⟨[(1,.dat T0 v),(4,P0 0 0),(5,P0 1 0),(6,.dat T0 x.1)],c [(3,.arr 35 T0 x.2)],4⟩) (fun z=>[(2,⟨[(4,P0 0 0),(5,P0 1 0)],c [(3,.arr 35 T0 z)],4⟩)]) gV (fun m=>F3 (fun i=>fun j z q=>?_)) ?_
 ·have q:f79_l1 v _ i j=some z:=q
  unfold f79_l1 at q
  exact gV
 exact gV
def f127_j1 (d:LI) (a:Int):Option (Sum Unit Unit):=
 D4 (f173 d) fun b=>
 bif (!b) then
 some (Sum.inr ())
 else
 bif (decide (a<0)) then
 some (Sum.inr ())
 else
 D4 (f122 d) fun c=>
 bif (decide (a≥c)) then
 some (Sum.inr ())
 else
 some (Sum.inl ())
def f127_l2 (d:LI) (c:(Int×Jy)→Option LI) (a i:Int) (b:LI):Option LI:=
 bif (decide (i≥0)) then
 Ey (0≤i∧i<d.length)<|
 Ey ((rd 0 d i)≠0)<|
 Ey (0≤i∧i<b.length)<|
 Ey (0≤i∧i<d.length)<|
 Ey ((rd 0 d i)≠0)<|
 c ((i64.wrap (Int.tdiv a (rd 0 d i))),(i64.wrap (i-1)),(List.set b (Int.toNat i) (Int.tmod a (rd 0 d i))))
 else
 some b
def f127 (d:LI) (a:Int):Option (Bool×LI):=
 D4 (f127_j1 d a) fun c=>
 F5 c (fun e=>
 Ey (0≤(d.length:Int)∧(d.length:Int)≤d.length∧Int.toNat (d.length:Int)*8≤140737488355328)<|
 D4 (Fp (fun g x=>f127_l2 d g x.1 x.2.1 x.2.2) Fq (a,(i64.wrap ((d.length:Int)-1)),(List.replicate (Int.toNat (d.length:Int)) (0:Int)))) fun h=>
 some (true,h)) (fun b=>
 some (false,[]))
instance H127 (d:LI) (b:Int): HF 127 [.dat T4 d,.dat T0 b] [] 0 (f127 d b) (fun y=>[O0 0,.dat .bool y.1]) (fun y=>[(0,.arr 3 T0 y.2)]) 1:=hd Tryz.f127 rfl fun y q=>by
 unfold f127 at q
 refine OL ?_
 obtain ⟨n,l,q⟩:=bE q
 refine OQ ⟨Sum.elim (fun k=>[(0,⟨[(0,.dat T4 d),(1,.dat T0 b)],[],0⟩)]) (fun j=>[(1,⟨[(4,.raw false [N0]),(5,.dat .bool false)],[],0⟩)]) n,?_,?_⟩
 ·have q:=l
  unfold f127_j1 at q
  exact gV
 rcases n with k | j
 ·dsimp only [F5] at q
  refine AI (OL (gI q (fun q=>?_))) TV
  refine OL (OL ?_)
  obtain ⟨p,h,q⟩:=bE q
  refine lJ h (fun x=>⟨[(0,.dat T4 d),(1,.dat T0 x.1),(6,O0 0),(7,.dat T0 x.2.1)],[(0,.arr 3 T0 x.2.2)],1⟩) (fun z=>[(2,⟨[(6,O0 0)],[(0,.arr 3 T0 z)],1⟩)]) gV (fun m=>F3 (fun c=>F3 (fun i=>fun o z q=>?_))) ?_
  ·have q:f127_l2 d _ c i o=some z:=q
   unfold f127_l2 at q
   exact gV
  exact gV
 exact gV
def f137_j1 (a:LI) (b:Jy):Option (Sum Unit Unit):=
 bif (b.1 != 0) then
 some (Sum.inr ())
 else
 D4 (f62 b.2 a) fun c=>
 bif (!c) then
 some (Sum.inr ())
 else
 some (Sum.inl ())
def f137_j5 (d:LI) (a:Bool×LI) (i:Int):Option Int:=
 Ey (0≤i∧i<d.length)<|
 bif ((rd 0 d i)==1) then
 some (0:Int)
 else
 some (rd 0 a.2 (i64.wrap ((i64.wrap ((a.2.length:Int)-d.length))+i)))
def f137_l4 (d:LI) (a:Bool×LI) (c:Ji→Option Int) (n i:Int):Option Int:=
 bif (decide (i<d.length)) then
 Ey (0≤(i64.wrap ((i64.wrap ((a.2.length:Int)-d.length))+i))∧(i64.wrap ((i64.wrap ((a.2.length:Int)-d.length))+i))<a.2.length)<|
 D4 (f137_j5 d a i) fun b=>
 Ey (0≤i∧i<d.length)<|
 c ((i64.wrap ((i64.wrap (n*(rd 0 d i)))+b)),(i64.wrap (i+1)))
 else
 some n
def f137 (d a:LI) (b:Int):Option PTz14:=
 D4 (f136 d a) fun i=>
 D4 (f137_j1 a i) fun h=>
 F5 h (fun j=>
 D4 (f127 a b) fun c=>
 bif (!c.1) then
 some ((0:Int),false)
 else
 D4 (Fp (fun k x=>f137_l4 d c k x.1 x.2) Fq ((0:Int),(0:Int))) fun e=>
 some (e,true)) (fun g=>
 some ((0:Int),false))
instance H137 (d c:LI) (b:Int): HE 137 [.dat T4 d,.dat T4 c,.dat T0 b] (f137 d c b) (fun y=>[.dat T0 y.1,.dat .bool y.2]):=hd Tryz.f137 rfl fun y q=>by
 unfold f137 at q
 refine OL (OL ?_)
 obtain ⟨u,h,q⟩:=bE q
 refine cL h gW ?_
 refine R3 (AI (lQ rfl) (R2 (AI TV (AI TV ?_))))
 obtain ⟨s,k,q⟩:=bE q
 refine OQ ⟨Sum.elim (fun p=>[(0,⟨[(0,.dat T4 d),(1,.dat T4 c),(2,.dat T0 b)],[],0⟩)]) (fun j=>[(1,⟨[(6,D0 0),(7,.dat .bool false)],[],0⟩)]) s,?_,?_⟩
 ·have q:=k
  unfold f137_j1 at q
  exact gV
 rcases s with p | j
 ·dsimp only [F5] at q
  refine AI (OL ?_) TV
  obtain ⟨l,h,q⟩:=bE q
  refine cL h gW ?_
  refine R3 (AI (lQ rfl) (R2 (AI TV (AI TV (OL (OL (cI q (fun q=>?_) (fun q=>?_))))))))
  ·exact gV
  refine OL (OL (OL ?_))
  obtain ⟨v,h,q⟩:=bE q
  refine lJ h (fun x=>⟨[(0,.dat T4 d),(10,O0 0),(12,.dat T0 x.1),(13,.dat T0 x.2)],[(0,.arr 3 T0 l.2)],1⟩) (fun z=>[(2,⟨[(12,.dat T0 z)],[],0⟩)]) gV (fun m=>F3 (fun n=>fun i z q=>?_)) ?_
  ·have q:f137_l4 d l _ n i=some z:=q
   unfold f137_l4 at q
   refine OL (OL (cI q (fun q=>?_) (fun q=>?_)))
   ·refine OL (OL (gI q (fun q=>?_)))
    obtain ⟨t,o,q⟩:=bE q
    refine OQ ⟨[(0,⟨[(0,.dat T4 d),(10,O0 0),(12,.dat T0 n),(13,.dat T0 i),(14,.dat T0 t)],[(0,.arr 3 T0 l.2)],1⟩)],?_,?_⟩
    ·have q:=o
     unfold f137_j5 at q
     exact gV
    exact gV
   exact gV
  exact gV
 exact gV
def f85 (n:Int):Option Int:=
 bif (decide (n<0)) then
 some (u64.wrap ((u64.wrap (i64.wrap (0-(i64.wrap (n+1)))))+1))
 else
 some (u64.wrap n)
instance H85 (n:Int): HE 85 [.dat T0 n] (f85 n) (fun y=>[.dat T8 y]):=hd Tryz.f85 rfl fun y q=>by
 unfold f85 at q
 exact gV
def f48 (n:Int):Option (Bool×Int):=
 D4 (f85 n) fun a=>
 some ((decide (n<0)),a)
instance H48 (n:Int): HE 48 [.dat T0 n] (f48 n) (fun y=>[.raw true [(.d .bool y.1),(.d T8 y.2),(.d T8 (0:Int)),(.d T8 (0:Int)),(.d T8 (0:Int))]]):=hd Tryz.f48 rfl fun y q=>by
 unfold f48 at q
 exact gV
def f138_l1 (h j k g l m o n:Int) (p:(Int×Int×PTz4)→Option PTz4) (a i d c b e:Int):Option PTz4:=
 bif (decide (i<4)) then
 Ey (0≤i∧i<4)<|
 pickF i
 [(bif (decide ((u64.wrap (h+l))<h)) then
 p ((1:Int),(i64.wrap (i+1)),(u64.wrap ((u64.wrap (h+l))+a)),c,b,e)
 else
 bif (decide ((u64.wrap ((u64.wrap (h+l))+a))<(u64.wrap (h+l)))) then
 p ((1:Int),(i64.wrap (i+1)),(u64.wrap ((u64.wrap (h+l))+a)),c,b,e)
 else
 p ((0:Int),(i64.wrap (i+1)),(u64.wrap ((u64.wrap (h+l))+a)),c,b,e)),
 (bif (decide ((u64.wrap (j+m))<j)) then
 p ((1:Int),(i64.wrap (i+1)),d,(u64.wrap ((u64.wrap (j+m))+a)),b,e)
 else
 bif (decide ((u64.wrap ((u64.wrap (j+m))+a))<(u64.wrap (j+m)))) then
 p ((1:Int),(i64.wrap (i+1)),d,(u64.wrap ((u64.wrap (j+m))+a)),b,e)
 else
 p ((0:Int),(i64.wrap (i+1)),d,(u64.wrap ((u64.wrap (j+m))+a)),b,e)),
 (bif (decide ((u64.wrap (k+o))<k)) then
 p ((1:Int),(i64.wrap (i+1)),d,c,(u64.wrap ((u64.wrap (k+o))+a)),e)
 else
 bif (decide ((u64.wrap ((u64.wrap (k+o))+a))<(u64.wrap (k+o)))) then
 p ((1:Int),(i64.wrap (i+1)),d,c,(u64.wrap ((u64.wrap (k+o))+a)),e)
 else
 p ((0:Int),(i64.wrap (i+1)),d,c,(u64.wrap ((u64.wrap (k+o))+a)),e)),
 (bif (decide ((u64.wrap (g+n))<g)) then
 p ((1:Int),(i64.wrap (i+1)),d,c,b,(u64.wrap ((u64.wrap (g+n))+a)))
 else
 bif (decide ((u64.wrap ((u64.wrap (g+n))+a))<(u64.wrap (g+n)))) then
 p ((1:Int),(i64.wrap (i+1)),d,c,b,(u64.wrap ((u64.wrap (g+n))+a)))
 else
 p ((0:Int),(i64.wrap (i+1)),d,c,b,(u64.wrap ((u64.wrap (g+n))+a))))]
 else
 some (d,c,b,e)
def f138 (h i j c b d g e:Int):Option PTz4:=
 D4 (Fp (fun k x=>f138_l1 h i j c b d g e k x.1 x.2.1 x.2.2.1 x.2.2.2.1 x.2.2.2.2.1 x.2.2.2.2.2) Fq ((0:Int),(0:Int),(0:Int),(0:Int),(0:Int),(0:Int))) fun a=>
 some (a.1,a.2.1,a.2.2.1,a.2.2.2)
instance H138 (v w t n u o s p:Int): HE 138 [.raw true [(.d T8 v),(.d T8 w),(.d T8 t),(.d T8 n)],.raw true [(.d T8 u),(.d T8 o),(.d T8 s),(.d T8 p)]] (f138 v w t n u o s p) (fun y=>[.raw true [(.d T8 y.1),(.d T8 y.2.1),(.d T8 y.2.2.1),(.d T8 y.2.2.2)]]):=hd Tryz.f138 rfl fun y q=>by
 unfold f138 at q
 refine OL (OL (OL (OL (OL ?_))))
 obtain ⟨z3,h,q⟩:=bE q
 refine lJ h (fun x=>⟨[(2,P0 0 0),(3,P0 1 0),(4,P0 2 0),(5,P0 3 0),(6,.dat T8 x.1),(7,.dat T0 x.2.1)],[(0,.cells [(.d T8 v),(.d T8 w),(.d T8 t),(.d T8 n)]),(1,.cells [(.d T8 u),(.d T8 o),(.d T8 s),(.d T8 p)]),(2,.cells [(.d T8 (0:Int)),(.d T8 (0:Int)),(.d T8 (0:Int)),(.d T8 (0:Int))]),(3,.cells [(.d T8 x.2.2.1),(.d T8 x.2.2.2.1),(.d T8 x.2.2.2.2.1),(.d T8 x.2.2.2.2.2)])],4⟩) (fun z=>[(2,⟨[(4,P0 0 0),(5,P0 1 0)],[(0,.cells [(.d T8 (0:Int)),(.d T8 (0:Int)),(.d T8 (0:Int)),(.d T8 (0:Int))]),(1,.cells [(.d T8 z.1),(.d T8 z.2.1),(.d T8 z.2.2.1),(.d T8 z.2.2.2)])],2⟩)]) gV (fun m=>F3 (fun c=>F3 (fun i=>F3 (fun d=>F3 (fun k=>F3 (fun j=>fun l z q=>?_)))))) ?_
 ·have q:f138_l1 v w t n u o s p _ c i d k j l=some z:=q
  unfold f138_l1 at q
  refine OL (OL (cI q (fun q=>?_) (fun q=>?_)))
  ·refine OL (OL (EI (tU 0 8 .done) (EI [] (EI [] (AI rfl (gI q (fun q=>?_)))))))
   refine AI (fun b=>?_) ?_
   ·have q:=Jp q b
    dsimp only [nthO] at q
    refine AI (rE b (by decide)) (AI (fun _=>?_) (AI (fun h=>absurd (b.symm.trans h) (by decide)) (AI (fun h=>absurd (b.symm.trans h) (by decide)) (AI (fun h=>absurd (b.symm.trans h) (by decide)) TV))))
    refine OL (OL (AI (rE b (by decide)) (AI (fun _=>?_) (AI (fun h=>absurd (b.symm.trans h) (by decide)) (AI (fun h=>absurd (b.symm.trans h) (by decide)) (AI (fun h=>absurd (b.symm.trans h) (by decide)) TV))))))
    refine OL (OL (AI (rE b (by decide)) (AI (fun _=>?_) (AI (fun h=>absurd (b.symm.trans h) (by decide)) (AI (fun h=>absurd (b.symm.trans h) (by decide)) (AI (fun h=>absurd (b.symm.trans h) (by decide)) TV))))))
    refine cN q (fun q=>?_) (fun q=>?_)
    ·refine gY (gY (cF (cI q (fun q=>?_) (fun q=>?_))))
     ·refine EI ((1:Int),(i64.wrap (i+1)),(u64.wrap ((u64.wrap (v+u))+c)),k,j,l) (AI q (E4 I4 (R3 (AI (R4 TV) (R4 TV)))))
     refine EI ((0:Int),(i64.wrap (i+1)),(u64.wrap ((u64.wrap (v+u))+c)),k,j,l) (AI q (E4 I4 (R3 (AI (R4 TV) (R4 TV)))))
    refine gN (gN (cT (cT (EI ((1:Int),(i64.wrap (i+1)),(u64.wrap ((u64.wrap (v+u))+c)),k,j,l) (AI q (E4 I4 (R3 (AI (R4 TV) (R4 TV)))))))))
   refine AI (fun b=>?_) ?_
   ·have q:=Jp q b
    dsimp only [nthO] at q
    refine AI (rE b (by decide)) (AI (fun h=>absurd (b.symm.trans h) (by decide)) ?_)
    refine AI (fun _=>?_) (AI (fun h=>absurd (b.symm.trans h) (by decide)) (AI (fun h=>absurd (b.symm.trans h) (by decide)) TV))
    refine OL (OL (AI (rE b (by decide)) (AI (fun h=>absurd (b.symm.trans h) (by decide)) ?_)))
    refine AI (fun _=>?_) (AI (fun h=>absurd (b.symm.trans h) (by decide)) (AI (fun h=>absurd (b.symm.trans h) (by decide)) TV))
    refine OL (OL (AI (rE b (by decide)) (AI (fun h=>absurd (b.symm.trans h) (by decide)) ?_)))
    refine AI (fun _=>?_) (AI (fun h=>absurd (b.symm.trans h) (by decide)) (AI (fun h=>absurd (b.symm.trans h) (by decide)) TV))
    refine cN q (fun q=>?_) (fun q=>?_)
    ·refine gY (gY (cF (cI q (fun q=>?_) (fun q=>?_))))
     ·refine EI ((1:Int),(i64.wrap (i+1)),d,(u64.wrap ((u64.wrap (w+o))+c)),j,l) (AI q (E4 I4 (R3 (AI (R4 TV) (R4 TV)))))
     refine EI ((0:Int),(i64.wrap (i+1)),d,(u64.wrap ((u64.wrap (w+o))+c)),j,l) (AI q (E4 I4 (R3 (AI (R4 TV) (R4 TV)))))
    refine gN (gN (cT (cT (EI ((1:Int),(i64.wrap (i+1)),d,(u64.wrap ((u64.wrap (w+o))+c)),j,l) (AI q (E4 I4 (R3 (AI (R4 TV) (R4 TV)))))))))
   refine AI (fun b=>?_) ?_
   ·have q:=Jp q b
    dsimp only [nthO] at q
    refine AI (rE b (by decide)) (AI (fun h=>absurd (b.symm.trans h) (by decide)) ?_)
    refine AI (fun h=>absurd (b.symm.trans h) (by decide)) ?_
    refine AI (fun _=>?_) (AI (fun h=>absurd (b.symm.trans h) (by decide)) TV)
    refine OL (OL (AI (rE b (by decide)) (AI (fun h=>absurd (b.symm.trans h) (by decide)) ?_)))
    refine AI (fun h=>absurd (b.symm.trans h) (by decide)) ?_
    refine AI (fun _=>?_) (AI (fun h=>absurd (b.symm.trans h) (by decide)) TV)
    refine OL (OL (AI (rE b (by decide)) (AI (fun h=>absurd (b.symm.trans h) (by decide)) ?_)))
    refine AI (fun h=>absurd (b.symm.trans h) (by decide)) ?_
    refine AI (fun _=>?_) (AI (fun h=>absurd (b.symm.trans h) (by decide)) TV)
    refine cN q (fun q=>?_) (fun q=>?_)
    ·refine gY (gY (cF (cI q (fun q=>?_) (fun q=>?_))))
     ·refine EI ((1:Int),(i64.wrap (i+1)),d,k,(u64.wrap ((u64.wrap (t+s))+c)),l) (AI q (E4 I4 (R3 (AI (R4 TV) (R4 TV)))))
     refine EI ((0:Int),(i64.wrap (i+1)),d,k,(u64.wrap ((u64.wrap (t+s))+c)),l) (AI q (E4 I4 (R3 (AI (R4 TV) (R4 TV)))))
    refine gN (gN (cT (cT (EI ((1:Int),(i64.wrap (i+1)),d,k,(u64.wrap ((u64.wrap (t+s))+c)),l) (AI q (E4 I4 (R3 (AI (R4 TV) (R4 TV)))))))))
   refine AI (fun b=>?_) TV
   have q:=Jp q b
   dsimp only [nthO] at q
   refine AI (rE b (by decide)) (AI (fun h=>absurd (b.symm.trans h) (by decide)) ?_)
   refine AI (fun h=>absurd (b.symm.trans h) (by decide)) ?_
   refine AI (fun h=>absurd (b.symm.trans h) (by decide)) ?_
   refine AI (fun _=>?_) TV
   refine OL (OL (AI (rE b (by decide)) (AI (fun h=>absurd (b.symm.trans h) (by decide)) ?_)))
   refine AI (fun h=>absurd (b.symm.trans h) (by decide)) ?_
   refine AI (fun h=>absurd (b.symm.trans h) (by decide)) ?_
   refine AI (fun _=>?_) TV
   refine OL (OL (AI (rE b (by decide)) (AI (fun h=>absurd (b.symm.trans h) (by decide)) ?_)))
   refine AI (fun h=>absurd (b.symm.trans h) (by decide)) ?_
   refine AI (fun h=>absurd (b.symm.trans h) (by decide)) ?_
   refine AI (fun _=>?_) TV
   refine cN q (fun q=>?_) (fun q=>?_)
   ·refine gY (gY (cF (cI q (fun q=>?_) (fun q=>?_))))
    ·refine EI ((1:Int),(i64.wrap (i+1)),d,k,j,(u64.wrap ((u64.wrap (n+p))+c))) (AI q (E4 I4 (R3 (AI (R4 TV) (R4 TV)))))
    refine EI ((0:Int),(i64.wrap (i+1)),d,k,j,(u64.wrap ((u64.wrap (n+p))+c))) (AI q (E4 I4 (R3 (AI (R4 TV) (R4 TV)))))
   refine gN (gN (cT (cT (EI ((1:Int),(i64.wrap (i+1)),d,k,j,(u64.wrap ((u64.wrap (n+p))+c))) (AI q (E4 I4 (R3 (AI (R4 TV) (R4 TV)))))))))
  have hz:=sE q
  subst hz
  refine E4 (iuR [3,4]) (AI rfl (AI (R2 TV) (R2 TV)))
 refine AI (OL (OL ?_)) TV
 have hy:=sE q
 subst hy
 refine AI rfl (E4 [] (AI rfl (AJ TV)))
def f139_l1 (g h j b a c e d:Int) (k:Int→Option (Sum Bool Unit)) (i:Int):Option (Sum Bool Unit):=
 bif (decide (i≥0)) then
 Ey (0≤i∧i<4)<|
 pickF i
 [(bif (g != a) then
 some (Sum.inl (decide (g<a)))
 else
 k (i64.wrap (i-1))),
 (bif (h != c) then
 some (Sum.inl (decide (h<c)))
 else
 k (i64.wrap (i-1))),
 (bif (j != e) then
 some (Sum.inl (decide (j<e)))
 else
 k (i64.wrap (i-1))),
 (bif (b != d) then
 some (Sum.inl (decide (b<d)))
 else
 k (i64.wrap (i-1)))]
 else
 some (Sum.inr ())
def f139 (h i j c b d g e:Int):Option Bool:=
 D4 (Fp (fun l x=>f139_l1 h i j c b d g e l x) Fq (3:Int)) fun k=>
 F5 k (fun a=>
 some a) (fun m=>
 some false)
instance H139 (p s l c o d k j:Int): HE 139 [.raw true [(.d T8 p),(.d T8 s),(.d T8 l),(.d T8 c)],.raw true [(.d T8 o),(.d T8 d),(.d T8 k),(.d T8 j)]] (f139 p s l c o d k j) (fun y=>[.dat .bool y]):=hd Tryz.f139 rfl fun y q=>by
 unfold f139 at q
 refine OL (OL (OL ?_))
 obtain ⟨v,h,q⟩:=bE q
 refine lJ h (fun x=>⟨[(2,P0 0 0),(3,P0 1 0),(5,.dat T0 x)],[(0,.cells [(.d T8 p),(.d T8 s),(.d T8 l),(.d T8 c)]),(1,.cells [(.d T8 o),(.d T8 d),(.d T8 k),(.d T8 j)])],2⟩) (fun z=>Sum.elim (fun u=>[(1,⟨[(4,.dat .bool u)],[],0⟩)]) (fun zb=>[(2,⟨[],[],0⟩)]) z) gV (fun m=>fun i z q=>?_) ?_
 ·have q:f139_l1 p s l c o d k j _ i=some z:=q
  unfold f139_l1 at q
  refine OL (OL (cI q (fun q=>?_) (fun q=>?_)))
  ·refine OL (OL (EI (tU 0 7 .done) (EI [] (EI [] (AI rfl (gI q (fun q=>?_)))))))
   refine AI (fun b=>?_) ?_
   ·have q:=Jp q b
    dsimp only [nthO] at q
    refine AI (rE b (by decide)) (AI (fun _=>?_) (AI (fun h=>absurd (b.symm.trans h) (by decide)) (AI (fun h=>absurd (b.symm.trans h) (by decide)) (AI (fun h=>absurd (b.symm.trans h) (by decide)) TV))))
    refine cI q (fun q=>?_) (fun q=>?_)
    ·refine OL (EI (tU 0 8 .done) (EI [] (EI [] (AI rfl (AI (rE b (by decide)) (AI (fun _=>?_) (AI (fun h=>absurd (b.symm.trans h) (by decide)) (AI (fun h=>absurd (b.symm.trans h) (by decide)) (AI (fun h=>absurd (b.symm.trans h) (by decide)) TV)))))))))
     refine AI (rE b (by decide)) (AI (fun _=>?_) (AI (fun h=>absurd (b.symm.trans h) (by decide)) (AI (fun h=>absurd (b.symm.trans h) (by decide)) (AI (fun h=>absurd (b.symm.trans h) (by decide)) TV))))
     have n:=sE q
     subst n
     refine E4 [] (R2 (AI TV TV))
    refine EI (i64.wrap (i-1)) (AI q (E4 I2 (R2 (AI (R2 TV) (R2 TV)))))
   refine AI (fun b=>?_) ?_
   ·have q:=Jp q b
    dsimp only [nthO] at q
    refine AI (rE b (by decide)) (AI (fun h=>absurd (b.symm.trans h) (by decide)) ?_)
    refine AI (fun _=>?_) (AI (fun h=>absurd (b.symm.trans h) (by decide)) (AI (fun h=>absurd (b.symm.trans h) (by decide)) TV))
    refine cI q (fun q=>?_) (fun q=>?_)
    ·refine OL (EI (tU 0 8 .done) (EI [] (EI [] (AI rfl (AI (rE b (by decide)) (AI (fun h=>absurd (b.symm.trans h) (by decide)) ?_))))))
     refine AI (fun _=>?_) (AI (fun h=>absurd (b.symm.trans h) (by decide)) (AI (fun h=>absurd (b.symm.trans h) (by decide)) TV))
     refine AI (rE b (by decide)) (AI (fun h=>absurd (b.symm.trans h) (by decide)) ?_)
     refine AI (fun _=>?_) (AI (fun h=>absurd (b.symm.trans h) (by decide)) (AI (fun h=>absurd (b.symm.trans h) (by decide)) TV))
     have n:=sE q
     subst n
     refine E4 [] (R2 (AI TV TV))
    refine EI (i64.wrap (i-1)) (AI q (E4 I2 (R2 (AI (R2 TV) (R2 TV)))))
   refine AI (fun b=>?_) ?_
   ·have q:=Jp q b
    dsimp only [nthO] at q
    refine AI (rE b (by decide)) (AI (fun h=>absurd (b.symm.trans h) (by decide)) ?_)
    refine AI (fun h=>absurd (b.symm.trans h) (by decide)) ?_
    refine AI (fun _=>?_) (AI (fun h=>absurd (b.symm.trans h) (by decide)) TV)
    refine cI q (fun q=>?_) (fun q=>?_)
    ·refine OL (EI (tU 0 8 .done) (EI [] (EI [] (AI rfl (AI (rE b (by decide)) (AI (fun h=>absurd (b.symm.trans h) (by decide)) ?_))))))
     refine AI (fun h=>absurd (b.symm.trans h) (by decide)) ?_
     refine AI (fun _=>?_) (AI (fun h=>absurd (b.symm.trans h) (by decide)) TV)
     refine AI (rE b (by decide)) (AI (fun h=>absurd (b.symm.trans h) (by decide)) ?_)
     refine AI (fun h=>absurd (b.symm.trans h) (by decide)) ?_
     refine AI (fun _=>?_) (AI (fun h=>absurd (b.symm.trans h) (by decide)) TV)
     have n:=sE q
     subst n
     refine E4 [] (R2 (AI TV TV))
    refine EI (i64.wrap (i-1)) (AI q (E4 I2 (R2 (AI (R2 TV) (R2 TV)))))
   refine AI (fun b=>?_) TV
   have q:=Jp q b
   dsimp only [nthO] at q
   refine AI (rE b (by decide)) (AI (fun h=>absurd (b.symm.trans h) (by decide)) ?_)
   refine AI (fun h=>absurd (b.symm.trans h) (by decide)) ?_
   refine AI (fun h=>absurd (b.symm.trans h) (by decide)) ?_
   refine AI (fun _=>?_) TV
   refine cI q (fun q=>?_) (fun q=>?_)
   ·refine OL (EI (tU 0 8 .done) (EI [] (EI [] (AI rfl (AI (rE b (by decide)) (AI (fun h=>absurd (b.symm.trans h) (by decide)) ?_))))))
    refine AI (fun h=>absurd (b.symm.trans h) (by decide)) ?_
    refine AI (fun h=>absurd (b.symm.trans h) (by decide)) ?_
    refine AI (fun _=>?_) TV
    refine AI (rE b (by decide)) (AI (fun h=>absurd (b.symm.trans h) (by decide)) ?_)
    refine AI (fun h=>absurd (b.symm.trans h) (by decide)) ?_
    refine AI (fun h=>absurd (b.symm.trans h) (by decide)) ?_
    refine AI (fun _=>?_) TV
    have n:=sE q
    subst n
    refine E4 [] (R2 (AI TV TV))
   refine EI (i64.wrap (i-1)) (AI q (E4 I2 (R2 (AI (R2 TV) (R2 TV)))))
  have n:=sE q
  subst n
  refine E4 [] (AI rfl (AI TV TV))
 rcases v with w | b0
 ·dsimp only [F5] at q
  refine AI ?_ TV
  have t:=sE q
  subst t
  refine AI rfl (E4 [] (R2 (AI TV TV)))
 dsimp only [F5] at q
 refine AI (OL ?_) TV
 have t:=sE q
 subst t
 refine AI rfl (E4 [] (R2 (AI TV TV)))
def f140_l1 (n o p j h k m l:Int) (g:(Int×Int×PTz4)→Option PTz4) (a i d c b e:Int):Option PTz4:=
 bif (decide (i<4)) then
 Ey (0≤i∧i<4)<|
 pickF i
 [(bif (decide (n<h)) then
 g ((1:Int),(i64.wrap (i+1)),(u64.wrap ((u64.wrap (n-h))-a)),c,b,e)
 else
 bif (decide ((u64.wrap (n-h))<a)) then
 g ((1:Int),(i64.wrap (i+1)),(u64.wrap ((u64.wrap (n-h))-a)),c,b,e)
 else
 g ((0:Int),(i64.wrap (i+1)),(u64.wrap ((u64.wrap (n-h))-a)),c,b,e)),
 (bif (decide (o<k)) then
 g ((1:Int),(i64.wrap (i+1)),d,(u64.wrap ((u64.wrap (o-k))-a)),b,e)
 else
 bif (decide ((u64.wrap (o-k))<a)) then
 g ((1:Int),(i64.wrap (i+1)),d,(u64.wrap ((u64.wrap (o-k))-a)),b,e)
 else
 g ((0:Int),(i64.wrap (i+1)),d,(u64.wrap ((u64.wrap (o-k))-a)),b,e)),
 (bif (decide (p<m)) then
 g ((1:Int),(i64.wrap (i+1)),d,c,(u64.wrap ((u64.wrap (p-m))-a)),e)
 else
 bif (decide ((u64.wrap (p-m))<a)) then
 g ((1:Int),(i64.wrap (i+1)),d,c,(u64.wrap ((u64.wrap (p-m))-a)),e)
 else
 g ((0:Int),(i64.wrap (i+1)),d,c,(u64.wrap ((u64.wrap (p-m))-a)),e)),
 (bif (decide (j<l)) then
 g ((1:Int),(i64.wrap (i+1)),d,c,b,(u64.wrap ((u64.wrap (j-l))-a)))
 else
 bif (decide ((u64.wrap (j-l))<a)) then
 g ((1:Int),(i64.wrap (i+1)),d,c,b,(u64.wrap ((u64.wrap (j-l))-a)))
 else
 g ((0:Int),(i64.wrap (i+1)),d,c,b,(u64.wrap ((u64.wrap (j-l))-a))))]
 else
 some (d,c,b,e)
def f140 (h i j c b d g e:Int):Option PTz4:=
 D4 (Fp (fun k x=>f140_l1 h i j c b d g e k x.1 x.2.1 x.2.2.1 x.2.2.2.1 x.2.2.2.2.1 x.2.2.2.2.2) Fq ((0:Int),(0:Int),(0:Int),(0:Int),(0:Int),(0:Int))) fun a=>
 some (a.1,a.2.1,a.2.2.1,a.2.2.2)
instance H140 (v w t n u o s p:Int): HE 140 [.raw true [(.d T8 v),(.d T8 w),(.d T8 t),(.d T8 n)],.raw true [(.d T8 u),(.d T8 o),(.d T8 s),(.d T8 p)]] (f140 v w t n u o s p) (fun y=>[.raw true [(.d T8 y.1),(.d T8 y.2.1),(.d T8 y.2.2.1),(.d T8 y.2.2.2)]]):=hd Tryz.f140 rfl fun y q=>by
 unfold f140 at q
 refine OL (OL (OL (OL (OL ?_))))
 obtain ⟨z3,h,q⟩:=bE q
 refine lJ h (fun x=>⟨[(2,P0 0 0),(3,P0 1 0),(4,P0 2 0),(5,P0 3 0),(6,.dat T8 x.1),(7,.dat T0 x.2.1)],[(0,.cells [(.d T8 v),(.d T8 w),(.d T8 t),(.d T8 n)]),(1,.cells [(.d T8 u),(.d T8 o),(.d T8 s),(.d T8 p)]),(2,.cells [(.d T8 (0:Int)),(.d T8 (0:Int)),(.d T8 (0:Int)),(.d T8 (0:Int))]),(3,.cells [(.d T8 x.2.2.1),(.d T8 x.2.2.2.1),(.d T8 x.2.2.2.2.1),(.d T8 x.2.2.2.2.2)])],4⟩) (fun z=>[(2,⟨[(4,P0 0 0),(5,P0 1 0)],[(0,.cells [(.d T8 (0:Int)),(.d T8 (0:Int)),(.d T8 (0:Int)),(.d T8 (0:Int))]),(1,.cells [(.d T8 z.1),(.d T8 z.2.1),(.d T8 z.2.2.1),(.d T8 z.2.2.2)])],2⟩)]) gV (fun m=>F3 (fun c=>F3 (fun i=>F3 (fun d=>F3 (fun k=>F3 (fun j=>fun l z q=>?_)))))) ?_
 ·have q:f140_l1 v w t n u o s p _ c i d k j l=some z:=q
  unfold f140_l1 at q
  refine OL (OL (cI q (fun q=>?_) (fun q=>?_)))
  ·refine OL (OL (EI (tU 0 8 .done) (EI [] (EI [] (AI rfl (gI q (fun q=>?_)))))))
   refine AI (fun b=>?_) ?_
   ·have q:=Jp q b
    dsimp only [nthO] at q
    refine AI (rE b (by decide)) (AI (fun _=>?_) (AI (fun h=>absurd (b.symm.trans h) (by decide)) (AI (fun h=>absurd (b.symm.trans h) (by decide)) (AI (fun h=>absurd (b.symm.trans h) (by decide)) TV))))
    refine OL (OL (AI (rE b (by decide)) (AI (fun _=>?_) (AI (fun h=>absurd (b.symm.trans h) (by decide)) (AI (fun h=>absurd (b.symm.trans h) (by decide)) (AI (fun h=>absurd (b.symm.trans h) (by decide)) TV))))))
    refine OL (OL (EI (tU 0 12 .done) (EI [] (EI [] (AI rfl (AI (rE b (by decide)) (AI (fun _=>?_) (AI (fun h=>absurd (b.symm.trans h) (by decide)) (AI (fun h=>absurd (b.symm.trans h) (by decide)) (AI (fun h=>absurd (b.symm.trans h) (by decide)) TV))))))))))
    refine AI (rE b (by decide)) (AI (fun _=>?_) (AI (fun h=>absurd (b.symm.trans h) (by decide)) (AI (fun h=>absurd (b.symm.trans h) (by decide)) (AI (fun h=>absurd (b.symm.trans h) (by decide)) TV))))
    refine cN q (fun q=>?_) (fun q=>?_)
    ·refine gY (gY (cF (cI q (fun q=>?_) (fun q=>?_))))
     ·refine EI ((1:Int),(i64.wrap (i+1)),(u64.wrap ((u64.wrap (v-u))-c)),k,j,l) (AI q (E4 I4 (R3 (AI (R4 TV) (R4 TV)))))
     refine EI ((0:Int),(i64.wrap (i+1)),(u64.wrap ((u64.wrap (v-u))-c)),k,j,l) (AI q (E4 I4 (R3 (AI (R4 TV) (R4 TV)))))
    refine gN (gN (cT (cT (EI ((1:Int),(i64.wrap (i+1)),(u64.wrap ((u64.wrap (v-u))-c)),k,j,l) (AI q (E4 I4 (R3 (AI (R4 TV) (R4 TV)))))))))
   refine AI (fun b=>?_) ?_
   ·have q:=Jp q b
    dsimp only [nthO] at q
    refine AI (rE b (by decide)) (AI (fun h=>absurd (b.symm.trans h) (by decide)) ?_)
    refine AI (fun _=>?_) (AI (fun h=>absurd (b.symm.trans h) (by decide)) (AI (fun h=>absurd (b.symm.trans h) (by decide)) TV))
    refine OL (OL (AI (rE b (by decide)) (AI (fun h=>absurd (b.symm.trans h) (by decide)) ?_)))
    refine AI (fun _=>?_) (AI (fun h=>absurd (b.symm.trans h) (by decide)) (AI (fun h=>absurd (b.symm.trans h) (by decide)) TV))
    refine OL (OL (EI (tU 0 12 .done) (EI [] (EI [] (AI rfl (AI (rE b (by decide)) (AI (fun h=>absurd (b.symm.trans h) (by decide)) ?_)))))))
    refine AI (fun _=>?_) (AI (fun h=>absurd (b.symm.trans h) (by decide)) (AI (fun h=>absurd (b.symm.trans h) (by decide)) TV))
    refine AI (rE b (by decide)) (AI (fun h=>absurd (b.symm.trans h) (by decide)) ?_)
    refine AI (fun _=>?_) (AI (fun h=>absurd (b.symm.trans h) (by decide)) (AI (fun h=>absurd (b.symm.trans h) (by decide)) TV))
    refine cN q (fun q=>?_) (fun q=>?_)
    ·refine gY (gY (cF (cI q (fun q=>?_) (fun q=>?_))))
     ·refine EI ((1:Int),(i64.wrap (i+1)),d,(u64.wrap ((u64.wrap (w-o))-c)),j,l) (AI q (E4 I4 (R3 (AI (R4 TV) (R4 TV)))))
     refine EI ((0:Int),(i64.wrap (i+1)),d,(u64.wrap ((u64.wrap (w-o))-c)),j,l) (AI q (E4 I4 (R3 (AI (R4 TV) (R4 TV)))))
    refine gN (gN (cT (cT (EI ((1:Int),(i64.wrap (i+1)),d,(u64.wrap ((u64.wrap (w-o))-c)),j,l) (AI q (E4 I4 (R3 (AI (R4 TV) (R4 TV)))))))))
   refine AI (fun b=>?_) ?_
   ·have q:=Jp q b
    dsimp only [nthO] at q
    refine AI (rE b (by decide)) (AI (fun h=>absurd (b.symm.trans h) (by decide)) ?_)
    refine AI (fun h=>absurd (b.symm.trans h) (by decide)) ?_
    refine AI (fun _=>?_) (AI (fun h=>absurd (b.symm.trans h) (by decide)) TV)
    refine OL (OL (AI (rE b (by decide)) (AI (fun h=>absurd (b.symm.trans h) (by decide)) ?_)))
    refine AI (fun h=>absurd (b.symm.trans h) (by decide)) ?_
    refine AI (fun _=>?_) (AI (fun h=>absurd (b.symm.trans h) (by decide)) TV)
    refine OL (OL (EI (tU 0 12 .done) (EI [] (EI [] (AI rfl (AI (rE b (by decide)) (AI (fun h=>absurd (b.symm.trans h) (by decide)) ?_)))))))
    refine AI (fun h=>absurd (b.symm.trans h) (by decide)) ?_
    refine AI (fun _=>?_) (AI (fun h=>absurd (b.symm.trans h) (by decide)) TV)
    refine AI (rE b (by decide)) (AI (fun h=>absurd (b.symm.trans h) (by decide)) ?_)
    refine AI (fun h=>absurd (b.symm.trans h) (by decide)) ?_
    refine AI (fun _=>?_) (AI (fun h=>absurd (b.symm.trans h) (by decide)) TV)
    refine cN q (fun q=>?_) (fun q=>?_)
    ·refine gY (gY (cF (cI q (fun q=>?_) (fun q=>?_))))
     ·refine EI ((1:Int),(i64.wrap (i+1)),d,k,(u64.wrap ((u64.wrap (t-s))-c)),l) (AI q (E4 I4 (R3 (AI (R4 TV) (R4 TV)))))
     refine EI ((0:Int),(i64.wrap (i+1)),d,k,(u64.wrap ((u64.wrap (t-s))-c)),l) (AI q (E4 I4 (R3 (AI (R4 TV) (R4 TV)))))
    refine gN (gN (cT (cT (EI ((1:Int),(i64.wrap (i+1)),d,k,(u64.wrap ((u64.wrap (t-s))-c)),l) (AI q (E4 I4 (R3 (AI (R4 TV) (R4 TV)))))))))
   refine AI (fun b=>?_) TV
   have q:=Jp q b
   dsimp only [nthO] at q
   refine AI (rE b (by decide)) (AI (fun h=>absurd (b.symm.trans h) (by decide)) ?_)
   refine AI (fun h=>absurd (b.symm.trans h) (by decide)) ?_
   refine AI (fun h=>absurd (b.symm.trans h) (by decide)) ?_
   refine AI (fun _=>?_) TV
   refine OL (OL (AI (rE b (by decide)) (AI (fun h=>absurd (b.symm.trans h) (by decide)) ?_)))
   refine AI (fun h=>absurd (b.symm.trans h) (by decide)) ?_
   refine AI (fun h=>absurd (b.symm.trans h) (by decide)) ?_
   refine AI (fun _=>?_) TV
   refine OL (OL (EI (tU 0 12 .done) (EI [] (EI [] (AI rfl (AI (rE b (by decide)) (AI (fun h=>absurd (b.symm.trans h) (by decide)) ?_)))))))
   refine AI (fun h=>absurd (b.symm.trans h) (by decide)) ?_
   refine AI (fun h=>absurd (b.symm.trans h) (by decide)) ?_
   refine AI (fun _=>?_) TV
   refine AI (rE b (by decide)) (AI (fun h=>absurd (b.symm.trans h) (by decide)) ?_)
   refine AI (fun h=>absurd (b.symm.trans h) (by decide)) ?_
   refine AI (fun h=>absurd (b.symm.trans h) (by decide)) ?_
   refine AI (fun _=>?_) TV
   refine cN q (fun q=>?_) (fun q=>?_)
   ·refine gY (gY (cF (cI q (fun q=>?_) (fun q=>?_))))
    ·refine EI ((1:Int),(i64.wrap (i+1)),d,k,j,(u64.wrap ((u64.wrap (n-p))-c))) (AI q (E4 I4 (R3 (AI (R4 TV) (R4 TV)))))
    refine EI ((0:Int),(i64.wrap (i+1)),d,k,j,(u64.wrap ((u64.wrap (n-p))-c))) (AI q (E4 I4 (R3 (AI (R4 TV) (R4 TV)))))
   refine gN (gN (cT (cT (EI ((1:Int),(i64.wrap (i+1)),d,k,j,(u64.wrap ((u64.wrap (n-p))-c))) (AI q (E4 I4 (R3 (AI (R4 TV) (R4 TV)))))))))
  have hz:=sE q
  subst hz
  refine E4 (iuR [3,4]) (AI rfl (AI (R2 TV) (R2 TV)))
 refine AI (OL (OL ?_)) TV
 have hy:=sE q
 subst hy
 refine AI rfl (E4 [] (AI rfl (AJ TV)))
def f83 (j:Bool) (e b i c:Int) (n:Bool) (h a g d:Int):Option Jt:=
 bif (j==n) then
 D4 (f138 e b i c h a g d) fun l=>
 some (j,l.1,l.2.1,l.2.2.1,l.2.2.2)
 else
 D4 (f139 e b i c h a g d) fun o=>
 bif o then
 D4 (f140 h a g d e b i c) fun k=>
 some (n,k.1,k.2.1,k.2.2.1,k.2.2.2)
 else
 D4 (f140 e b i c h a g d) fun m=>
 some (j,m.1,m.2.1,m.2.2.1,m.2.2.2)
instance H83 (c:Bool) (k i o d:Int) (l:Bool) (n b m j:Int): HE 83 [.raw true [(.d .bool c),(.d T8 k),(.d T8 i),(.d T8 o),(.d T8 d)],.raw true [(.d .bool l),(.d T8 n),(.d T8 b),(.d T8 m),(.d T8 j)]] (f83 c k i o d l n b m j) (fun y=>[.raw true [(.d .bool y.1),(.d T8 y.2.1),(.d T8 y.2.2.1),(.d T8 y.2.2.2.1),(.d T8 y.2.2.2.2)]]):=hd Tryz.f83 rfl fun y q=>by
 unfold f83 at q
 exact gV
def f129_j3 (c a d b:Int):Option Bool:=
 bif ((Fv IntKind.u64 (fun p q=>p||| q) (Fv IntKind.u64 (fun p q=>p||| q) a d) b) != 0) then
 some true
 else
 some (decide (c≥9223372036854775808))
def f129_j2 (a:Bool) (d b e c:Int):Option (Sum Unit Int):=
 D4 (f129_j3 d b e c) fun g=>
 bif g then
 bif a then
 some (Sum.inr (-9223372036854775808:Int))
 else
 some (Sum.inr (9223372036854775807:Int))
 else
 some (Sum.inl ())
def f129 (b:Bool) (a c e d:Int):Option Int:=
 D4 (f129_j2 b a c e d) fun i=>
 F5 i (fun h=>
 bif b then
 some (i64.wrap (0-(i64.wrap a)))
 else
 some (i64.wrap a)) (fun g=>
 some g)
instance H129 (b:Bool) (i d j c:Int): HE 129 [.raw true [(.d .bool b),(.d T8 i),(.d T8 d),(.d T8 j),(.d T8 c)]] (f129 b i d j c) (fun y=>[.dat T0 y]):=hd Tryz.f129 rfl fun y q=>by
 unfold f129 at q
 refine OL ?_
 obtain ⟨p,k,q⟩:=bE q
 let o:LH:=fun t=>(0,.cells [(.d .bool b),(.d T8 i),(.d T8 d),(.d T8 j),(.d T8 c)])::t
 refine OQ ⟨Sum.elim (fun n=>[(0,⟨[(1,P0 0 0)],o [],1⟩)]) (fun l=>[(1,⟨[(2,.dat T0 l)],[],0⟩)]) p,?_,?_⟩
 ·have q:=k
  clear k
  unfold f129_j2 at q
  obtain ⟨s,m,q⟩:=bE q
  refine OQ ⟨[(0,⟨[(1,P0 0 0),(20,.dat .bool s)],o [],1⟩)],?_,?_⟩
  ·have q:=m
   clear m
   unfold f129_j3 at q
   refine AI (by decide) (AI (fun h=>absurd h (by decide)) ?_)
   refine AI (fun _=>?_) (AI (fun h=>absurd h (by decide)) (AI (fun h=>absurd h (by decide)) TV))
   refine AI (by decide) (AI (fun h=>absurd h (by decide)) ?_)
   refine AI (fun h=>absurd h (by decide)) ?_
   refine AI (fun _=>?_) (AI (fun h=>absurd h (by decide)) TV)
   refine AI (by decide) (AI (fun h=>absurd h (by decide)) ?_)
   refine AI (fun h=>absurd h (by decide)) ?_
   refine AI (fun h=>absurd h (by decide)) ?_
   refine AI (fun _=>?_) TV
   refine cN q (fun q=>?_) (fun q=>?_)
   ·refine gY (AI (by decide) (AI (fun _=>?_) (AI (fun h=>absurd h (by decide)) (AI (fun h=>absurd h (by decide)) (AI (fun h=>absurd h (by decide)) TV)))))
    exact gV
   exact gV
  exact gV
 rcases p with n | l
 ·dsimp only [F5] at q
  refine AI (OL (OL (cI q (fun q=>?_) (fun q=>?_)))) TV
  ·refine OL (AI (by decide) (AI (fun _=>?_) (AI (fun h=>absurd h (by decide)) (AI (fun h=>absurd h (by decide)) (AI (fun h=>absurd h (by decide)) TV)))))
   exact gV
  refine OL (AI (by decide) (AI (fun _=>?_) (AI (fun h=>absurd h (by decide)) (AI (fun h=>absurd h (by decide)) (AI (fun h=>absurd h (by decide)) TV)))))
  exact gV
 exact gV
def f92 (a b:Int):Option Int:=
 D4 (f48 a) fun e=>
 D4 (f48 b) fun d=>
 D4 (f83 e.1 e.2 (0:Int) (0:Int) (0:Int) d.1 d.2 (0:Int) (0:Int) (0:Int)) fun c=>
 D4 (f129 c.1 c.2.1 c.2.2.1 c.2.2.2.1 c.2.2.2.2) fun g=>
 some g
instance H92 (a b:Int): HE 92 [.dat T0 a,.dat T0 b] (f92 a b) (fun y=>[.dat T0 y]):=hd Tryz.f92 rfl fun y q=>by
 unfold f92 at q
 exact gV
def f150 (a:Bool) (d b e c:Int):Option Jt:=
 some ((!a),d,b,e,c)
instance H150 (d:Bool) (c i j b:Int): HE 150 [.raw true [(.d .bool d),(.d T8 c),(.d T8 i),(.d T8 j),(.d T8 b)]] (f150 d c i j b) (fun y=>[.raw true [(.d .bool y.1),(.d T8 y.2.1),(.d T8 y.2.2.1),(.d T8 y.2.2.2.1),(.d T8 y.2.2.2.2)]]):=hd Tryz.f150 rfl fun y q=>by
 unfold f150 at q
 exact gV
def f94 (a b:Int):Option Int:=
 D4 (f48 a) fun g=>
 D4 (f48 b) fun e=>
 D4 (f150 e.1 e.2 (0:Int) (0:Int) (0:Int)) fun d=>
 D4 (f83 g.1 g.2 (0:Int) (0:Int) (0:Int) d.1 d.2.1 d.2.2.1 d.2.2.2.1 d.2.2.2.2) fun c=>
 D4 (f129 c.1 c.2.1 c.2.2.1 c.2.2.2.1 c.2.2.2.2) fun h=>
 some h
instance H94 (a b:Int): HE 94 [.dat T0 a,.dat T0 b] (f94 a b) (fun y=>[.dat T0 y]):=hd Tryz.f94 rfl fun y q=>by
 unfold f94 at q
 exact gV
def f149_l1 (j h:Int) (k:(Int×PTz4)→Option PTz4) (a d b c e:Int):Option PTz4:=
 bif (decide (a<2)) then
 Ey (0≤a∧a<2)<|
 pickF a
 [(D4 (f138 d b c e (u64.wrap ((u64.wrap ((Fv IntKind.u64 (fun p q=>p&&& q) j (4294967295:Int))*(Int.fdiv h (2 ^ min (Int.toNat (32:Int)) u64.bits))))*2 ^ min (Int.toNat (32:Int)) u64.bits)) (Int.fdiv (u64.wrap ((Fv IntKind.u64 (fun p q=>p&&& q) j (4294967295:Int))*(Int.fdiv h (2 ^ min (Int.toNat (32:Int)) u64.bits)))) (2 ^ min (Int.toNat (32:Int)) u64.bits)) (0:Int) (0:Int)) fun i=>
 k ((i64.wrap (a+1)),i.1,i.2.1,i.2.2.1,i.2.2.2)),
 (D4 (f138 d b c e (u64.wrap ((u64.wrap ((Int.fdiv j (2 ^ min (Int.toNat (32:Int)) u64.bits))*(Fv IntKind.u64 (fun p q=>p&&& q) h (4294967295:Int))))*2 ^ min (Int.toNat (32:Int)) u64.bits)) (Int.fdiv (u64.wrap ((Int.fdiv j (2 ^ min (Int.toNat (32:Int)) u64.bits))*(Fv IntKind.u64 (fun p q=>p&&& q) h (4294967295:Int)))) (2 ^ min (Int.toNat (32:Int)) u64.bits)) (0:Int) (0:Int)) fun g=>
 k ((i64.wrap (a+1)),g.1,g.2.1,g.2.2.1,g.2.2.2))]
 else
 some (d,b,c,e)
def f149 (a b:Int):Option Jt:=
 D4 (f85 a) fun e=>
 D4 (f85 b) fun d=>
 D4 (Fp (fun g x=>f149_l1 e d g x.1 x.2.1 x.2.2.1 x.2.2.2.1 x.2.2.2.2) Fq ((0:Int),(u64.wrap ((Fv IntKind.u64 (fun p q=>p&&& q) e (4294967295:Int))*(Fv IntKind.u64 (fun p q=>p&&& q) d (4294967295:Int)))),(u64.wrap ((Int.fdiv e (2 ^ min (Int.toNat (32:Int)) u64.bits))*(Int.fdiv d (2 ^ min (Int.toNat (32:Int)) u64.bits)))),(0:Int),(0:Int))) fun c=>
 some ((!((decide (a<0))==(decide (b<0)))),c.1,c.2.1,c.2.2.1,c.2.2.2)
instance H149 (a b:Int): HE 149 [.dat T0 a,.dat T0 b] (f149 a b) (fun y=>[.raw true [(.d .bool y.1),(.d T8 y.2.1),(.d T8 y.2.2.1),(.d T8 y.2.2.2.1),(.d T8 y.2.2.2.2)]]):=hd Tryz.f149 rfl fun y q=>by
 unfold f149 at q
 refine OL (OL ?_)
 obtain ⟨s,h,q⟩:=bE q
 refine cL h gW ?_
 refine R2 (AI (lQ rfl) (R2 (AI TV (AI TV ?_))))
 obtain ⟨u,h,q⟩:=bE q
 refine cL h gW ?_
 refine R2 (AI (lQ rfl) (R2 (AI TV (AI TV (OL (AI (by decide) (AI (by decide) (OL (OL (OL (OL ?_)))))))))))
 obtain ⟨z7,t,q⟩:=bE q
 let v:LH:=fun zz=>(0,.cells [(.d .bool false),(.d T8 (0:Int)),(.d T8 (0:Int)),(.d T8 (0:Int)),(.d T8 (0:Int))])::zz
 refine lJ t (fun x=>⟨[(0,.dat T0 a),(1,.dat T0 b),(4,P0 0 0),(11,P0 1 0),(39,.raw true [(.d T8 (u64.wrap ((Fv IntKind.u64 (fun p q=>p&&& q) s (4294967295:Int))*(Int.fdiv u (2 ^ min (Int.toNat (32:Int)) u64.bits))))),(.d T8 (u64.wrap ((Int.fdiv s (2 ^ min (Int.toNat (32:Int)) u64.bits))*(Fv IntKind.u64 (fun p q=>p&&& q) u (4294967295:Int)))))]),(40,.dat T0 x.1)],v [(1,.cells [(.d T8 x.2.1),(.d T8 x.2.2.1),(.d T8 x.2.2.2.1),(.d T8 x.2.2.2.2)])],2⟩) (fun z=>[(2,⟨[(0,.dat T0 a),(1,.dat T0 b),(4,P0 0 0),(11,P0 1 0)],v [(1,.cells [(.d T8 z.1),(.d T8 z.2.1),(.d T8 z.2.2.1),(.d T8 z.2.2.2)])],2⟩)]) gV (fun m=>F3 (fun i=>F3 (fun k=>F3 (fun n=>F3 (fun j=>fun l z q=>?_))))) ?_
 ·have q:f149_l1 s u _ i k n j l=some z:=q
  unfold f149_l1 at q
  refine OL (OL (cI q (fun q=>?_) (fun q=>?_)))
  ·refine OL (OL (gI q (fun q=>?_)))
   refine AI (fun d=>?_) ?_
   ·have q:=Jp q d
    dsimp only [nthO] at q
    refine AI (by decide) (AI (by decide) ?_)
    obtain ⟨o,h,q⟩:=bE q
    refine cL h gW ?_
    refine AI rfl (AI (lQ rfl) (R2 (AI (R2 TV) (AI TV (OL (EI ((i64.wrap (i+1)),o.1,o.2.1,o.2.2.1,o.2.2.2) (AI q (E4 I2 (R4 (AI (R3 TV) (R2 TV)))))))))))
   refine AI (fun d=>?_) TV
   have q:=Jp q d
   dsimp only [nthO] at q
   refine AI (by decide) (AI (by decide) ?_)
   obtain ⟨c,h,q⟩:=bE q
   refine cL h gW ?_
   refine AI rfl (AI (lQ rfl) (R2 (AI (R2 TV) (AI TV (OL (EI ((i64.wrap (i+1)),c.1,c.2.1,c.2.2.1,c.2.2.2) (AI q (E4 I2 (R4 (AI (R3 TV) (R2 TV)))))))))))
  have hz:=sE q
  subst hz
  refine E4 I2 (R3 (AI (R2 TV) (R2 TV)))
 refine AI (OL (OL ?_)) TV
 have w:=sE q
 subst w
 refine AI rfl (E4 [] (AI rfl (AJ TV)))
def f183 (c d a b i:Int):Option Int:=
 Ey (0≤(i64.wrap (Int.tdiv i (64:Int)))∧(i64.wrap (Int.tdiv i (64:Int)))<4)<|
 pickF (i64.wrap (Int.tdiv i (64:Int)))
 [(Ey (0≤(u64.wrap (Int.tmod i (64:Int))))<|
 some (Fv IntKind.u64 (fun p q=>p&&& q) (Int.fdiv c (2 ^ min (Int.toNat (u64.wrap (Int.tmod i (64:Int)))) u64.bits)) (1:Int))),
 (Ey (0≤(u64.wrap (Int.tmod i (64:Int))))<|
 some (Fv IntKind.u64 (fun p q=>p&&& q) (Int.fdiv d (2 ^ min (Int.toNat (u64.wrap (Int.tmod i (64:Int)))) u64.bits)) (1:Int))),
 (Ey (0≤(u64.wrap (Int.tmod i (64:Int))))<|
 some (Fv IntKind.u64 (fun p q=>p&&& q) (Int.fdiv a (2 ^ min (Int.toNat (u64.wrap (Int.tmod i (64:Int)))) u64.bits)) (1:Int))),
 (Ey (0≤(u64.wrap (Int.tmod i (64:Int))))<|
 some (Fv IntKind.u64 (fun p q=>p&&& q) (Int.fdiv b (2 ^ min (Int.toNat (u64.wrap (Int.tmod i (64:Int)))) u64.bits)) (1:Int)))]
instance H183 (k l d j i:Int): HE 183 [.raw true [(.d T8 k),(.d T8 l),(.d T8 d),(.d T8 j)],.dat T0 i] (f183 k l d j i) (fun y=>[.dat T8 y]):=hd Tryz.f183 rfl fun y q=>by
 unfold f183 at q
 refine OL (OL (AI (by decide) (gI q (fun q=>?_))))
 refine AI (fun b=>?_) ?_
 ·have q:=Jp q b
  dsimp only [nthO] at q
  refine AI (by decide) (gI q (fun q=>?_))
  have c:=sE q
  subst c
  refine AI rfl (E4 [] (R2 (AI TV TV)))
 refine AI (fun b=>?_) ?_
 ·have q:=Jp q b
  dsimp only [nthO] at q
  refine AI (by decide) (gI q (fun q=>?_))
  have c:=sE q
  subst c
  refine AI rfl (E4 [] (R2 (AI TV TV)))
 refine AI (fun b=>?_) ?_
 ·have q:=Jp q b
  dsimp only [nthO] at q
  refine AI (by decide) (gI q (fun q=>?_))
  have c:=sE q
  subst c
  refine AI rfl (E4 [] (R2 (AI TV TV)))
 refine AI (fun b=>?_) TV
 have q:=Jp q b
 dsimp only [nthO] at q
 refine AI (by decide) (gI q (fun q=>?_))
 have c:=sE q
 subst c
 refine AI rfl (E4 [] (R2 (AI TV TV)))
end Go.Proofs
