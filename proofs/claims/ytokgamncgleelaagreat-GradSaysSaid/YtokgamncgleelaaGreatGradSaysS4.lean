import Derived.Test.YtokgamncgleelaaGreatGradSaysS3
set_option linter.unusedVariables false
set_option maxRecDepth 100000
set_option maxHeartbeats 8000000
namespace Go.Proofs
open Go.AM
open IntKind (i64 u64 i32 u32 i16 u16 i8 u8)
def f40_j3 (n:Js) (d a:LI) (b:Int×Int×(List LI)):Option Bool:=
 bif ((d.length:Int) != b.1) then
 some true
 else
 D4 (f61 n.1) fun c=>
 some ((a.length:Int) != c)
def f40_j2 (n:Js) (c a:LI) (b:Int×Int×(List LI)):Option (Sum Unit Unit):=
 D4 (f40_j3 n c a b) fun d=>
 bif d then
 some (Sum.inr ())
 else
 some (Sum.inl ())
def f40_j65 (n:Js) (e:LI) (c i b:Int) (a:Ki):Option Ki:=
 bif (a.2.1==0) then
 Ey (0≤(i64.wrap (c+(i64.wrap ((((rd (Ty.z T1) n.2 i).2).1)*b))))∧(i64.wrap (c+(i64.wrap ((((rd (Ty.z T1) n.2 i).2).1)*b))))≤(i64.wrap ((i64.wrap (c+(i64.wrap ((((rd (Ty.z T1) n.2 i).2).1)*b))))+(((rd (Ty.z T1) n.2 i).2).1)))∧(i64.wrap ((i64.wrap (c+(i64.wrap ((((rd (Ty.z T1) n.2 i).2).1)*b))))+(((rd (Ty.z T1) n.2 i).2).1)))≤e.length)<|
 D4 (f77 a.2.2 ([((rd (Ty.z T1) n.2 i).2).1],(List.drop (Int.toNat (i64.wrap (c+(i64.wrap ((((rd (Ty.z T1) n.2 i).2).1)*b))))) (List.take (Int.toNat (i64.wrap ((i64.wrap (c+(i64.wrap ((((rd (Ty.z T1) n.2 i).2).1)*b))))+(((rd (Ty.z T1) n.2 i).2).1)))) e)))) fun d=>
 some (d.2.1,d.1,d.2.2)
 else
 some (a.2.1,(0:Int),a.2.2)
def f40_j68 (a:Int) (c:NL) (b:Ki):Option Bool:=
 bif (b.1==0) then
 some ((List.length ((((((rd (Ty.z T6) c a).2).2).2).2).1):Int)==2)
 else
 some false
def f40_j67 (c:Int) (e:NL) (a:Ki):Option Ki:=
 D4 (f40_j68 c e a) fun d=>
 bif d then
 D4 (f78 a.2.2 (14:Int) c (-1:Int) (0:Int)) fun b=>
 some (b.2.1,b.1,b.2.2)
 else
 some (a.1,c,a.2.2)
def f40_j69 (c a:Ki):Option Ki:=
 bif (a.1==0) then
 D4 (f78 a.2.2 (4:Int) c.1 a.2.1 (0:Int)) fun b=>
 some (b.2.1,b.1,b.2.2)
 else
 some (a.1,(0:Int),a.2.2)
def f40_j70 (a:Ki):Option Ki:=
 bif (a.1==0) then
 D4 (f78 a.2.2 (8:Int) a.2.1 (-1:Int) (1:Int)) fun b=>
 some (b.2.1,b.1,b.2.2)
 else
 some (a.1,a.2.1,a.2.2)
def f40_j71 (c a:Ki):Option Ki:=
 bif (a.1==0) then
 D4 (f78 a.2.2 (2:Int) a.2.1 c.2.1 (0:Int)) fun b=>
 some (b.2.1,b.1,b.2.2)
 else
 some (a.1,a.2.1,a.2.2)
def f40_j72 (c:Int) (a:Ki):Option Ki:=
 bif (a.2.1==0) then
 D4 (f78 a.2.2 (12:Int) c a.1 (1:Int)) fun b=>
 some (b.2.1,b.1,b.2.2)
 else
 some (a.2.1,(0:Int),a.2.2)
def f40_j64 (n:Js) (u:LI) (p b a i:Int) (q:LI) (h:NL):Option (Int×Int×Int×LI×NL):=
 bif (ByteArray.toList ((rd (Ty.z T1) n.2 i).1)==ByteArray.toList (ByteArray.mk #[100,101,110,115,101])) then
 D4 (f61 ((((((rd (Ty.z T6) h b).2).2).2).2).1)) fun d=>
 Ey (0≤a∧a≤(i64.wrap (a+(i64.wrap ((((rd (Ty.z T1) n.2 i).2).1)*d))))∧(i64.wrap (a+(i64.wrap ((((rd (Ty.z T1) n.2 i).2).1)*d))))≤u.length)<|
 D4 (f77 h ([((rd (Ty.z T1) n.2 i).2).1,d],(List.drop (Int.toNat a) (List.take (Int.toNat (i64.wrap (a+(i64.wrap ((((rd (Ty.z T1) n.2 i).2).1)*d))))) u)))) fun c=>
 D4 (f40_j65 n u a i d c) fun g=>
 D4 (f40_j67 b h g) fun s=>
 D4 (f40_j69 c s) fun t=>
 D4 (f40_j70 t) fun r=>
 D4 (f40_j71 g r) fun l=>
 Ey ((q.length+List.length ([c.1,g.2.1]))*8≤140737488355328)<|
 some (l.1,(i64.wrap ((i64.wrap (a+(i64.wrap ((((rd (Ty.z T1) n.2 i).2).1)*d))))+(((rd (Ty.z T1) n.2 i).2).1))),l.2.1,(q++([c.1,g.2.1])),l.2.2)
 else
 bif (ByteArray.toList ((rd (Ty.z T1) n.2 i).1)==ByteArray.toList (ByteArray.mk #[99,111,110,118])) then
 Ey (0≤(0:Int)∧(0:Int)<(List.length ((((((rd (Ty.z T6) h b).2).2).2).2).1):Int))<|
 Ey (0≤(0:Int)∧(0:Int)<(List.length ((((((rd (Ty.z T6) h b).2).2).2).2).1):Int))<|
 Ey (0≤a∧a≤(i64.wrap (a+(i64.wrap ((i64.wrap ((((rd (Ty.z T1) n.2 i).2).1)*(rd 0 ((((((rd (Ty.z T6) h b).2).2).2).2).1) (0:Int))))*(((rd (Ty.z T1) n.2 i).2).2)))))∧(i64.wrap (a+(i64.wrap ((i64.wrap ((((rd (Ty.z T1) n.2 i).2).1)*(rd 0 ((((((rd (Ty.z T6) h b).2).2).2).2).1) (0:Int))))*(((rd (Ty.z T1) n.2 i).2).2)))))≤u.length)<|
 D4 (f77 h ([((rd (Ty.z T1) n.2 i).2).1,(rd 0 ((((((rd (Ty.z T6) h b).2).2).2).2).1) (0:Int)),((rd (Ty.z T1) n.2 i).2).2],(List.drop (Int.toNat a) (List.take (Int.toNat (i64.wrap (a+(i64.wrap ((i64.wrap ((((rd (Ty.z T1) n.2 i).2).1)*(rd 0 ((((((rd (Ty.z T6) h b).2).2).2).2).1) (0:Int))))*(((rd (Ty.z T1) n.2 i).2).2)))))) u)))) fun e=>
 D4 (f40_j72 b e) fun m=>
 Ey ((q.length+List.length ([e.1]))*8≤140737488355328)<|
 some (m.1,(i64.wrap (a+(i64.wrap ((i64.wrap ((((rd (Ty.z T1) n.2 i).2).1)*(rd 0 ((((((rd (Ty.z T6) h b).2).2).2).2).1) (0:Int))))*(((rd (Ty.z T1) n.2 i).2).2))))),m.2.1,(q++([e.1])),m.2.2)
 else
 bif (ByteArray.toList ((rd (Ty.z T1) n.2 i).1)==ByteArray.toList (ByteArray.mk #[112,111,111,108])) then
 D4 (f78 h (13:Int) b (-1:Int) (((rd (Ty.z T1) n.2 i).2).1)) fun o=>
 some (o.2.1,a,o.1,q,o.2.2)
 else
 bif (ByteArray.toList ((rd (Ty.z T1) n.2 i).1)==ByteArray.toList (ByteArray.mk #[98,101,110,100])) then
 D4 (f78 h (11:Int) b (-1:Int) (((rd (Ty.z T1) n.2 i).2).1)) fun k=>
 some (k.2.1,a,k.1,q,k.2.2)
 else
 D4 (f78 h (2:Int) p b (0:Int)) fun j=>
 some (j.2.1,a,j.1,q,j.2.2)
def f40_l55 (n:Js) (j:LI) (h:(Int×Int×Int×Int×LI×NL)→Option (Sum (Int×NL) (Int×LI×NL))) (c b d i:Int) (g:LI) (e:NL):Option (Sum (Int×NL) (Int×LI×NL)):=
 bif (decide (i<n.2.length)) then
 Ey (0≤i∧i<n.2.length)<|
 Ey (0≤b∧b<e.length)<|
 D4 (f40_j64 n j c b d i g e) fun a=>
 bif (a.1 != 0) then
 some (Sum.inl (a.1,a.2.2.2.2))
 else
 h (b,a.2.2.1,a.2.1,(i64.wrap (i+1)),a.2.2.2.1,a.2.2.2.2)
 else
 some (Sum.inr (b,g,e))
def f40 (c:NL) (n:Js) (i h:LI):Option (Int×Int×LI×NL):=
 D4 (f34 (n.1,n.2)) fun g=>
 bif (g.2.1 != 0) then
 some ((0:Int),g.2.1,[],c)
 else
 D4 (f40_j2 n i h g) fun m=>
 F5 m (fun j=>
 D4 (f77 c (n.1,h)) fun d=>
 bif (d.2.1 != 0) then
 some ((0:Int),d.2.1,[],d.2.2)
 else
 D4 (Fp (fun l x=>f40_l55 n i l x.1 x.2.1 x.2.2.1 x.2.2.2.1 x.2.2.2.2.1 x.2.2.2.2.2) Fq (d.1,d.1,(0:Int),(0:Int),[],d.2.2)) fun e=>
 F5 e (fun b=>
 some ((0:Int),b.1,[],b.2)) (fun a=>
 some (a.1,(0:Int),a.2.1,a.2.2))) (fun k=>
 some ((0:Int),(1:Int),[],c))
instance H40 (b1:NL) (n:Js) (p_ x_:LI): HF 40 [P0 0 0,.dat T2 n,.dat T4 p_,.dat T4 x_] [(0,.cells [(.osl 1)]),(1,.arr 112 T6 b1)] 2 (f40 b1 n p_ x_) (fun y=>[.dat T0 y.1,O0 2,.dat T0 y.2.1]) (fun y=>[(0,.cells [(.osl 3)]),(2,.arr 3 T0 y.2.2.1),(3,.arr 112 T6 y.2.2.2)]) 4:=hd Tryz.f40 rfl fun y q=>by
 unfold f40 at q
 refine OL (OL ?_)
 obtain ⟨r1,h,q⟩:=bE q
 refine cL h gW ?_
 refine R3 (AI (lQ rfl) (R2 (AI TV (AI TV (OL (OL (cI q (fun q=>?_) (fun q=>?_))))))))
 ·exact gV
 obtain ⟨z5,c1,q⟩:=bE q
 let e0:LE:=fun zz=>(0,P0 0 0)::(2,.dat T4 p_)::zz
 let h1:LH:=fun zz=>(0,.cells [(.osl 1)])::(1,.arr 112 T6 b1)::zz
 refine OQ ⟨Sum.elim (fun c3=>[(0,⟨e0 [(3,.dat T4 x_),(5,P0 2 0)],h1 [(2,.cells [(.d T4 n.1),(.d T3 n.2)])],3⟩)]) (fun c7=>[(1,⟨[(8,D0 0),(9,.raw false [N0]),(10,D0 1)],h1 [],2⟩)]) z5,?_,?_⟩
 ·have q:=c1
  clear c1
  unfold f40_j2 at q
  obtain ⟨z7,c5,q⟩:=bE q
  refine OQ ⟨[(0,⟨e0 [(3,.dat T4 x_),(5,P0 2 0),(48,.dat .bool z7)],h1 [(2,.cells [(.d T4 n.1),(.d T3 n.2)])],3⟩)],?_,?_⟩
  ·have q:=c5
   unfold f40_j3 at q
   exact gV
  exact gV
 rcases z5 with c3 | c7
 ·dsimp only [F5] at q
  refine AI (OL ?_) TV
  obtain ⟨r9,h,q⟩:=bE q
  refine cL h gW ?_
  refine R3 (AI (lQ rfl) (R2 (AJ (AI (R2 TV) (OL (OL (cI q (fun q=>?_) (fun q=>?_))))))))
  ·exact gV
  refine OL (OL (OL (OL (OL ?_))))
  obtain ⟨c2,b8,q⟩:=bE q
  let e2:LE:=fun zz=>e0 ((5,P0 2 0)::zz)
  let h3:LH:=fun zz=>(0,.cells [(.osl 4)])::(2,.cells [(.d T4 n.1),(.d T3 n.2)])::zz
  refine lJ b8 (fun x=>⟨e2 [(15,O0 3),(16,.dat T0 x.1),(17,.dat T0 x.2.1),(18,.dat T0 x.2.2.1),(19,.dat T0 x.2.2.2.1)],h3 [(3,.arr 3 T0 x.2.2.2.2.1),(4,.arr 112 T6 x.2.2.2.2.2)],5⟩) (fun z=>Sum.elim (fun za=>[(1,⟨[(8,D0 0),(9,.raw false [N0]),(10,.dat T0 za.1)],[(0,.cells [(.osl 2)]),(2,.arr 112 T6 za.2)],3⟩)]) (fun zb=>[(2,⟨[(15,O0 2),(17,.dat T0 zb.1)],[(0,.cells [(.osl 3)]),(2,.arr 3 T0 zb.2.1),(3,.arr 112 T6 zb.2.2)],4⟩)]) z) gV (fun m=>F3 (fun b2=>F3 (fun b=>F3 (fun j=>F3 (fun i=>F3 (fun l3=>fun l4 z q=>?_)))))) ?_
  ·have q:f40_l55 n p_ _ b2 b j i l3 l4=some z:=q
   unfold f40_l55 at q
   refine OL (OL (cI q (fun q=>?_) (fun q=>?_)))
   ·refine OL (OL (gI q (fun q=>?_)))
    refine OL (OL (gI q (fun q=>?_)))
    refine OL (OL (OL ?_))
    obtain ⟨l,w,q⟩:=bE q
    refine OQ ⟨[(0,⟨e2 [(13,.dat T0 l.1),(15,O0 3),(18,.dat T0 l.2.1),(19,.dat T0 i),(22,.dat T0 b),(25,.dat T0 l.2.2.1)],h3 [(3,.arr 3 T0 l.2.2.2.1),(4,.arr 112 T6 l.2.2.2.2)],5⟩)],?_,?_⟩
    ·have q:=w
     clear w
     unfold f40_j64 at q
     refine OL (OL (cI q (fun q=>?_) (fun q=>?_)))
     ·refine OL ?_
      obtain ⟨k,h,q⟩:=bE q
      refine cL h gW ?_
      refine R2 (AI (lQ rfl) (R2 (AI TV (AI TV (OL (EI (tU 0 4 (tU 5 9 (.alt 4 (.take 14 (.alt 15 (tU 16 5 .done) .done)) .done))) (EI [] (EI [] (AI rfl (gI q (fun q=>?_)))))))))))
      refine AI TV (OL (AI TV ?_))
      obtain ⟨c,h,q⟩:=bE q
      refine cL h gW ?_
      refine R3 (AI (lQ rfl) (R2 (AJ (AI (R2 TV) ?_))))
      obtain ⟨d,b5,q⟩:=bE q
      refine OQ ⟨[(0,⟨e2 [(13,.dat T0 d.1),(15,O0 3),(17,.dat T0 b),(18,.dat T0 j),(19,.dat T0 i),(20,P0 4 0),(21,.dat T4 ((((((rd (Ty.z T6) l4 b).2).2).2).2).1)),(22,.dat T0 b),(23,.dat T0 c.1),(24,.dat T0 d.2.1),(25,D0 0),(26,.dat T0 k)],[(0,.cells [(.osl 5)]),(2,.cells [(.d T4 n.1),(.d T3 n.2)]),(3,.arr 3 T0 l3),(4,.cells [(.d .str ((rd (Ty.z T1) n.2 i).1)),(.d T0 (((rd (Ty.z T1) n.2 i).2).1)),(.d T0 (((rd (Ty.z T1) n.2 i).2).2))]),(5,.arr 112 T6 d.2.2)],6⟩)],?_,?_⟩
      ·have q:=b5
       unfold f40_j65 at q
       exact gV
      refine AI (OL ?_) TV
      obtain ⟨s,v,q⟩:=bE q
      let h4:LH:=fun zz=>h3 ((3,.arr 3 T0 l3)::zz)
      refine OQ ⟨[(0,⟨e2 [(13,.dat T0 s.1),(15,O0 3),(17,.dat T0 s.2.1),(18,.dat T0 (i64.wrap ((i64.wrap (j+(i64.wrap ((((rd (Ty.z T1) n.2 i).2).1)*k))))+(((rd (Ty.z T1) n.2 i).2).1)))),(19,.dat T0 i),(22,.dat T0 b),(23,.dat T0 c.1),(24,.dat T0 d.2.1),(25,D0 0)],h4 [(4,.arr 112 T6 s.2.2)],5⟩)],?_,?_⟩
      ·have q:=v
       clear v
       unfold f40_j67 at q
       obtain ⟨c0,b9,q⟩:=bE q
       refine OQ ⟨[(0,⟨e2 [(13,.dat T0 d.1),(15,O0 3),(17,.dat T0 b),(18,.dat T0 (i64.wrap ((i64.wrap (j+(i64.wrap ((((rd (Ty.z T1) n.2 i).2).1)*k))))+(((rd (Ty.z T1) n.2 i).2).1)))),(19,.dat T0 i),(22,.dat T0 b),(23,.dat T0 c.1),(24,.dat T0 d.2.1),(25,D0 0),(160,.dat .bool c0)],h4 [(4,.arr 112 T6 d.2.2)],5⟩)],?_,?_⟩
       ·have q:=b9
        unfold f40_j68 at q
        exact gV
       exact gV
      refine AI ?_ TV
      obtain ⟨u,b4,q⟩:=bE q
      refine OQ ⟨[(0,⟨e2 [(13,.dat T0 u.1),(15,O0 3),(18,.dat T0 (i64.wrap ((i64.wrap (j+(i64.wrap ((((rd (Ty.z T1) n.2 i).2).1)*k))))+(((rd (Ty.z T1) n.2 i).2).1)))),(19,.dat T0 i),(22,.dat T0 b),(23,.dat T0 c.1),(24,.dat T0 d.2.1),(25,.dat T0 u.2.1)],h4 [(4,.arr 112 T6 u.2.2)],5⟩)],?_,?_⟩
      ·have q:=b4
       unfold f40_j69 at q
       exact gV
      refine AI ?_ TV
      obtain ⟨o,b7,q⟩:=bE q
      refine OQ ⟨[(0,⟨e2 [(13,.dat T0 o.1),(15,O0 3),(18,.dat T0 (i64.wrap ((i64.wrap (j+(i64.wrap ((((rd (Ty.z T1) n.2 i).2).1)*k))))+(((rd (Ty.z T1) n.2 i).2).1)))),(19,.dat T0 i),(22,.dat T0 b),(23,.dat T0 c.1),(24,.dat T0 d.2.1),(25,.dat T0 o.2.1)],h4 [(4,.arr 112 T6 o.2.2)],5⟩)],?_,?_⟩
      ·have q:=b7
       unfold f40_j70 at q
       exact gV
      refine AI ?_ TV
      obtain ⟨p,b6,q⟩:=bE q
      refine OQ ⟨[(0,⟨e2 [(13,.dat T0 p.1),(15,O0 3),(18,.dat T0 (i64.wrap ((i64.wrap (j+(i64.wrap ((((rd (Ty.z T1) n.2 i).2).1)*k))))+(((rd (Ty.z T1) n.2 i).2).1)))),(19,.dat T0 i),(22,.dat T0 b),(23,.dat T0 c.1),(24,.dat T0 d.2.1),(25,.dat T0 p.2.1)],h4 [(4,.arr 112 T6 p.2.2)],5⟩)],?_,?_⟩
      ·have q:=b6
       unfold f40_j71 at q
       exact gV
      exact gV
     refine OL (cI q (fun q=>?_) (fun q=>?_))
     ·refine OL (EI (tU 0 10 .done) (EI [] (EI [] (AI rfl (gI q (fun q=>?_))))))
      refine OL (EI (tU 0 8 (tU 9 6 (.alt 8 (.take 15 (.alt 16 (tU 17 5 .done) .done)) .done))) (EI [] (EI [] (AI rfl (gI q (fun q=>?_))))))
      refine gI q (fun q=>?_)
      refine AI TV (OL (AI TV ?_))
      obtain ⟨b0,h,q⟩:=bE q
      refine cL h gW ?_
      refine R3 (AI (lQ rfl) (R2 (AJ (AI (R2 TV) (OL ?_)))))
      obtain ⟨t,b3,q⟩:=bE q
      refine OQ ⟨[(0,⟨e2 [(13,.dat T0 t.1),(15,O0 3),(18,.dat T0 (i64.wrap (j+(i64.wrap ((i64.wrap ((((rd (Ty.z T1) n.2 i).2).1)*(rd 0 ((((((rd (Ty.z T6) l4 b).2).2).2).2).1) (0:Int))))*(((rd (Ty.z T1) n.2 i).2).2)))))),(19,.dat T0 i),(22,.dat T0 b),(23,.dat T0 b0.1),(25,.dat T0 t.2.1)],h3 [(3,.arr 3 T0 l3),(4,.arr 112 T6 t.2.2)],5⟩)],?_,?_⟩
      ·have q:=b3
       unfold f40_j72 at q
       exact gV
      exact gV
     exact gV
    exact gV
   exact gV
  rcases c2 with c6 | c4
  ·exact gV
  exact gV
 exact gV
def f41_j1 (b:NL) (d a:Int) (c:LI):Option (Sum Unit Unit):=
 bif (decide (a<0)) then
 some (Sum.inr ())
 else
 bif (decide (a≥b.length)) then
 some (Sum.inr ())
 else
 bif (d != 3) then
 Ey (0≤a∧a<b.length)<|
 bif ((c.length:Int) != (List.length ((((((rd (Ty.z T6) b a).2).2).2).2).2):Int)) then
 some (Sum.inr ())
 else
 some (Sum.inl ())
 else
 some (Sum.inl ())
def f41_j2 (c:NL) (d b a:Int):Option (Sum Unit Unit):=
 bif ((List.length ((((((rd (Ty.z T6) c b).2).2).2).2).1):Int) != 1) then
 some (Sum.inr ())
 else
 bif (d==3) then
 bif (decide (a<0)) then
 some (Sum.inr ())
 else
 Ey (0≤(0:Int)∧(0:Int)<(List.length ((((((rd (Ty.z T6) c b).2).2).2).2).1):Int))<|
 bif (decide (a≥(rd 0 ((((((rd (Ty.z T6) c b).2).2).2).2).1) (0:Int)))) then
 some (Sum.inr ())
 else
 some (Sum.inl ())
 else
 some (Sum.inl ())
def f41_j3 (c:Int) (a:Ki):Option Ki:=
 bif (a.2.1==0) then
 D4 (f78 a.2.2 (3:Int) c a.1 (0:Int)) fun b=>
 some (b.1,b.2.1,b.2.2)
 else
 some (a.1,a.2.1,a.2.2)
def f41_j6 (a:Int) (b:Ki):Option Bool:=
 bif (b.2.1==0) then
 some (a==1)
 else
 some false
def f41_j5 (c:Int) (b:Ki):Option Ki:=
 D4 (f41_j6 c b) fun d=>
 bif d then
 D4 (f78 b.2.2 (4:Int) b.1 b.1 (0:Int)) fun a=>
 some (a.1,a.2.1,a.2.2)
 else
 some (b.1,b.2.1,b.2.2)
def f41_j9 (a:Int) (b:Ki):Option Bool:=
 bif (b.2.1==0) then
 some (a==2)
 else
 some false
def f41_j8 (c:Int) (b:Ki):Option Ki:=
 D4 (f41_j9 c b) fun d=>
 bif d then
 D4 (f78 b.2.2 (11:Int) b.1 (-1:Int) (4:Int)) fun a=>
 some (a.1,a.2.1,a.2.2)
 else
 some (b.1,b.2.1,b.2.2)
def f41_j10 (a:Ki):Option Ki:=
 bif (a.2.1==0) then
 D4 (f78 a.2.2 (10:Int) a.1 (-1:Int) (0:Int)) fun b=>
 some (b.1,b.2.1,b.2.2)
 else
 some (a.1,a.2.1,a.2.2)
def f41_j11 (a:Int) (d:Fz) (b:Ki):Option Ki:=
 bif (b.2.1==0) then
 D4 (f77 b.2.2 (d.1,(List.set d.2 (Int.toNat a) (0:Int)))) fun c=>
 some (c.2.1,c.1,c.2.2)
 else
 some (b.2.1,(0:Int),b.2.2)
def f41_j12 (c:Int) (d a:Ki):Option Ki:=
 bif (a.1==0) then
 D4 (f78 a.2.2 (4:Int) c d.1 (0:Int)) fun b=>
 some (b.2.1,b.1,b.2.2)
 else
 some (a.1,(0:Int),a.2.2)
def f41_j13 (a:Ki):Option Ki:=
 bif (a.1==0) then
 D4 (f78 a.2.2 (9:Int) a.2.1 (-1:Int) (0:Int)) fun b=>
 some (b.2.1,b.1,b.2.2)
 else
 some (a.1,a.2.1,a.2.2)
def f41_j14 (c:Int) (a:Ki):Option Ki:=
 bif (a.1==0) then
 D4 (f78 a.2.2 (2:Int) c a.2.1 (0:Int)) fun b=>
 some (b.2.1,b.1,b.2.2)
 else
 some (a.1,a.2.1,a.2.2)
def f41_j15 (c a:Ki):Option Ki:=
 bif (a.1==0) then
 D4 (f78 a.2.2 (2:Int) a.2.1 c.2.1 (0:Int)) fun b=>
 some (b.2.1,b.1,b.2.2)
 else
 some (a.1,a.2.1,a.2.2)
def f41_j16 (a:Ki):Option Ki:=
 bif (a.1==0) then
 D4 (f78 a.2.2 (11:Int) a.2.1 (-1:Int) (1:Int)) fun b=>
 some (b.2.1,b.1,b.2.2)
 else
 some (a.1,a.2.1,a.2.2)
def f41_j17 (c a:Ki):Option Ki:=
 bif (a.1==0) then
 D4 (f78 a.2.2 (4:Int) a.2.1 c.2.1 (0:Int)) fun b=>
 some (b.2.1,b.1,b.2.2)
 else
 some (a.1,a.2.1,a.2.2)
def f41_j18 (a:Ki):Option Ki:=
 bif (a.1==0) then
 D4 (f78 a.2.2 (9:Int) a.2.1 (-1:Int) (0:Int)) fun b=>
 some (b.2.1,b.1,b.2.2)
 else
 some (a.1,a.2.1,a.2.2)
def f41 (b:NL) (d c:Int) (h:LI) (a:Int):Option Ki:=
 D4 (f41_j1 b d c h) fun w=>
 F5 w (fun u=>
 Ey (0≤c∧c<b.length)<|
 D4 (f41_j2 b d c a) fun x=>
 F5 x (fun y=>
 bif (d != 3) then
 D4 (f77 b ((((((rd (Ty.z T6) b c).2).2).2).2).1,h)) fun r3=>
 D4 (f41_j3 c r3) fun z5=>
 D4 (f41_j5 d z5) fun t=>
 D4 (f41_j8 d t) fun o=>
 D4 (f41_j10 o) fun g=>
 bif (g.2.1 != 0) then
 some ((0:Int),g.2.1,g.2.2)
 else
 some (g.1,(0:Int),g.2.2)
 else
 D4 (f79 ((((((rd (Ty.z T6) b c).2).2).2).2).1) (0:Int)) fun i=>
 D4 (f79 ((((((rd (Ty.z T6) b c).2).2).2).2).1) (4294967296:Int)) fun k=>
 Ey (0≤a∧a<i.2.length)<|
 Ey (0≤a∧a<k.2.length)<|
 D4 (f77 b (i.1,(List.set i.2 (Int.toNat a) (-4294967296:Int)))) fun l=>
 D4 (f41_j11 a k l) fun j=>
 D4 (f41_j12 c l j) fun n=>
 D4 (f41_j13 n) fun m=>
 D4 (f41_j14 c m) fun s=>
 D4 (f41_j15 j s) fun r=>
 D4 (f41_j16 r) fun p=>
 D4 (f41_j17 j p) fun q=>
 D4 (f41_j18 q) fun e=>
 bif (e.1 != 0) then
 some ((0:Int),e.1,e.2.2)
 else
 some (e.2.1,(0:Int),e.2.2)) (fun v=>
 some ((0:Int),(4:Int),b))) (fun z=>
 some ((0:Int),(1:Int),b))
instance H41 (m:NL) (i d:Int) (k:LI) (b:Int): HF 41 [P0 0 0,.dat T0 i,.dat T0 d,.dat T4 k,.dat T0 b] [(0,.cells [(.osl 1)]),(1,.arr 112 T6 m)] 2 (f41 m i d k b) (fun y=>[.dat T0 y.1,.dat T0 y.2.1]) (fun y=>[(0,.cells [(.osl 2)]),(2,.arr 112 T6 y.2.2)]) 3:=hd Tryz.f41 rfl fun y q=>by
 unfold f41 at q
 refine OL ?_
 obtain ⟨z1,d2,q⟩:=bE q
 let l:LE:=fun j=>(0,P0 0 0)::j
 let e1:LE:=fun j=>l ((1,.dat T0 i)::j)
 let e2:LE:=fun j=>e1 ((2,.dat T0 d)::(3,.dat T4 k)::(4,.dat T0 b)::j)
 let h3:LH:=fun j=>(0,.cells [(.osl 1)])::(1,.arr 112 T6 m)::j
 refine OQ ⟨Sum.elim (fun c4=>[(0,⟨e2 [],h3 [],2⟩)]) (fun d0=>[(1,⟨[(10,D0 0),(11,D0 1)],h3 [],2⟩)]) z1,?_,?_⟩
 ·have q:=d2
  unfold f41_j1 at q
  exact gV
 rcases z1 with c4 | d0
 ·dsimp only [F5] at q
  refine AI (OL (gI q (fun q=>?_))) TV
  obtain ⟨z2,c3,q⟩:=bE q
  refine OQ ⟨Sum.elim (fun c9=>[(0,⟨e2 [(12,.dat T4 ((((((rd (Ty.z T6) m d).2).2).2).2).1))],h3 [],2⟩)]) (fun c5=>[(1,⟨[(10,D0 0),(11,D0 4)],h3 [],2⟩)]) z2,?_,?_⟩
  ·have q:=c3
   unfold f41_j2 at q
   exact gV
  rcases z2 with c9 | c5
  ·dsimp only [F5] at q
   refine AI (OL (OL (cI q (fun q=>?_) (fun q=>?_)))) TV
   ·refine OL ?_
    obtain ⟨r3,h,q⟩:=bE q
    refine cL h gW ?_
    refine R3 (AI (lQ rfl) (R2 (AJ (AI (R2 TV) ?_))))
    obtain ⟨z5,d1,q⟩:=bE q
    let h4:LH:=fun j=>(0,.cells [(.osl 2)])::j
    refine OQ ⟨[(0,⟨e1 [(13,.dat T0 z5.1),(14,.dat T0 z5.2.1)],h4 [(2,.arr 112 T6 z5.2.2)],3⟩)],?_,?_⟩
    ·have q:=d1
     unfold f41_j3 at q
     exact gV
    refine AI ?_ TV
    obtain ⟨z9,c0,q⟩:=bE q
    refine OQ ⟨[(0,⟨e1 [(13,.dat T0 z9.1),(14,.dat T0 z9.2.1)],h4 [(2,.arr 112 T6 z9.2.2)],3⟩)],?_,?_⟩
    ·have q:=c0
     clear c0
     unfold f41_j5 at q
     obtain ⟨c8,b2,q⟩:=bE q
     refine OQ ⟨[(0,⟨e1 [(13,.dat T0 z5.1),(14,.dat T0 z5.2.1),(102,.dat .bool c8)],h4 [(2,.arr 112 T6 z5.2.2)],3⟩)],?_,?_⟩
     ·have q:=b2
      unfold f41_j6 at q
      exact gV
     exact gV
    refine AI ?_ TV
    obtain ⟨u,o,q⟩:=bE q
    refine OQ ⟨[(0,⟨l [(13,.dat T0 u.1),(14,.dat T0 u.2.1)],h4 [(2,.arr 112 T6 u.2.2)],3⟩)],?_,?_⟩
    ·have q:=o
     clear o
     unfold f41_j8 at q
     obtain ⟨c7,b9,q⟩:=bE q
     refine OQ ⟨[(0,⟨l [(13,.dat T0 z9.1),(14,.dat T0 z9.2.1),(115,.dat .bool c7)],h4 [(2,.arr 112 T6 z9.2.2)],3⟩)],?_,?_⟩
     ·have q:=b9
      unfold f41_j9 at q
      exact gV
     exact gV
    refine AI ?_ TV
    obtain ⟨x,b1,q⟩:=bE q
    refine OQ ⟨[(0,⟨[(13,.dat T0 x.1),(14,.dat T0 x.2.1)],h4 [(2,.arr 112 T6 x.2.2)],3⟩)],?_,?_⟩
    ·have q:=b1
     unfold f41_j10 at q
     exact gV
    exact gV
   refine OL ?_
   obtain ⟨d4,h,q⟩:=bE q
   refine cL h gW ?_
   refine R3 (AI (lQ rfl) (R2 (AI TV (AI TV ?_))))
   obtain ⟨d3,h,q⟩:=bE q
   refine cL h gW ?_
   refine R3 (AI (lQ rfl) (R2 (AI TV (AI TV (OL (OL (OL (gI q (fun q=>?_)))))))))
   refine OL (OL (gI q (fun q=>?_)))
   refine OL (OL ?_)
   obtain ⟨c6,h,q⟩:=bE q
   refine cL h gW ?_
   refine R3 (AI (lQ rfl) (R2 (AJ (AI (R2 TV) (OL ?_)))))
   obtain ⟨c,b7,q⟩:=bE q
   let n:LH:=fun j=>(0,.cells [(.osl 2)])::j
   refine OQ ⟨[(0,⟨l [(2,.dat T0 d),(17,.dat T0 c6.1),(18,.dat T0 c.1),(19,.dat T0 c.2.1),(20,D0 0)],n [(2,.arr 112 T6 c.2.2)],3⟩)],?_,?_⟩
   ·have q:=b7
    unfold f41_j11 at q
    exact gV
   refine AI ?_ TV
   obtain ⟨s,c2,q⟩:=bE q
   refine OQ ⟨[(0,⟨l [(2,.dat T0 d),(18,.dat T0 s.1),(19,.dat T0 c.2.1),(20,.dat T0 s.2.1)],n [(2,.arr 112 T6 s.2.2)],3⟩)],?_,?_⟩
   ·have q:=c2
    unfold f41_j12 at q
    exact gV
   refine AI ?_ TV
   obtain ⟨p,b4,q⟩:=bE q
   refine OQ ⟨[(0,⟨l [(2,.dat T0 d),(18,.dat T0 p.1),(19,.dat T0 c.2.1),(20,.dat T0 p.2.1)],n [(2,.arr 112 T6 p.2.2)],3⟩)],?_,?_⟩
   ·have q:=b4
    unfold f41_j13 at q
    exact gV
   refine AI ?_ TV
   obtain ⟨b0,b8,q⟩:=bE q
   refine OQ ⟨[(0,⟨l [(18,.dat T0 b0.1),(19,.dat T0 c.2.1),(20,.dat T0 b0.2.1)],n [(2,.arr 112 T6 b0.2.2)],3⟩)],?_,?_⟩
   ·have q:=b8
    unfold f41_j14 at q
    exact gV
   refine AI ?_ TV
   obtain ⟨z,b6,q⟩:=bE q
   refine OQ ⟨[(0,⟨l [(18,.dat T0 z.1),(19,.dat T0 c.2.1),(20,.dat T0 z.2.1)],n [(2,.arr 112 T6 z.2.2)],3⟩)],?_,?_⟩
   ·have q:=b6
    unfold f41_j15 at q
    exact gV
   refine AI ?_ TV
   obtain ⟨v,b5,q⟩:=bE q
   refine OQ ⟨[(0,⟨l [(18,.dat T0 v.1),(19,.dat T0 c.2.1),(20,.dat T0 v.2.1)],n [(2,.arr 112 T6 v.2.2)],3⟩)],?_,?_⟩
   ·have q:=b5
    unfold f41_j16 at q
    exact gV
   refine AI ?_ TV
   obtain ⟨w,c1,q⟩:=bE q
   refine OQ ⟨[(0,⟨l [(18,.dat T0 w.1),(20,.dat T0 w.2.1)],n [(2,.arr 112 T6 w.2.2)],3⟩)],?_,?_⟩
   ·have q:=c1
    unfold f41_j17 at q
    exact gV
   refine AI ?_ TV
   obtain ⟨t,b3,q⟩:=bE q
   refine OQ ⟨[(0,⟨[(18,.dat T0 t.1),(20,.dat T0 t.2.1)],n [(2,.arr 112 T6 t.2.2)],3⟩)],?_,?_⟩
   ·have q:=b3
    unfold f41_j18 at q
    exact gV
   exact gV
  exact gV
 exact gV
def f181_j3 (a:Fz) (d:LI):Option Bool:=
 D4 (f118 (a.1,a.2)) fun c=>
 bif (!c) then
 some true
 else
 D4 (f173 d) fun b=>
 some (!b)
def f181_j2 (a:Fz) (d:LI):Option (Sum Unit Unit):=
 D4 (f181_j3 a d) fun b=>
 bif b then
 some (Sum.inr ())
 else
 some (Sum.inl ())
def f181_j6 (a:Fz) (b:Jy):Option Bool:=
 bif (b.1 != 0) then
 some true
 else
 D4 (f62 b.2 a.1) fun c=>
 some (!c)
def f181_j5 (a:Fz) (b:Jy):Option (Sum Unit Unit):=
 D4 (f181_j6 a b) fun c=>
 bif c then
 some (Sum.inr ())
 else
 some (Sum.inl ())
def f181_l7 (a:Fz) (d:LI) (g:Jy→Option LI) (i:Int) (e:LI):Option LI:=
 bif (decide (i<a.2.length)) then
 D4 (f137 d a.1 i) fun b=>
 Ey (0≤b.1∧b.1<e.length)<|
 Ey (0≤i∧i<a.2.length)<|
 D4 (f92 (rd 0 e b.1) (rd 0 a.2 i)) fun c=>
 Ey (0≤b.1∧b.1<e.length)<|
 g ((i64.wrap (i+1)),(List.set e (Int.toNat b.1) c))
 else
 some e
def f181 (a:Fz) (d:LI):Option Jn:=
 D4 (f181_j2 a d) fun m=>
 F5 m (fun j=>
 D4 (f136 d a.1) fun e=>
 D4 (f181_j5 a e) fun g=>
 F5 g (fun i=>
 D4 (f79 d (0:Int)) fun b=>
 D4 (Fp (fun l x=>f181_l7 a d l x.1 x.2) Fq ((0:Int),b.2)) fun c=>
 some ((0:Int),b.1,c)) (fun h=>
 some ((4:Int),[],[]))) (fun k=>
 some ((1:Int),[],[]))
instance H181 (a:Fz) (d:LI): HF 181 [.dat T7 a,.dat T4 d] [] 0 (f181 a d) (fun y=>[.raw true [(.osl 0),(.osl 1)],.dat T0 y.1]) (fun y=>[(0,.arr 3 T0 y.2.1),(1,.arr 35 T0 y.2.2)]) 2:=hd Tryz.f181 rfl fun y q=>by
 unfold f181 at q
 refine OL ?_
 obtain ⟨z5,p,q⟩:=bE q
 let j:LE:=fun v=>(1,.dat T4 d)::(2,P0 0 0)::(4,P0 1 0)::v
 let s:LH:=fun v=>(0,.cells [(.d T4 a.1),(.d T4 a.2)])::(1,.cells [N0,N0])::v
 refine OQ ⟨Sum.elim (fun w=>[(0,⟨j [],s [],2⟩)]) (fun b0=>[(1,⟨[(4,P0 0 0),(5,D0 1)],[(0,.cells [N0,N0])],1⟩)]) z5,?_,?_⟩
 ·have q:=p
  clear p
  unfold f181_j2 at q
  obtain ⟨z8,t,q⟩:=bE q
  refine OQ ⟨[(0,⟨j [(19,.dat .bool z8)],s [],2⟩)],?_,?_⟩
  ·have q:=t
   unfold f181_j3 at q
   exact gV
  exact gV
 rcases z5 with w | b0
 ·dsimp only [F5] at q
  refine AI (OL ?_) TV
  obtain ⟨b2,h,q⟩:=bE q
  refine cL h gW ?_
  refine R3 (AI (lQ rfl) (R2 (AI TV (AI TV ?_))))
  obtain ⟨n,b,q⟩:=bE q
  refine OQ ⟨Sum.elim (fun l=>[(0,⟨j [],s [],2⟩)]) (fun k=>[(1,⟨[(4,P0 0 0),(5,D0 4)],[(0,.cells [N0,N0])],1⟩)]) n,?_,?_⟩
  ·have q:=b
   clear b
   unfold f181_j5 at q
   obtain ⟨u,o,q⟩:=bE q
   refine OQ ⟨[(0,⟨j [(36,.dat .bool u)],s [],2⟩)],?_,?_⟩
   ·have q:=o
    unfold f181_j6 at q
    exact gV
   exact gV
  rcases n with l | k
  ·dsimp only [F5] at q
   refine AI (OL ?_) TV
   obtain ⟨c,h,q⟩:=bE q
   refine cL h gW ?_
   refine R3 (AI (lQ rfl) (R2 (AI TV (AI TV (OL (OL (OL ?_)))))))
   obtain ⟨b1,h,q⟩:=bE q
   refine lJ h (fun x=>⟨j [(8,P0 2 0),(9,.dat T0 x.1)],s [(2,.cells [(.osl 3),(.osl 4)]),(3,.arr 3 T0 c.1),(4,.arr 35 T0 x.2)],5⟩) (fun z=>[(2,⟨[(4,P0 0 0),(8,P0 1 0)],[(0,.cells [N0,N0]),(1,.cells [(.osl 2),(.osl 3)]),(2,.arr 3 T0 c.1),(3,.arr 35 T0 z)],4⟩)]) gV (fun m=>F3 (fun i=>fun l4 z q=>?_)) ?_
   ·have q:f181_l7 a d _ i l4=some z:=q
    unfold f181_l7 at q
    refine OL (OL (cI q (fun q=>?_) (fun q=>?_)))
    ·refine OL (OL ?_)
     obtain ⟨b3,h,q⟩:=bE q
     refine cL h gW ?_
     refine R4 (AI (lQ rfl) (R2 (AI TV (AI TV (EI (tU 0 13 (.alt 13 (.take 14 (.alt 15 .done .done)) .done)) (EI [(15,[4])] (EI [] (AI rfl ?_))))))))
     exact gV
    exact gV
   exact gV
  exact gV
 exact gV
def f123 (g:Fz) (d:LI):Option Fz:=
 D4 (f181 (g.1,g.2) d) fun a=>
 some (a.2.1,a.2.2)
instance H123 (g:Fz) (d:LI): HF 123 [.dat T7 g,.dat T4 d] [] 0 (f123 g d) (fun _=>[.raw true [(.osl 0),(.osl 1)]]) (fun y=>[(0,.arr 3 T0 y.1),(1,.arr 35 T0 y.2)]) 2:=hd Tryz.f123 rfl fun y q=>by
 unfold f123 at q
 exact gV
def f184 (a b:Int):Option Int:=
 bif (a==1) then
 bif (decide (b>0)) then
 some (4294967296:Int)
 else
 some (0:Int)
 else
 bif (a==2) then
 bif (decide (b>0)) then
 some (4294967296:Int)
 else
 some (536870912:Int)
 else
 bif (a==3) then
 bif (decide (b>(-4294967296:Int))) then
 bif (decide (b<4294967296)) then
 some (4294967296:Int)
 else
 some (0:Int)
 else
 some (0:Int)
 else
 bif (a==4) then
 bif (decide (b>0)) then
 some (4294967296:Int)
 else
 bif (decide (b<0)) then
 some (-4294967296:Int)
 else
 some (0:Int)
 else
 bif (decide (b>(-4294967296:Int))) then
 bif (decide (b<4294967296)) then
 some (2147483648:Int)
 else
 some (0:Int)
 else
 some (0:Int)
instance H184 (b c:Int): HE 184 [.dat T0 b,.dat T0 c] (f184 b c) (fun y=>[.dat T0 y]):=hd Tryz.f184 rfl fun y q=>by
 unfold f184 at q
 exact gV
def f131_j3 (a:Int) (t g:Fz):Option Bool:=
 bif (decide (a<1)) then
 some true
 else
 bif (decide (a>5)) then
 some true
 else
 D4 (f118 (t.1,t.2)) fun c=>
 bif (!c) then
 some true
 else
 D4 (f118 (g.1,g.2)) fun b=>
 some (!b)
def f131_j2 (a:Int) (t g:Fz):Option (Sum Unit Unit):=
 D4 (f131_j3 a t g) fun b=>
 bif b then
 some (Sum.inr ())
 else
 some (Sum.inl ())
def f131_l4 (c:Int) (t g:Fz) (e:Jy→Option LI) (i:Int) (d:LI):Option LI:=
 bif (decide (i<d.length)) then
 Ey (0≤i∧i<g.2.length)<|
 Ey (0≤i∧i<t.2.length)<|
 D4 (f184 c (rd 0 t.2 i)) fun b=>
 D4 (f93 (rd 0 g.2 i) b) fun a=>
 Ey (0≤i∧i<d.length)<|
 e ((i64.wrap (i+1)),(List.set d (Int.toNat i) a))
 else
 some d
def f131 (a:Int) (t g:Fz):Option Jn:=
 D4 (f131_j2 a t g) fun j=>
 F5 j (fun e=>
 D4 (f62 t.1 g.1) fun d=>
 bif (!d) then
 some ((4:Int),[],[])
 else
 D4 (f79 t.1 (0:Int)) fun b=>
 D4 (Fp (fun i x=>f131_l4 a t g i x.1 x.2) Fq ((0:Int),b.2)) fun c=>
 some ((0:Int),b.1,c)) (fun h=>
 some ((1:Int),[],[]))
instance H131 (b:Int) (t g:Fz): HF 131 [.dat T0 b,.dat T7 t,.dat T7 g] [] 0 (f131 b t g) (fun y=>[.raw true [(.osl 0),(.osl 1)],.dat T0 y.1]) (fun y=>[(0,.arr 3 T0 y.2.1),(1,.arr 35 T0 y.2.2)]) 2:=hd Tryz.f131 rfl fun y q=>by
 unfold f131 at q
 refine OL ?_
 obtain ⟨s,d,q⟩:=bE q
 let k:LE:=fun l=>(0,.dat T0 b)::(4,P0 0 0)::(5,P0 1 0)::(6,P0 2 0)::l
 let p:LH:=fun l=>(0,.cells [(.d T4 t.1),(.d T4 t.2)])::(1,.cells [(.d T4 g.1),(.d T4 g.2)])::(2,.cells [N0,N0])::l
 refine OQ ⟨Sum.elim (fun n=>[(0,⟨k [],p [],3⟩)]) (fun o=>[(1,⟨[(6,P0 0 0),(7,D0 1)],[(0,.cells [N0,N0])],1⟩)]) s,?_,?_⟩
 ·have q:=d
  clear d
  unfold f131_j2 at q
  obtain ⟨v,j,q⟩:=bE q
  refine OQ ⟨[(0,⟨k [(25,.dat .bool v)],p [],3⟩)],?_,?_⟩
  ·have q:=j
   unfold f131_j3 at q
   exact gV
  exact gV
 rcases s with n | o
 ·dsimp only [F5] at q
  refine AI (OL (OL ?_)) TV
  obtain ⟨b0,h,q⟩:=bE q
  refine cL h gW ?_
  refine R3 (AI (lQ rfl) (R2 (AI TV (AI TV (cI q (fun q=>?_) (fun q=>?_))))))
  ·exact gV
  refine OL ?_
  obtain ⟨c,h,q⟩:=bE q
  refine cL h gW ?_
  refine R3 (AI (lQ rfl) (R2 (AI TV (AI TV (OL (OL (OL ?_)))))))
  obtain ⟨w,h,q⟩:=bE q
  refine lJ h (fun x=>⟨k [(8,P0 3 0),(9,.dat T0 x.1)],p [(3,.cells [(.osl 4),(.osl 5)]),(4,.arr 3 T0 c.1),(5,.arr 35 T0 x.2)],6⟩) (fun z=>[(2,⟨[(6,P0 0 0),(8,P0 1 0)],[(0,.cells [N0,N0]),(1,.cells [(.osl 2),(.osl 3)]),(2,.arr 3 T0 c.1),(3,.arr 35 T0 z)],4⟩)]) gV (fun m=>F3 (fun i=>fun u z q=>?_)) ?_
  ·have q:f131_l4 b t g _ i u=some z:=q
   unfold f131_l4 at q
   exact gV
  exact gV
 exact gV
def f132_j3 (g k:Fz) (b a:Int):Option Bool:=
 D4 (f118 (g.1,g.2)) fun d=>
 bif (!d) then
 some true
 else
 D4 (f118 (k.1,k.2)) fun c=>
 bif (!c) then
 some true
 else
 bif (decide (b<1)) then
 some true
 else
 bif (decide (b>64)) then
 some true
 else
 bif (decide (a<1)) then
 some true
 else
 some (decide (a>4096))
def f132_j2 (g k:Fz) (b a:Int):Option (Sum Unit Unit):=
 D4 (f132_j3 g k b a) fun c=>
 bif c then
 some (Sum.inr ())
 else
 some (Sum.inl ())
def f132_j6 (g k:Fz) (b a:Int):Option Bool:=
 bif ((g.1.length:Int) != 2) then
 some true
 else
 bif ((k.1.length:Int) != 3) then
 some true
 else
 Ey (0≤(0:Int)∧0<(g.1.length:Int))<|
 Ey (0≤(0:Int)∧0<(k.1.length:Int))<|
 bif ((rd 0 g.1 0) != (rd 0 k.1 0)) then
 some true
 else
 Ey (0≤(2:Int)∧2<(k.1.length:Int))<|
 bif (decide ((rd 0 k.1 2)>a)) then
 some true
 else
 Ey (0≤(1:Int)∧1<(g.1.length:Int))<|
 Ey (0≤(2:Int)∧2<(k.1.length:Int))<|
 Ey (b≠0)<|
 some ((rd 0 g.1 1) != (i64.wrap ((i64.wrap (Int.tdiv (i64.wrap (a-(rd 0 k.1 2))) b))+1)))
def f132_j5 (g k:Fz) (b a:Int):Option (Sum Unit Unit):=
 D4 (f132_j6 g k b a) fun c=>
 bif c then
 some (Sum.inr ())
 else
 some (Sum.inl ())
def f132_j72 (k:Fz) (a l j:Int):Option (Sum Unit Unit):=
 bif (decide ((i64.wrap (l-(i64.wrap (j*a))))<0)) then
 some (Sum.inr ())
 else
 bif (decide ((i64.wrap (l-(i64.wrap (j*a))))≥(rd 0 k.1 2))) then
 some (Sum.inr ())
 else
 some (Sum.inl ())
def f132_l73 (g k:Fz) (n o l j:Int) (p:(Int×Jt)→Option Jt) (i:Int) (m:Bool) (d e h c:Int):Option Jt:=
 bif (decide (i<(rd 0 g.1 0))) then
 Ey (0≤(i64.wrap ((i64.wrap (i*(rd 0 g.1 1)))+j))∧(i64.wrap ((i64.wrap (i*(rd 0 g.1 1)))+j))<g.2.length)<|
 Ey (0≤(i64.wrap ((i64.wrap ((i64.wrap ((i64.wrap (i*(rd 0 k.1 1)))+o))*(rd 0 k.1 2)))+(i64.wrap (l-(i64.wrap (j*n))))))∧(i64.wrap ((i64.wrap ((i64.wrap ((i64.wrap (i*(rd 0 k.1 1)))+o))*(rd 0 k.1 2)))+(i64.wrap (l-(i64.wrap (j*n))))))<k.2.length)<|
 D4 (f149 (rd 0 g.2 (i64.wrap ((i64.wrap (i*(rd 0 g.1 1)))+j))) (rd 0 k.2 (i64.wrap ((i64.wrap ((i64.wrap ((i64.wrap (i*(rd 0 k.1 1)))+o))*(rd 0 k.1 2)))+(i64.wrap (l-(i64.wrap (j*n)))))))) fun a=>
 D4 (f83 m d e h c a.1 a.2.1 a.2.2.1 a.2.2.2.1 a.2.2.2.2) fun b=>
 p ((i64.wrap (i+1)),b.1,b.2.1,b.2.2.1,b.2.2.2.1,b.2.2.2.2)
 else
 some (m,d,e,h,c)
def f132_l71 (g k:Fz) (i q l:Int) (m:(Int×Jt)→Option Jt) (j:Int) (d:Bool) (a c h e:Int):Option Jt:=
 bif (decide (j<(rd 0 g.1 1))) then
 D4 (f132_j72 k i l j) fun n=>
 F5 n (fun o=>
 D4 (Fp (fun m x=>f132_l73 g k i q l j m x.1 x.2.1 x.2.2.1 x.2.2.2.1 x.2.2.2.2.1 x.2.2.2.2.2) Fq ((0:Int),d,a,c,h,e)) fun b=>
 m ((i64.wrap (j+1)),b.1,b.2.1,b.2.2.1,b.2.2.2.1,b.2.2.2.2)) (fun p=>
 m ((i64.wrap (j+1)),d,a,c,h,e))
 else
 some (d,a,c,h,e)
def f132_l66 (g k:Fz) (h b i:Int) (j:Jy→Option LI) (l:Int) (d:LI):Option LI:=
 bif (decide (l<b)) then
 D4 (Fp (fun j x=>f132_l71 g k h i l j x.1 x.2.1 x.2.2.1 x.2.2.2.1 x.2.2.2.2.1 x.2.2.2.2.2) Fq ((0:Int),false,(0:Int),(0:Int),(0:Int),(0:Int))) fun c=>
 D4 (f148 c.1 c.2.1 c.2.2.1 c.2.2.2.1 c.2.2.2.2 (32:Int)) fun a=>
 D4 (f129 a.1 a.2.1 a.2.2.1 a.2.2.2.1 a.2.2.2.2) fun e=>
 Ey (0≤(i64.wrap ((i64.wrap (i*b))+l))∧(i64.wrap ((i64.wrap (i*b))+l))<d.length)<|
 j ((i64.wrap (l+1)),(List.set d (Int.toNat (i64.wrap ((i64.wrap (i*b))+l))) e))
 else
 some d
def f132_l51 (g k:Fz) (b a:Int) (e:Jy→Option LI) (c:Int) (h:LI):Option LI:=
 bif (decide (c<(rd 0 k.1 1))) then
 D4 (Fp (fun e x=>f132_l66 g k b a c e x.1 x.2) Fq ((0:Int),h)) fun d=>
 e ((i64.wrap (c+1)),d)
 else
 some h
def f132 (g k:Fz) (b a:Int):Option Jn:=
 D4 (f132_j2 g k b a) fun o=>
 F5 o (fun l=>
 D4 (f132_j5 g k b a) fun e=>
 F5 e (fun j=>
 Ey (0≤(0:Int)∧0<(g.1.length:Int))<|
 Ey (0≤(1:Int)∧1<(g.1.length:Int))<|
 Ey (0≤(1:Int)∧1<(k.1.length:Int))<|
 Ey (0≤(2:Int)∧2<(k.1.length:Int))<|
 D4 (f173 ([(rd 0 k.1 1),a])) fun c=>
 bif (!c) then
 some ((2:Int),[],[])
 else
 D4 (f79 ([(rd 0 k.1 1),a]) (0:Int)) fun d=>
 D4 (Fp (fun n x=>f132_l51 g k b a n x.1 x.2) Fq ((0:Int),d.2)) fun h=>
 some ((0:Int),d.1,h)) (fun i=>
 some ((4:Int),[],[]))) (fun m=>
 some ((1:Int),[],[]))
instance H132 (g k:Fz) (b n:Int): HF 132 [.dat T7 g,.dat T7 k,.dat T0 b,.dat T0 n] [] 0 (f132 g k b n) (fun y=>[.raw true [(.osl 0),(.osl 1)],.dat T0 y.1]) (fun y=>[(0,.arr 3 T0 y.2.1),(1,.arr 35 T0 y.2.2)]) 2:=hd Tryz.f132 rfl fun y q=>by
 unfold f132 at q
 refine OL ?_
 obtain ⟨z5,c5,q⟩:=bE q
 let e0:LE:=fun d=>(2,.dat T0 b)::(3,.dat T0 n)::(4,P0 0 0)::(5,P0 1 0)::(8,P0 2 0)::d
 let h1:LH:=fun d=>(0,.cells [(.d T4 g.1),(.d T4 g.2)])::(1,.cells [(.d T4 k.1),(.d T4 k.2)])::(2,.cells [N0,N0])::d
 refine OQ ⟨Sum.elim (fun c8=>[(0,⟨e0 [],h1 [],3⟩)]) (fun d1=>[(1,⟨[(8,P0 0 0),(9,D0 1)],[(0,.cells [N0,N0])],1⟩)]) z5,?_,?_⟩
 ·have q:=c5
  clear c5
  unfold f132_j2 at q
  obtain ⟨z8,c9,q⟩:=bE q
  refine OQ ⟨[(0,⟨e0 [(44,.dat .bool z8)],h1 [],3⟩)],?_,?_⟩
  ·have q:=c9
   unfold f132_j3 at q
   exact gV
  exact gV
 rcases z5 with c8 | d1
 ·dsimp only [F5] at q
  refine AI ?_ TV
  obtain ⟨c0,b1,q⟩:=bE q
  refine OQ ⟨Sum.elim (fun c4=>[(0,⟨e0 [],h1 [],3⟩)]) (fun b5=>[(1,⟨[(8,P0 0 0),(9,D0 4)],[(0,.cells [N0,N0])],1⟩)]) c0,?_,?_⟩
  ·have q:=b1
   clear b1
   unfold f132_j5 at q
   obtain ⟨d0,c1,q⟩:=bE q
   refine OQ ⟨[(0,⟨e0 [(90,.dat .bool d0)],h1 [],3⟩)],?_,?_⟩
   ·have q:=c1
    unfold f132_j6 at q
    exact gV
   exact gV
  rcases c0 with c4 | b5
  ·dsimp only [F5] at q
   refine AI (OL (EI (tU 0 20 .done) (EI [] (EI [] (AI rfl (gI q (fun q=>?_))))))) TV
   refine gI q (fun q=>?_)
   refine gI q (fun q=>?_)
   refine gI q (fun q=>?_)
   refine OL (OL (OL ?_))
   obtain ⟨c7,h,q⟩:=bE q
   refine cL h gW ?_
   refine R2 (AI (lQ rfl) (R2 (AI TV (AI TV (cI q (fun q=>?_) (fun q=>?_))))))
   ·exact gV
   refine OL (OL ?_)
   obtain ⟨o,h,q⟩:=bE q
   refine cL h gW ?_
   refine R3 (AI (lQ rfl) (R2 (AI TV (AI TV (OL (OL (OL ?_)))))))
   obtain ⟨d2,b9,q⟩:=bE q
   let e2:LE:=fun d=>e0 ((10,.dat T0 (rd 0 g.1 0))::(11,.dat T0 (rd 0 g.1 1))::(12,.dat T0 (rd 0 k.1 1))::(13,.dat T0 (rd 0 k.1 2))::(14,P0 3 0)::d)
   let h3:LH:=fun d=>h1 ((3,.cells [(.osl 4),(.osl 5)])::(4,.arr 3 T0 o.1)::d)
   refine lJ b9 (fun x=>⟨e2 [(15,.dat T0 x.1)],h3 [(5,.arr 35 T0 x.2)],6⟩) (fun z=>[(2,⟨[(8,P0 0 0),(14,P0 1 0)],[(0,.cells [N0,N0]),(1,.cells [(.osl 2),(.osl 3)]),(2,.arr 3 T0 o.1),(3,.arr 35 T0 z)],4⟩)]) gV (fun m=>F3 (fun x_=>fun l5 z q=>?_)) ?_
   ·have q:f132_l51 g k b n _ x_ l5=some z:=q
    unfold f132_l51 at q
    refine OL (OL (cI q (fun q=>?_) (fun q=>?_)))
    ·refine OL (OL ?_)
     obtain ⟨d4,c6,q⟩:=bE q
     let e4:LE:=fun d=>e2 ((15,.dat T0 x_)::d)
     refine lJ c6 (fun x=>⟨e4 [(16,.dat T0 x.1)],h3 [(5,.arr 35 T0 x.2)],6⟩) (fun z=>[(4,⟨e4 [],h3 [(5,.arr 35 T0 z)],6⟩)]) gV (fun m=>F3 (fun l=>fun c z q=>?_)) ?_
     ·have q:f132_l66 g k b n x_ _ l c=some z:=q
      unfold f132_l66 at q
      refine OL (OL (cI q (fun q=>?_) (fun q=>?_)))
      ·refine OL (OL (OL (OL (OL ?_))))
       obtain ⟨d5,c3,q⟩:=bE q
       let e5:LE:=fun d=>e4 ((16,.dat T0 l)::(17,P0 4 0)::d)
       let h6:LH:=fun d=>h1 ((3,.cells [(.osl 5),(.osl 6)])::d)
       refine lJ c3 (fun x=>⟨e5 [(18,.dat T0 x.1)],h6 [(4,.cells [(.d .bool x.2.1),(.d T8 x.2.2.1),(.d T8 x.2.2.2.1),(.d T8 x.2.2.2.2.1),(.d T8 x.2.2.2.2.2)]),(5,.arr 3 T0 o.1),(6,.arr 35 T0 c)],7⟩) (fun z=>[(6,⟨e5 [],h6 [(4,.cells [(.d .bool z.1),(.d T8 z.2.1),(.d T8 z.2.2.1),(.d T8 z.2.2.2.1),(.d T8 z.2.2.2.2)]),(5,.arr 3 T0 o.1),(6,.arr 35 T0 c)],7⟩)]) gV (fun m=>F3 (fun j=>F3 (fun b3=>F3 (fun w=>F3 (fun b0=>F3 (fun b2=>fun b4 z q=>?_)))))) ?_
       ·have q:f132_l71 g k b x_ l _ j b3 w b0 b2 b4=some z:=q
        unfold f132_l71 at q
        refine OL (OL (cI q (fun q=>?_) (fun q=>?_)))
        ·refine OL (OL ?_)
         obtain ⟨b6,b8,q⟩:=bE q
         let e7:LE:=fun d=>e5 ((18,.dat T0 j)::(19,.dat T0 (i64.wrap (l-(i64.wrap (j*b)))))::d)
         let h8:LH:=fun d=>h6 ((4,.cells [(.d .bool b3),(.d T8 w),(.d T8 b0),(.d T8 b2),(.d T8 b4)])::(5,.arr 3 T0 o.1)::(6,.arr 35 T0 c)::d)
         refine OQ ⟨Sum.elim (fun c2=>[(0,⟨e7 [],h8 [],7⟩)]) (fun b7=>[(7,⟨e5 [(18,.dat T0 j)],h8 [],7⟩)]) b6,?_,?_⟩
         ·have q:=b8
          unfold f132_j72 at q
          exact gV
         rcases b6 with c2 | b7
         ·dsimp only [F5] at q
          refine AI (OL ?_) TV
          obtain ⟨d3,h,q⟩:=bE q
          refine lJ h (fun x=>⟨e7 [(20,.dat T0 x.1)],h6 [(4,.cells [(.d .bool x.2.1),(.d T8 x.2.2.1),(.d T8 x.2.2.2.1),(.d T8 x.2.2.2.2.1),(.d T8 x.2.2.2.2.2)]),(5,.arr 3 T0 o.1),(6,.arr 35 T0 c)],7⟩) (fun z=>[(8,⟨e5 [(18,.dat T0 j)],h6 [(4,.cells [(.d .bool z.1),(.d T8 z.2.1),(.d T8 z.2.2.1),(.d T8 z.2.2.2.1),(.d T8 z.2.2.2.2)]),(5,.arr 3 T0 o.1),(6,.arr 35 T0 c)],7⟩)]) gV (fun m=>F3 (fun i=>F3 (fun t=>F3 (fun v=>F3 (fun p=>F3 (fun s=>fun u z q=>?_)))))) ?_
          ·have q:f132_l73 g k b x_ l j _ i t v p s u=some z:=q
           unfold f132_l73 at q
           refine OL (OL (cI q (fun q=>?_) (fun q=>?_)))
           ·refine OL (EI (tU 0 23 (.alt 23 (.alt 24 (.alt 25 .done .done) .done) .done)) (EI [(25,[4])] (EI [] (AI rfl ?_))))
            exact gV
           exact gV
          exact gV
         exact gV
        exact gV
       exact gV
      exact gV
     exact gV
    exact gV
   exact gV
  exact gV
 exact gV
def f133_j3 (g a:Fz) (b w:Int):Option Bool:=
 D4 (f118 (g.1,g.2)) fun d=>
 bif (!d) then
 some true
 else
 D4 (f118 (a.1,a.2)) fun c=>
 bif (!c) then
 some true
 else
 bif (decide (b<1)) then
 some true
 else
 bif (decide (b>64)) then
 some true
 else
 bif (decide (w<1)) then
 some true
 else
 some (decide (w>4096))
def f133_j2 (g a:Fz) (b w:Int):Option (Sum Unit Unit):=
 D4 (f133_j3 g a b w) fun c=>
 bif c then
 some (Sum.inr ())
 else
 some (Sum.inl ())
def f133_j6 (g a:Fz) (b w:Int):Option Bool:=
 bif ((g.1.length:Int) != 2) then
 some true
 else
 bif ((a.1.length:Int) != 2) then
 some true
 else
 Ey (0≤(1:Int)∧1<(a.1.length:Int))<|
 bif (decide (w>(rd 0 a.1 1))) then
 some true
 else
 Ey (0≤(1:Int)∧1<(g.1.length:Int))<|
 Ey (0≤(1:Int)∧1<(a.1.length:Int))<|
 Ey (b≠0)<|
 some ((rd 0 g.1 1) != (i64.wrap ((i64.wrap (Int.tdiv (i64.wrap ((rd 0 a.1 1)-w)) b))+1)))
def f133_j5 (g a:Fz) (b w:Int):Option (Sum Unit Unit):=
 D4 (f133_j6 g a b w) fun c=>
 bif c then
 some (Sum.inr ())
 else
 some (Sum.inl ())
def f133_l46 (g a:Fz) (d i n o:Int) (p:(Int×Jt)→Option Jt) (j:Int) (k:Bool) (e h m l:Int):Option Jt:=
 bif (decide (j<(rd 0 g.1 1))) then
 Ey (0≤(i64.wrap ((i64.wrap (i*(rd 0 g.1 1)))+j))∧(i64.wrap ((i64.wrap (i*(rd 0 g.1 1)))+j))<g.2.length)<|
 Ey (0≤(i64.wrap ((i64.wrap ((i64.wrap (n*(rd 0 a.1 1)))+(i64.wrap (j*d))))+o))∧(i64.wrap ((i64.wrap ((i64.wrap (n*(rd 0 a.1 1)))+(i64.wrap (j*d))))+o))<a.2.length)<|
 D4 (f149 (rd 0 g.2 (i64.wrap ((i64.wrap (i*(rd 0 g.1 1)))+j))) (rd 0 a.2 (i64.wrap ((i64.wrap ((i64.wrap (n*(rd 0 a.1 1)))+(i64.wrap (j*d))))+o)))) fun c=>
 D4 (f83 k e h m l c.1 c.2.1 c.2.2.1 c.2.2.2.1 c.2.2.2.2) fun b=>
 p ((i64.wrap (j+1)),b.1,b.2.1,b.2.2.1,b.2.2.2.1,b.2.2.2.2)
 else
 some (k,e,h,m,l)
def f133_l45 (g a:Fz) (j w i k:Int) (l:Jy→Option LI) (h:Int) (c:LI):Option LI:=
 bif (decide (h<w)) then
 D4 (Fp (fun l x=>f133_l46 g a j i k h l x.1 x.2.1 x.2.2.1 x.2.2.2.1 x.2.2.2.2.1 x.2.2.2.2.2) Fq ((0:Int),false,(0:Int),(0:Int),(0:Int),(0:Int))) fun d=>
 D4 (f148 d.1 d.2.1 d.2.2.1 d.2.2.2.1 d.2.2.2.2 (32:Int)) fun b=>
 D4 (f129 b.1 b.2.1 b.2.2.1 b.2.2.2.1 b.2.2.2.2) fun e=>
 Ey (0≤(i64.wrap ((i64.wrap ((i64.wrap ((i64.wrap (i*(rd 0 a.1 0)))+k))*w))+h))∧(i64.wrap ((i64.wrap ((i64.wrap ((i64.wrap (i*(rd 0 a.1 0)))+k))*w))+h))<c.length)<|
 l ((i64.wrap (h+1)),(List.set c (Int.toNat (i64.wrap ((i64.wrap ((i64.wrap ((i64.wrap (i*(rd 0 a.1 0)))+k))*w))+h))) e))
 else
 some c
def f133_l42 (g a:Fz) (c w i:Int) (e:Jy→Option LI) (d:Int) (b:LI):Option LI:=
 bif (decide (d<(rd 0 a.1 0))) then
 D4 (Fp (fun e x=>f133_l45 g a c w i d e x.1 x.2) Fq ((0:Int),b)) fun h=>
 e ((i64.wrap (d+1)),h)
 else
 some b
def f133_l33 (g a:Fz) (b w:Int) (d:Jy→Option LI) (i:Int) (e:LI):Option LI:=
 bif (decide (i<(rd 0 g.1 0))) then
 D4 (Fp (fun d x=>f133_l42 g a b w i d x.1 x.2) Fq ((0:Int),e)) fun c=>
 d ((i64.wrap (i+1)),c)
 else
 some e
def f133 (g a:Fz) (b w:Int):Option Jn:=
 D4 (f133_j2 g a b w) fun n=>
 F5 n (fun k=>
 D4 (f133_j5 g a b w) fun e=>
 F5 e (fun j=>
 Ey (0≤(0:Int)∧0<(g.1.length:Int))<|
 Ey (0≤(1:Int)∧1<(g.1.length:Int))<|
 Ey (0≤(0:Int)∧0<(a.1.length:Int))<|
 Ey (0≤(1:Int)∧1<(a.1.length:Int))<|
 D4 (f173 ([(rd 0 g.1 0),(rd 0 a.1 0),w])) fun c=>
 bif (!c) then
 some ((2:Int),[],[])
 else
 D4 (f79 ([(rd 0 g.1 0),(rd 0 a.1 0),w]) (0:Int)) fun d=>
 D4 (Fp (fun m x=>f133_l33 g a b w m x.1 x.2) Fq ((0:Int),d.2)) fun h=>
 some ((0:Int),d.1,h)) (fun i=>
 some ((4:Int),[],[]))) (fun l=>
 some ((1:Int),[],[]))
instance H133 (g a:Fz) (b w:Int): HF 133 [.dat T7 g,.dat T7 a,.dat T0 b,.dat T0 w] [] 0 (f133 g a b w) (fun y=>[.raw true [(.osl 0),(.osl 1)],.dat T0 y.1]) (fun y=>[(0,.arr 3 T0 y.2.1),(1,.arr 35 T0 y.2.2)]) 2:=hd Tryz.f133 rfl fun y q=>by
 unfold f133 at q
 refine OL ?_
 obtain ⟨z5,b7,q⟩:=bE q
 let e0:LE:=fun d=>(2,.dat T0 b)::(3,.dat T0 w)::(4,P0 0 0)::(5,P0 1 0)::(8,P0 2 0)::d
 let o:LH:=fun d=>(0,.cells [(.d T4 g.1),(.d T4 g.2)])::(1,.cells [(.d T4 a.1),(.d T4 a.2)])::(2,.cells [N0,N0])::d
 refine OQ ⟨Sum.elim (fun b9=>[(0,⟨e0 [],o [],3⟩)]) (fun c2=>[(1,⟨[(8,P0 0 0),(9,D0 1)],[(0,.cells [N0,N0])],1⟩)]) z5,?_,?_⟩
 ·have q:=b7
  clear b7
  unfold f133_j2 at q
  obtain ⟨z8,c0,q⟩:=bE q
  refine OQ ⟨[(0,⟨e0 [(43,.dat .bool z8)],o [],3⟩)],?_,?_⟩
  ·have q:=c0
   unfold f133_j3 at q
   exact gV
  exact gV
 rcases z5 with b9 | c2
 ·dsimp only [F5] at q
  refine AI ?_ TV
  obtain ⟨b3,l,q⟩:=bE q
  refine OQ ⟨Sum.elim (fun b6=>[(0,⟨e0 [],o [],3⟩)]) (fun s=>[(1,⟨[(8,P0 0 0),(9,D0 4)],[(0,.cells [N0,N0])],1⟩)]) b3,?_,?_⟩
  ·have q:=l
   clear l
   unfold f133_j5 at q
   obtain ⟨c1,b4,q⟩:=bE q
   refine OQ ⟨[(0,⟨e0 [(78,.dat .bool c1)],o [],3⟩)],?_,?_⟩
   ·have q:=b4
    unfold f133_j6 at q
    exact gV
   exact gV
  rcases b3 with b6 | s
  ·dsimp only [F5] at q
   refine AI (OL (EI (tU 0 20 .done) (EI [] (EI [] (AI rfl (gI q (fun q=>?_))))))) TV
   refine gI q (fun q=>?_)
   refine gI q (fun q=>?_)
   refine gI q (fun q=>?_)
   refine OL (OL (OL ?_))
   obtain ⟨c3,h,q⟩:=bE q
   refine cL h gW ?_
   refine R2 (AI (lQ rfl) (R2 (AI TV (AI TV (cI q (fun q=>?_) (fun q=>?_))))))
   ·exact gV
   refine OL (OL ?_)
   obtain ⟨k,h,q⟩:=bE q
   refine cL h gW ?_
   refine R3 (AI (lQ rfl) (R2 (AI TV (AI TV (OL (OL (OL ?_)))))))
   obtain ⟨c6,t,q⟩:=bE q
   let e2:LE:=fun d=>e0 ((10,.dat T0 (rd 0 g.1 0))::(11,.dat T0 (rd 0 g.1 1))::(12,.dat T0 (rd 0 a.1 0))::(13,.dat T0 (rd 0 a.1 1))::(14,P0 3 0)::d)
   let h3:LH:=fun d=>o ((3,.cells [(.osl 4),(.osl 5)])::(4,.arr 3 T0 k.1)::d)
   refine lJ t (fun x=>⟨e2 [(15,.dat T0 x.1)],h3 [(5,.arr 35 T0 x.2)],6⟩) (fun z=>[(2,⟨[(8,P0 0 0),(14,P0 1 0)],[(0,.cells [N0,N0]),(1,.cells [(.osl 2),(.osl 3)]),(2,.arr 3 T0 k.1),(3,.arr 35 T0 z)],4⟩)]) gV (fun m=>F3 (fun i=>fun l5 z q=>?_)) ?_
   ·have q:f133_l33 g a b w _ i l5=some z:=q
    unfold f133_l33 at q
    refine OL (OL (cI q (fun q=>?_) (fun q=>?_)))
    ·refine OL (OL ?_)
     obtain ⟨c5,b1,q⟩:=bE q
     let p:LE:=fun d=>e2 ((15,.dat T0 i)::d)
     refine lJ b1 (fun x=>⟨p [(16,.dat T0 x.1)],h3 [(5,.arr 35 T0 x.2)],6⟩) (fun z=>[(4,⟨p [],h3 [(5,.arr 35 T0 z)],6⟩)]) gV (fun m=>F3 (fun n=>fun b0 z q=>?_)) ?_
     ·have q:f133_l42 g a b w i _ n b0=some z:=q
      unfold f133_l42 at q
      refine OL (OL (cI q (fun q=>?_) (fun q=>?_)))
      ·refine OL (OL ?_)
       obtain ⟨c7,h,q⟩:=bE q
       refine lJ h (fun x=>⟨p [(16,.dat T0 n),(17,.dat T0 x.1)],h3 [(5,.arr 35 T0 x.2)],6⟩) (fun z=>[(6,⟨p [(16,.dat T0 n)],h3 [(5,.arr 35 T0 z)],6⟩)]) gV (fun m=>F3 (fun y_=>fun c z q=>?_)) ?_
       ·have q:f133_l45 g a b w i n _ y_ c=some z:=q
        unfold f133_l45 at q
        refine OL (OL (cI q (fun q=>?_) (fun q=>?_)))
        ·refine OL (OL (OL (OL (OL ?_))))
         obtain ⟨c4,h,q⟩:=bE q
         refine lJ h (fun x=>⟨p [(16,.dat T0 n),(17,.dat T0 y_),(18,P0 4 0),(19,.dat T0 x.1)],o [(3,.cells [(.osl 5),(.osl 6)]),(4,.cells [(.d .bool x.2.1),(.d T8 x.2.2.1),(.d T8 x.2.2.2.1),(.d T8 x.2.2.2.2.1),(.d T8 x.2.2.2.2.2)]),(5,.arr 3 T0 k.1),(6,.arr 35 T0 c)],7⟩) (fun z=>[(8,⟨p [(16,.dat T0 n),(17,.dat T0 y_),(18,P0 4 0)],o [(3,.cells [(.osl 5),(.osl 6)]),(4,.cells [(.d .bool z.1),(.d T8 z.2.1),(.d T8 z.2.2.1),(.d T8 z.2.2.2.1),(.d T8 z.2.2.2.2)]),(5,.arr 3 T0 k.1),(6,.arr 35 T0 c)],7⟩)]) gV (fun m=>F3 (fun j=>F3 (fun b5=>F3 (fun u=>F3 (fun v=>F3 (fun b2=>fun b8 z q=>?_)))))) ?_
         ·have q:f133_l46 g a b i n y_ _ j b5 u v b2 b8=some z:=q
          unfold f133_l46 at q
          refine OL (OL (cI q (fun q=>?_) (fun q=>?_)))
          ·refine OL (EI (tU 0 23 (.alt 23 (.alt 24 (.alt 25 .done .done) .done) .done)) (EI [(25,[4])] (EI [] (AI rfl ?_))))
           exact gV
          exact gV
         exact gV
        exact gV
       exact gV
      exact gV
     exact gV
    exact gV
   exact gV
  exact gV
 exact gV
def f80_j3 (b:NL) (n:Int) (g:Fz):Option Bool:=
 bif (decide (n<0)) then
 some true
 else
 bif (decide (n≥b.length)) then
 some true
 else
 D4 (f118 (g.1,g.2)) fun c=>
 bif (!c) then
 some true
 else
 Ey (0≤n∧n<b.length)<|
 D4 (f62 g.1 ((((((rd (Ty.z T6) b n).2).2).2).2).1)) fun a=>
 some (!a)
def f80_j2 (a:NL) (n:Int) (g:Fz):Option (Sum Unit Unit):=
 D4 (f80_j3 a n g) fun b=>
 bif b then
 some (Sum.inr ())
 else
 some (Sum.inl ())
def f80_j4 (a:NL) (n:Int):Option Fz:=
 bif (decide (((((rd (Ty.z T6) a n).2).2).1)≥0)) then
 Ey (0≤(((rd (Ty.z T6) a n).2).2).1∧(((rd (Ty.z T6) a n).2).2).1<a.length)<|
 some ((((((rd (Ty.z T6) a ((((rd (Ty.z T6) a n).2).2).1)).2).2).2).2).1,(((((rd (Ty.z T6) a ((((rd (Ty.z T6) a n).2).2).1)).2).2).2).2).2)
 else
 some ([],[])
def f80_l5 (a:NL) (n:Int) (g:Fz) (e:Jy→Option LI) (i:Int) (d:LI):Option LI:=
 bif (decide (i<d.length)) then
 D4 (f127 ((((((rd (Ty.z T6) a (((rd (Ty.z T6) a n).2).1)).2).2).2).2).1) i) fun c=>
 Ey (0≤((((rd (Ty.z T6) a n).2).2).2).1∧((((rd (Ty.z T6) a n).2).2).2).1≤c.2.length)<|
 Ey (0≤(i64.wrap ((((((rd (Ty.z T6) a n).2).2).2).1)+1))∧(i64.wrap ((((((rd (Ty.z T6) a n).2).2).2).1)+1))≤c.2.length)<|
 Ey ((List.length ([]:LI)+List.length (List.take (Int.toNat (((((rd (Ty.z T6) a n).2).2).2).1)) c.2))*8≤140737488355328)<|
 Ey ((List.length (([]:LI)++(List.take (Int.toNat (((((rd (Ty.z T6) a n).2).2).2).1)) c.2))+List.length (List.drop (Int.toNat (i64.wrap ((((((rd (Ty.z T6) a n).2).2).2).1)+1))) c.2))*8≤140737488355328)<|
 D4 (f128 g.1 ((([]:LI)++(List.take (Int.toNat (((((rd (Ty.z T6) a n).2).2).2).1)) c.2))++(List.drop (Int.toNat (i64.wrap ((((((rd (Ty.z T6) a n).2).2).2).1)+1))) c.2))) fun b=>
 Ey (0≤b.1∧b.1<g.2.length)<|
 Ey (0≤i∧i<d.length)<|
 e ((i64.wrap (i+1)),(List.set d (Int.toNat i) (rd 0 g.2 b.1)))
 else
 some d
def f80_j6 (a:NL) (n:Int) (g c:Fz):Option Fz:=
 Ey (0≤(1:Int)∧(1:Int)<(List.length ((((((rd (Ty.z T6) a (((rd (Ty.z T6) a n).2).1)).2).2).2).2).1):Int))<|
 D4 (f132 (g.1,g.2) (c.1,c.2) (((((rd (Ty.z T6) a n).2).2).2).1) (rd 0 ((((((rd (Ty.z T6) a (((rd (Ty.z T6) a n).2).1)).2).2).2).2).1) (1:Int))) fun b=>
 some (b.2.1,b.2.2)
def f80_j7 (b:NL) (n:Int) (g c:Fz):Option Fz:=
 Ey (0≤(2:Int)∧2<(c.1.length:Int))<|
 D4 (f133 (g.1,g.2) ((((((rd (Ty.z T6) b (((rd (Ty.z T6) b n).2).1)).2).2).2).2).1,(((((rd (Ty.z T6) b (((rd (Ty.z T6) b n).2).1)).2).2).2).2).2) (((((rd (Ty.z T6) b n).2).2).2).1) (rd 0 c.1 2)) fun a=>
 some (a.2.1,a.2.2)
def f80_l8 (g:Fz) (a:Int×LI×Fz) (c:Jy→Option LI) (i:Int) (b:LI):Option LI:=
 bif (decide (i<a.2.2.2.length)) then
 Ey (0≤i∧i<a.2.2.2.length)<|
 Ey (0≤i∧i<g.2.length)<|
 Ey (0≤(rd 0 a.2.2.2 i)∧(rd 0 a.2.2.2 i)<b.length)<|
 c ((i64.wrap (i+1)),(List.set b (Int.toNat (rd 0 a.2.2.2 i)) (rd 0 g.2 i)))
 else
 some b
def f80 (a:NL) (n:Int) (g:Fz):Option (Int×LI×LI×LI×LI×NL):=
 D4 (f80_j2 a n g) fun z2=>
 F5 z2 (fun a6=>
 Ey (0≤n∧n<a.length)<|
 bif (((rd (Ty.z T6) a n).1)==1) then
 some ((0:Int),[],[],[],[],a)
 else
 Ey (0≤((rd (Ty.z T6) a n).2).1∧((rd (Ty.z T6) a n).2).1<a.length)<|
 D4 (f80_j4 a n) fun y=>
 bif (((rd (Ty.z T6) a n).1)==2) then
 D4 (f123 (g.1,g.2) ((((((rd (Ty.z T6) a (((rd (Ty.z T6) a n).2).1)).2).2).2).2).1)) fun o=>
 D4 (f123 (g.1,g.2) y.1) fun i=>
 some ((0:Int),o.1,o.2,i.1,i.2,a)
 else
 bif (((rd (Ty.z T6) a n).1)==3) then
 D4 (f124 (g.1,g.2) (-4294967296:Int)) fun c=>
 D4 (f123 (g.1,g.2) ((((((rd (Ty.z T6) a (((rd (Ty.z T6) a n).2).1)).2).2).2).2).1)) fun w=>
 D4 (f123 (c.2.1,c.2.2) y.1) fun r=>
 some ((0:Int),w.1,w.2,r.1,r.2,a)
 else
 bif (((rd (Ty.z T6) a n).1)==4) then
 D4 (f81 (2:Int) (g.1,g.2) (y.1,y.2)) fun e=>
 D4 (f81 (2:Int) (g.1,g.2) ((((((rd (Ty.z T6) a (((rd (Ty.z T6) a n).2).1)).2).2).2).2).1,(((((rd (Ty.z T6) a (((rd (Ty.z T6) a n).2).1)).2).2).2).2).2)) fun r5=>
 D4 (f123 (e.2.1,e.2.2) ((((((rd (Ty.z T6) a (((rd (Ty.z T6) a n).2).1)).2).2).2).2).1)) fun q=>
 D4 (f123 (r5.2.1,r5.2.2) y.1) fun v=>
 some ((0:Int),q.1,q.2,v.1,v.2,a)
 else
 bif (((rd (Ty.z T6) a n).1)==5) then
 D4 (f124 (g.1,g.2) (((((rd (Ty.z T6) a n).2).2).2).1)) fun d=>
 some ((0:Int),d.2.1,d.2.2,[],[],a)
 else
 bif (((rd (Ty.z T6) a n).1)==6) then
 D4 (f125 (y.1,y.2)) fun u=>
 D4 (f125 ((((((rd (Ty.z T6) a (((rd (Ty.z T6) a n).2).1)).2).2).2).2).1,(((((rd (Ty.z T6) a (((rd (Ty.z T6) a n).2).1)).2).2).2).2).2)) fun r6=>
 D4 (f126 (g.1,g.2) (u.2.1,u.2.2)) fun r7=>
 D4 (f126 (r6.2.1,r6.2.2) (g.1,g.2)) fun r8=>
 some ((0:Int),r7.2.1,r7.2.2,r8.2.1,r8.2.2,a)
 else
 bif (((rd (Ty.z T6) a n).1)==7) then
 D4 (f125 (g.1,g.2)) fun h=>
 some ((0:Int),h.2.1,h.2.2,[],[],a)
 else
 bif (((rd (Ty.z T6) a n).1)==8) then
 D4 (f79 ((((((rd (Ty.z T6) a (((rd (Ty.z T6) a n).2).1)).2).2).2).2).1) (0:Int)) fun m=>
 D4 (Fp (fun go x=>f80_l5 a n g go x.1 x.2) Fq ((0:Int),m.2)) fun a3=>
 some ((0:Int),m.1,a3,[],[],a)
 else
 bif (((rd (Ty.z T6) a n).1)==9) then
 Ey (0≤(0:Int)∧0<(g.2.length:Int))<|
 D4 (f79 ((((((rd (Ty.z T6) a (((rd (Ty.z T6) a n).2).1)).2).2).2).2).1) (rd 0 g.2 0)) fun s=>
 some ((0:Int),s.1,s.2,[],[],a)
 else
 bif (((rd (Ty.z T6) a n).1)==10) then
 Ey (0≤(0:Int)∧0<(g.2.length:Int))<|
 D4 (f48 (rd 0 g.2 0)) fun t=>
 D4 (f130 t.1 t.2 (0:Int) (0:Int) (0:Int) (List.length ((((((rd (Ty.z T6) a (((rd (Ty.z T6) a n).2).1)).2).2).2).2).2):Int)) fun b=>
 D4 (f129 b.1 b.2.1 b.2.2.1 b.2.2.2.1 b.2.2.2.2) fun z=>
 D4 (f79 ((((((rd (Ty.z T6) a (((rd (Ty.z T6) a n).2).1)).2).2).2).2).1) z) fun p=>
 some ((0:Int),p.1,p.2,[],[],a)
 else
 bif (((rd (Ty.z T6) a n).1)==11) then
 D4 (f131 (((((rd (Ty.z T6) a n).2).2).2).1) ((((((rd (Ty.z T6) a (((rd (Ty.z T6) a n).2).1)).2).2).2).2).1,(((((rd (Ty.z T6) a (((rd (Ty.z T6) a n).2).1)).2).2).2).2).2) (g.1,g.2)) fun l=>
 some ((0:Int),l.2.1,l.2.2,[],[],a)
 else
 bif (((rd (Ty.z T6) a n).1)==12) then
 D4 (f80_j6 a n g y) fun a1=>
 D4 (f80_j7 a n g y) fun a0=>
 some ((0:Int),a1.1,a1.2,a0.1,a0.2,a)
 else
 bif (((rd (Ty.z T6) a n).1)==13) then
 D4 (f79 ((((((rd (Ty.z T6) a (((rd (Ty.z T6) a n).2).1)).2).2).2).2).1) (0:Int)) fun j=>
 D4 (f134 ((((((rd (Ty.z T6) a (((rd (Ty.z T6) a n).2).1)).2).2).2).2).1,(((((rd (Ty.z T6) a (((rd (Ty.z T6) a n).2).1)).2).2).2).2).2) (((((rd (Ty.z T6) a n).2).2).2).1)) fun a2=>
 D4 (Fp (fun go x=>f80_l8 g a2 go x.1 x.2) Fq ((0:Int),j.2)) fun a4=>
 some ((0:Int),j.1,a4,[],[],a)
 else
 D4 (f135 (g.1,g.2) ((((((rd (Ty.z T6) a (((rd (Ty.z T6) a n).2).1)).2).2).2).2).1)) fun k=>
 some ((0:Int),k.2.1,k.2.2,[],[],a)) (fun a5=>
 some ((1:Int),[],[],[],[],a))
instance H80 (b:NL) (n:Int) (g:Fz): HF 80 [P0 0 0,.dat T0 n,.dat T7 g] [(0,.cells [(.osl 1)]),(1,.arr 112 T6 b)] 2 (f80 b n g) (fun y=>[.raw true [(.osl 2),(.osl 3)],.raw true [(.osl 4),(.osl 5)],.dat T0 y.1]) (fun y=>[(0,.cells [(.osl 1)]),(1,.arr 112 T6 y.2.2.2.2.2),(2,.arr 3 T0 y.2.1),(3,.arr 35 T0 y.2.2.1),(4,.arr 3 T0 y.2.2.2.1),(5,.arr 35 T0 y.2.2.2.2.1)]) 6:=hd Tryz.f80 rfl fun y q=>by
 unfold f80 at q
 refine OL (OL (OL ?_))
 obtain ⟨z2,b0,q⟩:=bE q
 let e0:LE:=fun l=>(0,P0 0 0)::(1,.dat T0 n)::(5,P0 2 0)::(6,P0 3 0)::(7,P0 4 0)::(9,P0 5 0)::l
 let h1:LH:=fun l=>(0,.cells [(.osl 1)])::(1,.arr 112 T6 b)::l
 let h2:LH:=fun l=>h1 ((2,.cells [(.d T4 g.1),(.d T4 g.2)])::(3,.cells [N0,N0])::(4,.cells [N0,N0])::l)
 let h3:LH:=fun l=>h2 ((5,.cells [N0,N0])::l)
 let h4:LH:=fun l=>h1 ((2,.cells [N0,N0])::(3,.cells [N0,N0])::l)
 refine OQ ⟨Sum.elim (fun b6=>[(0,⟨e0 [],h3 [],6⟩)]) (fun b4=>[(1,⟨[(6,P0 2 0),(7,P0 3 0),(8,D0 1)],h4 [],4⟩)]) z2,?_,?_⟩
 ·have q:=b0
  clear b0
  unfold f80_j2 at q
  obtain ⟨z3,b5,q⟩:=bE q
  refine OQ ⟨[(0,⟨e0 [(84,.dat .bool z3)],h3 [],6⟩)],?_,?_⟩
  ·have q:=b5
   unfold f80_j3 at q
   exact gV
  exact gV
 rcases z2 with b6 | b4
 ·dsimp only [F5] at q
  refine AI (OL (gI q (fun q=>?_))) TV
  refine OL (OL (OL (cI q (fun q=>?_) (fun q=>?_))))
  ·exact gV
  refine OL (EI (tU 0 9 (.alt 9 (.alt 10 .done .done) .done)) (EI [] (EI [] (AI rfl (gI q (fun q=>?_))))))
  refine AI TV (AI TV (OL (OL (OL ?_))))
  obtain ⟨z4,b1,q⟩:=bE q
  let e5:LE:=fun l=>(5,P0 2 0)::(6,P0 3 0)::(7,P0 4 0)::l
  refine OQ ⟨[(0,⟨e5 [(9,P0 5 0),(10,P0 6 0),(11,P0 7 0),(12,P0 8 0)],h3 [(6,.cells [(.d T0 ((rd (Ty.z T6) b n).1)),(.d T0 (((rd (Ty.z T6) b n).2).1)),(.d T0 ((((rd (Ty.z T6) b n).2).2).1)),(.d T0 (((((rd (Ty.z T6) b n).2).2).2).1)),(.d T4 ((((((rd (Ty.z T6) b n).2).2).2).2).1)),(.d T4 ((((((rd (Ty.z T6) b n).2).2).2).2).2))]),(7,.cells [(.d T4 ((((((rd (Ty.z T6) b (((rd (Ty.z T6) b n).2).1)).2).2).2).2).1)),(.d T4 ((((((rd (Ty.z T6) b (((rd (Ty.z T6) b n).2).1)).2).2).2).2).2))]),(8,.cells [(.d T4 z4.1),(.d T4 z4.2)])],9⟩)],?_,?_⟩
  ·have q:=b1
   clear b1
   unfold f80_j4 at q
   refine OL (cI q (fun q=>?_) (fun q=>?_))
   ·exact gV
   have hz:=sE q
   subst hz
   refine EI [] (EI [] (EI [(8,0,T0),(8,1,T0)] (EI [] (EI I9 (AI rfl (AI (R7 TV) (R9 TV)))))))
  refine AI (OL (OL (OL (cI q (fun q=>?_) (fun q=>?_))))) TV
  ·exact gV
  refine OL (cI q (fun q=>?_) (fun q=>?_))
  ·exact gV
  refine OL (cI q (fun q=>?_) (fun q=>?_))
  ·exact gV
  refine OL (cI q (fun q=>?_) (fun q=>?_))
  ·exact gV
  refine OL (cI q (fun q=>?_) (fun q=>?_))
  ·exact gV
  refine OL (cI q (fun q=>?_) (fun q=>?_))
  ·exact gV
  refine OL (cI q (fun q=>?_) (fun q=>?_))
  ·refine OL ?_
   obtain ⟨k,h,q⟩:=bE q
   refine cL h gW ?_
   refine R3 (AI (lQ rfl) (R2 (AI TV (AI TV (OL (OL (OL (OL ?_))))))))
   obtain ⟨b7,h,q⟩:=bE q
   refine lJ h (fun x=>⟨e5 [(9,P0 5 0),(11,P0 6 0),(31,P0 7 0),(32,.dat T0 (((((rd (Ty.z T6) b n).2).2).2).1)),(33,.dat T0 x.1)],h3 [(6,.cells [(.d T4 ((((((rd (Ty.z T6) b (((rd (Ty.z T6) b n).2).1)).2).2).2).2).1)),(.d T4 ((((((rd (Ty.z T6) b (((rd (Ty.z T6) b n).2).1)).2).2).2).2).2))]),(7,.cells [(.osl 8),(.osl 9)]),(8,.arr 3 T0 k.1),(9,.arr 35 T0 x.2)],10⟩) (fun z=>[(3,⟨[(6,P0 2 0),(7,P0 3 0),(9,P0 4 0),(31,P0 5 0)],h4 [(4,.cells [N0,N0]),(5,.cells [(.osl 6),(.osl 7)]),(6,.arr 3 T0 k.1),(7,.arr 35 T0 z)],8⟩)]) gV (fun m=>F3 (fun i=>fun l9 z q=>?_)) ?_
   ·have q:f80_l5 b n g _ i l9=some z:=q
    unfold f80_l5 at q
    refine OL (OL (cI q (fun q=>?_) (fun q=>?_)))
    ·refine OL (OL ?_)
     obtain ⟨b9,h,q⟩:=bE q
     refine cL h gW ?_
     refine R3 (AI (lQ rfl) (R2 (AI TV (AI TV (OL (EI (tU 1 3 (tU 5 4 (.alt 0 (.alt 4 (.alt 9 (.take 10 .done) .done) .done) .done))) (EI [] (EI [10] (AI rfl ?_)))))))))
     exact gV
    exact gV
   exact gV
  refine OL (cI q (fun q=>?_) (fun q=>?_))
  ·exact gV
  refine OL (cI q (fun q=>?_) (fun q=>?_))
  ·exact gV
  refine OL (cI q (fun q=>?_) (fun q=>?_))
  ·exact gV
  refine OL (cI q (fun q=>?_) (fun q=>?_))
  ·obtain ⟨o,s,q⟩:=bE q
   refine OQ ⟨[(0,⟨e5 [(10,P0 5 0),(11,P0 6 0),(12,P0 7 0),(42,P0 8 0)],h2 [(5,.cells [(.d T0 ((rd (Ty.z T6) b n).1)),(.d T0 (((rd (Ty.z T6) b n).2).1)),(.d T0 ((((rd (Ty.z T6) b n).2).2).1)),(.d T0 (((((rd (Ty.z T6) b n).2).2).2).1)),(.d T4 ((((((rd (Ty.z T6) b n).2).2).2).2).1)),(.d T4 ((((((rd (Ty.z T6) b n).2).2).2).2).2))]),(6,.cells [(.d T4 ((((((rd (Ty.z T6) b (((rd (Ty.z T6) b n).2).1)).2).2).2).2).1)),(.d T4 ((((((rd (Ty.z T6) b (((rd (Ty.z T6) b n).2).1)).2).2).2).2).2))]),(7,.cells [(.d T4 z4.1),(.d T4 z4.2)]),(8,.cells [(.osl 9),(.osl 10)]),(9,.arr 3 T0 o.1),(10,.arr 35 T0 o.2)],11⟩)],?_,?_⟩
   ·have q:=s
    clear s
    unfold f80_j6 at q
    obtain ⟨t,q⟩:=gE q
    obtain ⟨b3,c,q⟩:=bE q
    refine EI (tU 0 8 (.alt 8 (tU 9 3 (.alt 12 (.alt 13 (.take 14 .done) .done) .done)) (.alt 12 (.alt 8 (tU 9 3 (.alt 13 (.take 14 .done) .done)) .done) .done))) (EI [] (EI [] (AI rfl (AI t (AI (AI TV ?_) ?_)))))
    ·refine AI TV (cL c gW ?_)
     refine R7 (AI (lQ rfl) (R2 (AI TV (AI TV ?_))))
     exact gV
    refine cL c gW ?_
    refine R7 (AI (lQ rfl) (R2 (AI TV (AI TV ?_))))
    exact gV
   refine AI ?_ TV
   obtain ⟨v,p,q⟩:=bE q
   refine OQ ⟨[(0,⟨[(6,P0 2 0),(7,P0 3 0),(42,P0 4 0),(44,P0 5 0)],h4 [(4,.cells [(.osl 6),(.osl 7)]),(5,.cells [(.osl 8),(.osl 9)]),(6,.arr 3 T0 o.1),(7,.arr 35 T0 o.2),(8,.arr 3 T0 v.1),(9,.arr 35 T0 v.2)],10⟩)],?_,?_⟩
   ·have q:=p
    clear p
    unfold f80_j7 at q
    obtain ⟨u,q⟩:=gE q
    obtain ⟨b2,d,q⟩:=bE q
    refine EI (tU 0 8 (.alt 8 (tU 9 3 (.alt 12 (.alt 13 (.take 14 .done) .done) .done)) (.alt 12 (.alt 8 (tU 9 3 (.alt 13 (.take 14 .done) .done)) .done) .done))) (EI [] (EI [] (AI rfl (AI u (AI (AI TV ?_) ?_)))))
    ·refine AI TV (cL d gW ?_)
     refine R7 (AI (lQ rfl) (R2 (AI TV (AI TV ?_))))
     exact gV
    refine cL d gW ?_
    refine R7 (AI (lQ rfl) (R2 (AI TV (AI TV ?_))))
    exact gV
   exact gV
  refine OL (cI q (fun q=>?_) (fun q=>?_))
  ·refine OL ?_
   obtain ⟨j,h,q⟩:=bE q
   refine cL h gW ?_
   refine R3 (AI (lQ rfl) (R2 (AI TV (AI TV (OL (OL ?_))))))
   obtain ⟨w,h,q⟩:=bE q
   refine cL h gW ?_
   refine R4 (AI (lQ rfl) (R2 (AI TV (AI TV (OL (OL (OL ?_)))))))
   obtain ⟨b8,h,q⟩:=bE q
   refine lJ h (fun x=>⟨e5 [(9,P0 5 0),(46,P0 6 0),(48,O0 7),(50,.dat T0 x.1)],h3 [(6,.cells [(.osl 8),(.osl 9)]),(7,.arr 3 T0 w.2.2.2),(8,.arr 3 T0 j.1),(9,.arr 35 T0 x.2)],10⟩) (fun z=>[(5,⟨[(6,P0 2 0),(7,P0 3 0),(9,P0 4 0),(46,P0 5 0)],h4 [(4,.cells [N0,N0]),(5,.cells [(.osl 6),(.osl 7)]),(6,.arr 3 T0 j.1),(7,.arr 35 T0 z)],8⟩)]) gV (fun m=>F3 (fun i=>fun l9 z q=>?_)) ?_
   ·have q:f80_l8 g w _ i l9=some z:=q
    unfold f80_l8 at q
    exact gV
   exact gV
  exact gV
 exact gV
def f42_j1 (b:NL) (a:Int):Option (Sum Unit Unit):=
 bif (decide (a<0)) then
 some (Sum.inr ())
 else
 bif (decide (a≥b.length)) then
 some (Sum.inr ())
 else
 some (Sum.inl ())
def f42_l2 (a:NL) (b:Int) (j:(Int×LTz1×Jn)→Option (LTz1×Jn)) (i:Int) (c:LTz1) (e:Int) (g d:LI):Option (LTz1×Jn):=
 bif (decide (i≤b)) then
 Ey (0≤i∧i<a.length)<|
 D4 (f79 ((((((rd (Ty.z T6) a i).2).2).2).2).1) (0:Int)) fun h=>
 Ey (0≤i∧i<c.length)<|
 j ((i64.wrap (i+1)),(List.set c (Int.toNat e) (g,d)),i,h.1,h.2)
 else
 some (c,e,g,d)
def f42_j6 (i:Int) (a:List Bool) (b:NL):Option (Sum Unit Unit):=
 Ey (0≤i∧i<a.length)<|
 bif (!(rd false a i)) then
 some (Sum.inr ())
 else
 bif (((rd (Ty.z T6) b i).1)==1) then
 some (Sum.inr ())
 else
 some (Sum.inl ())
def f42_l5 (h:(Int×LTz1×(List Bool)×NL)→Option (LTz1×NL)) (i:Int) (d:LTz1) (g:List Bool) (c:NL):Option (LTz1×NL):=
 bif (decide (i≥0)) then
 Ey (0≤i∧i<c.length)<|
 D4 (f42_j6 i g c) fun j=>
 F5 j (fun k=>
 Ey (0≤i∧i<d.length)<|
 D4 (f80 c i ((rd (Ty.z T7) d i).1,(rd (Ty.z T7) d i).2)) fun b=>
 Ey (0≤((rd (Ty.z T6) c i).2).1∧((rd (Ty.z T6) c i).2).1<d.length)<|
 D4 (f81 (0:Int) ((rd (Ty.z T7) d (((rd (Ty.z T6) c i).2).1)).1,(rd (Ty.z T7) d (((rd (Ty.z T6) c i).2).1)).2) (b.2.1,b.2.2.1)) fun a=>
 Ey (0≤((rd (Ty.z T6) c i).2).1∧((rd (Ty.z T6) c i).2).1<d.length)<|
 Ey (0≤((rd (Ty.z T6) c i).2).1∧((rd (Ty.z T6) c i).2).1<g.length)<|
 bif (decide (((((rd (Ty.z T6) c i).2).2).1)≥0)) then
 Ey (0≤(((rd (Ty.z T6) c i).2).2).1∧(((rd (Ty.z T6) c i).2).2).1<(List.length (List.set d (Int.toNat (((rd (Ty.z T6) c i).2).1)) (a.2.1,a.2.2)):Int))<|
 D4 (f81 (0:Int) ((rd (Ty.z T7) (List.set d (Int.toNat (((rd (Ty.z T6) c i).2).1)) (a.2.1,a.2.2)) ((((rd (Ty.z T6) c i).2).2).1)).1,(rd (Ty.z T7) (List.set d (Int.toNat (((rd (Ty.z T6) c i).2).1)) (a.2.1,a.2.2)) ((((rd (Ty.z T6) c i).2).2).1)).2) (b.2.2.2.1,b.2.2.2.2.1)) fun e=>
 Ey (0≤(((rd (Ty.z T6) c i).2).2).1∧(((rd (Ty.z T6) c i).2).2).1<(List.length (List.set d (Int.toNat (((rd (Ty.z T6) c i).2).1)) (a.2.1,a.2.2)):Int))<|
 Ey (0≤(((rd (Ty.z T6) c i).2).2).1∧(((rd (Ty.z T6) c i).2).2).1<(List.length (List.set g (Int.toNat (((rd (Ty.z T6) c i).2).1)) true):Int))<|
 h ((i64.wrap (i-1)),(List.set (List.set d (Int.toNat (((rd (Ty.z T6) c i).2).1)) (a.2.1,a.2.2)) (Int.toNat ((((rd (Ty.z T6) c i).2).2).1)) (e.2.1,e.2.2)),(List.set (List.set g (Int.toNat (((rd (Ty.z T6) c i).2).1)) true) (Int.toNat ((((rd (Ty.z T6) c i).2).2).1)) true),b.2.2.2.2.2)
 else
 h ((i64.wrap (i-1)),(List.set d (Int.toNat (((rd (Ty.z T6) c i).2).1)) (a.2.1,a.2.2)),(List.set g (Int.toNat (((rd (Ty.z T6) c i).2).1)) true),b.2.2.2.2.2)) (fun l=>
 h ((i64.wrap (i-1)),d,g,c))
 else
 some (d,c)
def f42 (b:NL) (a:Int):Option (Int×LTz1×NL):=
 D4 (f42_j1 b a) fun i=>
 F5 i (fun h=>
 Ey (0≤a∧a<b.length)<|
 bif ((List.length ((((((rd (Ty.z T6) b a).2).2).2).2).2):Int) != 1) then
 some ((4:Int),[],b)
 else
 Ey (0≤(i64.wrap (a+1))∧(i64.wrap (a+1))≤(i64.wrap (a+1))∧Int.toNat (i64.wrap (a+1))*48≤140737488355328)<|
 Ey (0≤(i64.wrap (a+1))∧(i64.wrap (a+1))≤(i64.wrap (a+1))∧Int.toNat (i64.wrap (a+1))*1≤140737488355328)<|
 D4 (Fp (fun e x=>f42_l2 b a e x.1 x.2.1 x.2.2.1 x.2.2.2.1 x.2.2.2.2) Fq ((0:Int),(List.replicate (Int.toNat (i64.wrap (a+1))) (Ty.z T7)),(List.length (List.replicate (Int.toNat (i64.wrap (a+1))) (Ty.z T7)):Int),[],[])) fun c=>
 Ey (0≤a∧a<c.1.length)<|
 Ey (a=c.2.1)<|
 Ey (0≤(0:Int)∧0<(c.2.2.2.length:Int))<|
 Ey (0≤a∧a<(List.length (List.replicate (Int.toNat (i64.wrap (a+1))) false):Int))<|
 D4 (Fp (fun e x=>f42_l5 e x.1 x.2.1 x.2.2.1 x.2.2.2) Fq (a,(List.set c.1 (Int.toNat c.2.1) (c.2.2.1,(List.set c.2.2.2 (Int.toNat (0:Int)) (4294967296:Int)))),(List.set (List.replicate (Int.toNat (i64.wrap (a+1))) false) (Int.toNat a) true),b)) fun d=>
 some ((0:Int),d.1,d.2)) (fun g=>
 some ((1:Int),[],b))
instance H42 (c:NL) (b:Int): HF 42 [P0 0 0,.dat T0 b] [(0,.cells [(.osl 1)]),(1,.arr 112 T6 c)] 2 (f42 c b) (fun y=>[O0 2,.dat T0 y.1]) (fun y=>[(0,.cells [(.osl 1)]),(1,.arr 112 T6 y.2.2),(2,.arr 101 T7 y.2.1)]) 3:=hd Tryz.f42 rfl fun y q=>by
 unfold f42 at q
 refine OL ?_
 obtain ⟨z1,b0,q⟩:=bE q
 let u:LH:=fun k=>(0,.cells [(.osl 1)])::k
 let t:LH:=fun k=>u ((1,.arr 112 T6 c)::k)
 refine OQ ⟨Sum.elim (fun w=>[(0,⟨[(0,P0 0 0),(1,.dat T0 b)],t [],2⟩)]) (fun v=>[(1,⟨[(4,.raw false [N0]),(5,D0 1)],t [],2⟩)]) z1,?_,?_⟩
 ·have q:=b0
  unfold f42_j1 at q
  exact gV
 rcases z1 with w | v
 ·dsimp only [F5] at q
  refine AI (OL (OL (gI q (fun q=>?_)))) TV
  refine cI q (fun q=>?_) (fun q=>?_)
  ·exact gV
  refine OL (gI q (fun q=>?_))
  refine OL (gI q (fun q=>?_))
  refine OL (OL ?_)
  obtain ⟨z5,h,q⟩:=bE q
  refine lJ h (fun x=>⟨[(0,P0 0 0),(1,.dat T0 b),(6,O0 2),(7,O0 3),(8,.dat T0 x.1)],t [(2,.hol 101 T7 x.2.1 x.2.2.1 [(.osl 4),(.osl 5)]),(3,.arr 4 .bool (List.replicate (Int.toNat (i64.wrap (b+1))) false)),(4,.arr 3 T0 x.2.2.2.1),(5,.arr 35 T0 x.2.2.2.2)],6⟩) (fun z=>[(2,⟨[(0,P0 0 0),(1,.dat T0 b),(6,O0 2),(7,O0 3)],t [(2,.hol 101 T7 z.1 z.2.1 [(.osl 4),(.osl 5)]),(3,.arr 4 .bool (List.replicate (Int.toNat (i64.wrap (b+1))) false)),(4,.arr 3 T0 z.2.2.1),(5,.arr 35 T0 z.2.2.2)],6⟩)]) (EI [] (EI [(2,(List.length (List.replicate (Int.toNat (i64.wrap (b+1))) (Ty.z T7)):Int),[N0,N0])] (AI (Nat.le_refl _) (EI [] (EI [] (EI (iuR [1,2,3,4,0,0]) (R3 (AI (R3 TV) (R6 TV))))))))) (fun m=>F3 (fun i=>F3 (fun p=>F3 (fun i2=>F3 (fun l4=>fun l5 z q=>?_))))) ?_
  ·have q:f42_l2 c b _ i p i2 l4 l5=some z:=q
   unfold f42_l2 at q
   refine OL (OL (cI q (fun q=>?_) (fun q=>?_)))
   ·refine OL (gI q (fun q=>?_))
    obtain ⟨r6,h,q⟩:=bE q
    refine cL h gW ?_
    refine R3 (AI (lQ rfl) (R2 (AI TV (AI TV (gI q (fun q=>?_))))))
    refine OQ ?_
    exact gV
   exact gV
  refine AI (OL (gI q (fun q=>?_))) TV
  refine gI q (fun q=>?_)
  refine gI q (fun q=>?_)
  refine OL (OL (gI q (fun q=>?_)))
  refine OL (OL (OL ?_))
  obtain ⟨b2,h,q⟩:=bE q
  refine lJ h (fun x=>⟨[(0,P0 0 0),(6,O0 2),(7,O0 3),(9,.dat T0 x.1)],u [(1,.arr 112 T6 x.2.2.2),(2,.arr 101 T7 x.2.1),(3,.arr 4 .bool x.2.2.1)],4⟩) (fun z=>[(4,⟨[(6,O0 2)],u [(1,.arr 112 T6 z.2),(2,.arr 101 T7 z.1)],3⟩)]) (EI [2] (AI rfl (EI [] (EI [] (EI [] (EI I4 (R2 (AI (R3 TV) (R4 TV))))))))) (fun m=>F3 (fun i=>F3 (fun p=>F3 (fun l3=>fun d z q=>?_)))) ?_
  ·have q:f42_l5 _ i p l3 d=some z:=q
   unfold f42_l5 at q
   refine OL (OL (cI q (fun q=>?_) (fun q=>?_)))
   ·refine OL (OL (gI q (fun q=>?_)))
    refine OL ?_
    obtain ⟨o,n,q⟩:=bE q
    let h2:LH:=fun k=>u ((1,.arr 112 T6 d)::(2,.arr 101 T7 p)::(3,.arr 4 .bool l3)::k)
    refine OQ ⟨Sum.elim (fun j=>[(0,⟨[(0,P0 0 0),(6,O0 2),(7,O0 3),(9,.dat T0 i),(10,P0 4 0)],h2 [(4,.cells [(.d T0 ((rd (Ty.z T6) d i).1)),(.d T0 (((rd (Ty.z T6) d i).2).1)),(.d T0 ((((rd (Ty.z T6) d i).2).2).1)),(.d T0 (((((rd (Ty.z T6) d i).2).2).2).1)),(.d T4 ((((((rd (Ty.z T6) d i).2).2).2).2).1)),(.d T4 ((((((rd (Ty.z T6) d i).2).2).2).2).2))])],5⟩)]) (fun l=>[(5,⟨[(0,P0 0 0),(6,O0 2),(7,O0 3),(9,.dat T0 i)],h2 [],4⟩)]) o,?_,?_⟩
    ·have q:=n
     unfold f42_j6 at q
     exact gV
    rcases o with j | l
    ·dsimp only [F5] at q
     refine AI (OL (gI q (fun q=>?_))) TV
     obtain ⟨s,h,q⟩:=bE q
     refine cL h gW ?_
     refine R4 (AI (lQ rfl) (R2 (AJ (AI (R2 TV) (OL (OL (OL (EI (tU 0 9 (.alt 9 (tU 10 4 (.alt 14 .done .done)) .done)) (EI [(14,[2])] (EI [] (AI rfl (gI q (fun q=>?_)))))))))))))
     refine AI TV ?_
     obtain ⟨b1,h,q⟩:=bE q
     refine cL h gW ?_
     refine R6 (AI (lQ rfl) (R2 (AI TV (AI TV (gI q (fun q=>?_))))))
     refine AI TV (OL (OL (gI q (fun q=>?_))))
     refine OL (OL (cI q (fun q=>?_) (fun q=>?_)))
     ·refine OL (EI (tU 0 9 (.alt 9 (tU 10 4 (.alt 14 .done .done)) .done)) (EI [(14,[2])] (EI [] (AI rfl ?_))))
      exact gV
     exact gV
    exact gV
   exact gV
  exact gV
 exact gV
def f12_j3 (a:Int):Option Bool:=
 bif (decide (a<1)) then
 some true
 else
 some (decide (a>3))
def f12_j2 (a:Int):Option (Sum Unit Unit):=
 D4 (f12_j3 a) fun b=>
 bif b then
 some (Sum.inr ())
 else
 some (Sum.inl ())
def f12_l4 (a:Int×Int×LI×NL) (c:Int×LTz1×NL) (d:Jy→Option LI) (i:Int) (b:LI):Option LI:=
 bif (decide (i<a.2.2.1.length)) then
 Ey (0≤i∧i<a.2.2.1.length)<|
 Ey (0≤(rd 0 a.2.2.1 i)∧(rd 0 a.2.2.1 i)<c.2.1.length)<|
 Ey ((b.length+List.length ((rd (Ty.z T7) c.2.1 (rd 0 a.2.2.1 i)).2))*8≤140737488355328)<|
 d ((i64.wrap (i+1)),(b++((rd (Ty.z T7) c.2.1 (rd 0 a.2.2.1 i)).2)))
 else
 some b
def f12 (n:Js) (c:Int) (k:LI) (e:PTz12):Option (Int×Jy):=
 D4 (f12_j2 c) fun l=>
 F5 l (fun g=>
 D4 (f40 ([]) (n.1,n.2) k e.1) fun a=>
 bif (a.2.1 != 0) then
 some ((0:Int),a.2.1,[])
 else
 D4 (f41 a.2.2.2 c a.1 e.2.1 e.2.2) fun b=>
 bif (b.2.1 != 0) then
 some ((0:Int),b.2.1,[])
 else
 D4 (f42 b.2.2 b.1) fun d=>
 bif (d.1 != 0) then
 some ((0:Int),d.1,[])
 else
 D4 (Fp (fun j x=>f12_l4 a d j x.1 x.2) Fq ((0:Int),[])) fun h=>
 Ey (0≤b.1∧b.1<d.2.2.length)<|
 Ey (0≤(0:Int)∧(0:Int)<(List.length ((((((rd (Ty.z T6) d.2.2 b.1).2).2).2).2).2):Int))<|
 some ((rd 0 ((((((rd (Ty.z T6) d.2.2 b.1).2).2).2).2).2) (0:Int)),(0:Int),h)) (fun i=>
 some ((0:Int),(1:Int),[]))
instance H12 (n:Js) (c:Int) (l:LI) (j:PTz12): HF 12 [.dat T2 n,.dat T0 c,.dat T4 l,.dat T10 j] [] 0 (f12 n c l j) (fun y=>[O0 0,.dat T0 y.1,.dat T0 y.2.1]) (fun y=>[(0,.arr 35 T0 y.2.2)]) 1:=hd Tryz.f12 rfl fun y q=>by
 unfold f12 at q
 refine OL ?_
 obtain ⟨u,d,q⟩:=bE q
 let v:LH:=fun zz=>(0,.cells [(.d T4 n.1),(.d T3 n.2)])::(1,.cells [(.d T4 j.1),(.d T4 j.2.1),(.d T0 j.2.2)])::zz
 refine OQ ⟨Sum.elim (fun p=>[(0,⟨[(1,.dat T0 c),(2,.dat T4 l),(4,P0 0 0),(7,P0 1 0)],v [],2⟩)]) (fun s=>[(1,⟨[(8,.raw false [N0]),(9,D0 0),(10,D0 1)],[],0⟩)]) u,?_,?_⟩
 ·have q:=d
  clear d
  unfold f12_j2 at q
  obtain ⟨z3,o,q⟩:=bE q
  refine OQ ⟨[(0,⟨[(1,.dat T0 c),(2,.dat T4 l),(4,P0 0 0),(7,P0 1 0),(24,.dat .bool z3)],v [],2⟩)],?_,?_⟩
  ·have q:=o
   unfold f12_j3 at q
   exact gV
  exact gV
 rcases u with p | s
 ·dsimp only [F5] at q
  refine AI (OL (OL ?_)) TV
  obtain ⟨b,h,q⟩:=bE q
  refine cLn h [(2,0,112,T6)] (iuR [3,4]) false (virtI rfl rfl (virt0 ?_))
  refine R5 (AI NH (R2 (AJ (AI (R2 TV) (OL (OL (cI q (fun q=>?_) (fun q=>?_))))))))
  ·exact gV
  refine OL ?_
  obtain ⟨t,h,q⟩:=bE q
  refine cL h gW ?_
  refine R5 (AI (lQ rfl) (R2 (AJ (AI (R2 TV) (OL (OL (cI q (fun q=>?_) (fun q=>?_))))))))
  ·exact gV
  refine OL ?_
  obtain ⟨k,h,q⟩:=bE q
  refine cL h gW ?_
  refine R2 (AI (lQ rfl) (R2 (AJ (AI (R2 TV) (OL (OL (cI q (fun q=>?_) (fun q=>?_))))))))
  ·exact gV
  refine OL (OL (OL ?_))
  obtain ⟨z6,h,q⟩:=bE q
  refine lJ h (fun x=>⟨[(11,P0 0 0),(13,O0 1),(15,.dat T0 t.1),(16,O0 2),(17,O0 3),(18,.dat T0 x.1)],[(0,.cells [(.osl 4)]),(1,.arr 3 T0 b.2.2.1),(2,.arr 101 T7 k.2.1),(3,.arr 35 T0 x.2),(4,.arr 112 T6 k.2.2)],5⟩) (fun z=>[(2,⟨[(11,P0 0 0),(15,.dat T0 t.1),(17,O0 1)],[(0,.cells [(.osl 2)]),(1,.arr 35 T0 z),(2,.arr 112 T6 k.2.2)],3⟩)]) gV (fun m=>F3 (fun i=>fun w z q=>?_)) ?_
  ·have q:f12_l4 b k _ i w=some z:=q
   unfold f12_l4 at q
   exact gV
  exact gV
 exact gV
end Go.Proofs
