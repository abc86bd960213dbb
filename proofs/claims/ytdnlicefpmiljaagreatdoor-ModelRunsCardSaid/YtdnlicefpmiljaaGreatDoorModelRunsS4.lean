import Derived.Test.YtdnlicefpmiljaaGreatDoorModelRunsS3
set_option linter.unusedVariables false
set_option maxRecDepth 100000
set_option maxHeartbeats 8000000
namespace Go.Proofs
open Go.AM
open IntKind (i64 u64 i32 u32 i16 u16 i8 u8)
def f15_j54 (n:Jd) (great:Bool) (i r74:Int):Option Bool:=
 bif great then
 some true
 else
 some (decide ((i64.wrap ((((rd (Ty.z T3) n.2 i).2).1)*r74))>4096))
def f15_j57 (n:Jd) (i:Int) (l1:List LI):Option Bool:=
 bif ((List.length (rd (Ty.z T6) l1 (i64.wrap ((l1.length:Int)-1))):Int) != 2) then
 some true
 else
 E9 (0≤(1:Int)∧(1:Int)<(List.length (rd (Ty.z T6) l1 (i64.wrap ((l1.length:Int)-1))):Int))<|
 some (decide ((((rd (Ty.z T3) n.2 i).2).2)>(rd 0 (rd (Ty.z T6) l1 (i64.wrap ((l1.length:Int)-1))) (1:Int))))
def f15_j56 (n:Jd) (i:Int) (l1:List LI):Option (Sum Unit Unit):=
 Ey (f15_j57 n i l1) fun z78=>
 bif z78 then
 some (Sum.inr ())
 else
 some (Sum.inl ())
def f15_j58 (n:Jd) (great:Bool) (i:Int) (l1:List LI):Option Bool:=
 bif great then
 some true
 else
 E9 (0≤(0:Int)∧(0:Int)<(List.length (rd (Ty.z T6) l1 (i64.wrap ((l1.length:Int)-1))):Int))<|
 some (decide ((i64.wrap ((i64.wrap ((((rd (Ty.z T3) n.2 i).2).1)*(rd 0 (rd (Ty.z T6) l1 (i64.wrap ((l1.length:Int)-1))) (0:Int))))*(((rd (Ty.z T3) n.2 i).2).2)))>4096))
def f15_j61 (n:Jd) (i:Int) (l1:List LI):Option Bool:=
 bif ((List.length (rd (Ty.z T6) l1 (i64.wrap ((l1.length:Int)-1))):Int) != 2) then
 some true
 else
 E9 (0≤(1:Int)∧(1:Int)<(List.length (rd (Ty.z T6) l1 (i64.wrap ((l1.length:Int)-1))):Int))<|
 some (decide ((((rd (Ty.z T3) n.2 i).2).1)>(rd 0 (rd (Ty.z T6) l1 (i64.wrap ((l1.length:Int)-1))) (1:Int))))
def f15_j60 (n:Jd) (i:Int) (l1:List LI):Option (Sum Unit Unit):=
 Ey (f15_j61 n i l1) fun z82=>
 bif z82 then
 some (Sum.inr ())
 else
 some (Sum.inl ())
def f15_j62 (n:Jd) (i:Int) (l1:List LI):Option Bool:=
 bif (i==0) then
 some true
 else
 E9 (0≤(i64.wrap (i-1))∧(i64.wrap (i-1))<n.2.length)<|
 bif (ByteArray.toList ((rd (Ty.z T3) n.2 (i64.wrap (i-1))).1)==ByteArray.toList (ByteArray.mk #[115,107,105,112])) then
 some true
 else
 E9 (0≤(i64.wrap ((l1.length:Int)-2))∧(i64.wrap ((l1.length:Int)-2))<l1.length)<|
 Ey (f13 (rd (Ty.z T6) l1 (i64.wrap ((l1.length:Int)-2))) (rd (Ty.z T6) l1 (i64.wrap ((l1.length:Int)-1)))) fun r85=>
 some (!r85)
def f15_j53 (n:Jd) (all:Int) (great:Bool) (i:Int) (l1:List LI):Option (Sum (Int×Bool×LI) Unit):=
 bif (ByteArray.toList ((rd (Ty.z T3) n.2 i).1)==ByteArray.toList (ByteArray.mk #[100,101,110,115,101])) then
 Ey (f40 (rd (Ty.z T6) l1 (i64.wrap ((l1.length:Int)-1)))) fun r74=>
 Ey (f15_j54 n great i r74) fun z75=>
 some (Sum.inl ((i64.wrap ((i64.wrap (all+(i64.wrap ((((rd (Ty.z T3) n.2 i).2).1)*r74))))+(((rd (Ty.z T3) n.2 i).2).1))),z75,[((rd (Ty.z T3) n.2 i).2).1]))
 else
 bif (ByteArray.toList ((rd (Ty.z T3) n.2 i).1)==ByteArray.toList (ByteArray.mk #[99,111,110,118])) then
 Ey (f15_j56 n i l1) fun z77=>
 Fx z77 (fun z77a=>
 Ey (f15_j58 n great i l1) fun z79=>
 E9 (0≤(0:Int)∧(0:Int)<(List.length (rd (Ty.z T6) l1 (i64.wrap ((l1.length:Int)-1))):Int))<|
 E9 (0≤(1:Int)∧(1:Int)<(List.length (rd (Ty.z T6) l1 (i64.wrap ((l1.length:Int)-1))):Int))<|
 some (Sum.inl ((i64.wrap (all+(i64.wrap ((i64.wrap ((((rd (Ty.z T3) n.2 i).2).1)*(rd 0 (rd (Ty.z T6) l1 (i64.wrap ((l1.length:Int)-1))) (0:Int))))*(((rd (Ty.z T3) n.2 i).2).2))))),z79,[((rd (Ty.z T3) n.2 i).2).1,(i64.wrap ((i64.wrap ((rd 0 (rd (Ty.z T6) l1 (i64.wrap ((l1.length:Int)-1))) (1:Int))-(((rd (Ty.z T3) n.2 i).2).2)))+1))]))) (fun z77b=>
 some (Sum.inr ()))
 else
 bif (ByteArray.toList ((rd (Ty.z T3) n.2 i).1)==ByteArray.toList (ByteArray.mk #[112,111,111,108])) then
 Ey (f15_j60 n i l1) fun z81=>
 Fx z81 (fun z81a=>
 E9 (0≤(0:Int)∧(0:Int)<(List.length (rd (Ty.z T6) l1 (i64.wrap ((l1.length:Int)-1))):Int))<|
 E9 (0≤(1:Int)∧(1:Int)<(List.length (rd (Ty.z T6) l1 (i64.wrap ((l1.length:Int)-1))):Int))<|
 E9 ((((rd (Ty.z T3) n.2 i).2).1)≠0)<|
 some (Sum.inl (all,great,[(rd 0 (rd (Ty.z T6) l1 (i64.wrap ((l1.length:Int)-1))) (0:Int)),(i64.wrap (Int.tdiv (rd 0 (rd (Ty.z T6) l1 (i64.wrap ((l1.length:Int)-1))) (1:Int)) (((rd (Ty.z T3) n.2 i).2).1)))]))) (fun z81b=>
 some (Sum.inr ()))
 else
 bif (ByteArray.toList ((rd (Ty.z T3) n.2 i).1)==ByteArray.toList (ByteArray.mk #[115,107,105,112])) then
 Ey (f15_j62 n i l1) fun z84=>
 bif z84 then
 some (Sum.inr ())
 else
 some (Sum.inl (all,great,(rd (Ty.z T6) l1 (i64.wrap ((l1.length:Int)-1)))))
 else
 some (Sum.inl (all,great,(rd (Ty.z T6) l1 (i64.wrap ((l1.length:Int)-1)))))
def f15_j63 (z73a:Int×Bool×LI):Option Bool:=
 bif z73a.2.1 then
 some true
 else
 Ey (f40 z73a.2.2) fun r88=>
 some (decide (r88>4096))
def f15_j64 (z73a:Int×Bool×LI) (z87:Bool):Option Ki:=
 bif (decide (z73a.1>4096)) then
 some ((4097:Int),true)
 else
 some (z73a.1,z87)
def f15_l43 (n:Jd) (go:(Int×Bool×PTz10)→Option (Sum Unit (Int×Bool×(List LI)))) (all:Int) (great:Bool) (i:Int) (l1:List LI):Option (Sum Unit (Int×Bool×(List LI))):=
 bif (decide (i<n.2.length)) then
 E9 (0≤(i64.wrap ((l1.length:Int)-1))∧(i64.wrap ((l1.length:Int)-1))<l1.length)<|
 E9 (0≤i∧i<n.2.length)<|
 Ey (f15_j53 n all great i l1) fun z73=>
 Fx z73 (fun z73a=>
 Ey (f15_j63 z73a) fun z87=>
 Ey (f15_j64 z73a z87) fun z89=>
 E9 ((List.length ([]:LI)+z73a.2.2.length)*8≤140737488355328)<|
 E9 ((l1.length+List.length ([(([]:LI)++z73a.2.2)]))*24≤140737488355328)<|
 go (z89.1,z89.2,(i64.wrap (i+1)),(l1++([(([]:LI)++z73a.2.2)])))) (fun z73b=>
 some (Sum.inl ()))
 else
 some (Sum.inr (all,great,l1))
def f15_j67 (n:Jd) (z60b:Int×Bool×(List LI)):Option Bool:=
 bif z60b.2.1 then
 some true
 else
 Ey (f40 n.1) fun r96=>
 some (decide (r96>4096))
def f15_j66 (n:Jd) (z60b:Int×Bool×(List LI)):Option (Sum Unit Unit):=
 Ey (f15_j67 n z60b) fun z95=>
 bif z95 then
 some (Sum.inr ())
 else
 some (Sum.inl ())
def f15 (n:Jd):Option (Int×PTz10):=
 Ey (f39 (n.1,n.2)) fun r1=>
 bif (!r1) then
 some ((0:Int),(1:Int),[])
 else
 E9 ((List.length ([]:LI)+n.1.length)*8≤140737488355328)<|
 Ey (Fq (fun go x=>f15_l43 n go x.1 x.2.1 x.2.2.1 x.2.2.2) Fv ((0:Int),(decide ((n.2.length:Int)>16)),(0:Int),[(([]:LI)++n.1)])) fun z60=>
 Fx z60 (fun z60a=>
 some ((0:Int),(4:Int),[])) (fun z60b=>
 Ey (f15_j66 n z60b) fun z93=>
 Fx z93 (fun z93a=>
 some (z60b.1,(0:Int),z60b.2.2)) (fun z93b=>
 some ((0:Int),(2:Int),[])))
def C15:Con:=⟨Jd,Int×PTz10,0,fun x=>[.dat T4 x],NX,fun x=>f15 x,fun y=>[O0 0,.dat T1 y.1,.dat T1 y.2.1],fun y=>[(0,.arr 23 T6 y.2.2)],1⟩
theorem V15 n y (q:f15 n=some y):VC Tryz.f15 C15 n y:=by
 unfold f15 at q
 refine OL (OL (OL ?_))
 obtain ⟨r1,h,q⟩:=bE q
 refine OL (cA H39 (n.1,n.2) h rfl (R2 (K0 (cI q (fun q=>?_) (fun q=>?_)))))
 ·cases sE q
  refine OL (AI rfl (E4 (iuR [0]) (R3 (AJ (AI rfl TV)))))
 refine OL (OL (OL (gI q (fun q=>?_))))
 refine OL (OL (EI (tU 0 6 .done) (EI [] (EI [] (AI rfl (OL (OL ?_)))))))
 obtain ⟨z60,hz60,q⟩:=bE q
 let e0:LE:=fun zz=>(1,P0 0 0)::(5,O0 1)::zz
 let h1:LH:=fun zz=>(0,.cells [(.d T6 n.1),(.d T5 n.2)])::zz
 let e2:LE:=fun zz=>(2,.raw false [N0])::(3,D0 0)::zz
 refine lJ hz60 (fun x=>⟨e0 [(6,.dat T1 x.1),(7,.dat .bool x.2.1),(8,.dat T1 x.2.2.1)],h1 [(1,.arr 23 T6 x.2.2.2)],2⟩) (fun z=>Sum.elim (fun za=>[(1,⟨e2 [(4,D0 4)],[],0⟩)]) (fun zb=>[(2,⟨e0 [(6,.dat T1 zb.1),(7,.dat .bool zb.2.1)],h1 [(1,.arr 23 T6 zb.2.2)],2⟩)]) z) (E4 (iuR [1,4]) (R4 (AI (R2 TV) (R2 TV)))) (fun m=>F3 (fun all=>F3 (fun great=>F3 (fun i=>fun l1 z q=>?_)))) ?_
 ·have q:f15_l43 n _ all great i l1=some z:=q
  unfold f15_l43 at q
  refine OL (OL (cI q (fun q=>?_) (fun q=>?_)))
  ·refine OL (OL (gI q (fun q=>?_)))
   refine OL (gI q (fun q=>?_))
   refine OL ?_
   obtain ⟨z73,hz73,q⟩:=bE q
   let h3:LH:=fun zz=>h1 ((1,.arr 23 T6 l1)::zz)
   refine OQ ⟨Sum.elim (fun z73a=>[(0,⟨e0 [(6,.dat T1 z73a.1),(7,.dat .bool z73a.2.1),(8,.dat T1 i),(9,.dat T6 z73a.2.2)],h3 [],2⟩)]) (fun z73b=>[(1,⟨e2 [(4,D0 4)],[],0⟩)]) z73,?_,?_⟩
   ·have q:=hz73
    clear hz73
    unfold f15_j53 at q
    refine OL (OL (cI q (fun q=>?_) (fun q=>?_)))
    ·refine OL ?_
     obtain ⟨r74,h,q⟩:=bE q
     refine OL (cA H40 (rd (Ty.z T6) l1 (i64.wrap ((l1.length:Int)-1))) h rfl (AI rfl (K0 ?_)))
     obtain ⟨z75,hz75,q⟩:=bE q
     refine OQ ⟨[(0,⟨e0 [(6,.dat T1 all),(7,.dat .bool z75),(8,.dat T1 i),(10,P0 2 0),(11,.dat T1 r74)],h3 [(2,.cells [(.d .str ((rd (Ty.z T3) n.2 i).1)),(.d T1 (((rd (Ty.z T3) n.2 i).2).1)),(.d T1 (((rd (Ty.z T3) n.2 i).2).2))])],3⟩)],?_,?_⟩
     ·have q:=hz75
      clear hz75
      unfold f15_j54 at q
      refine cN q (fun q=>?_) (fun q=>?_)
      ·refine gY (gY (gY (gY (cF ?_))))
       cases sE q
       refine E4 I3 (R5 (AI (R3 TV) (R3 TV)))
      refine gN (gN (gN (gN (cT ?_))))
      cases sE q
      refine E4 I3 (R5 (AI (R3 TV) (R3 TV)))
     refine AI (OL (OL ?_)) TV
     cases sE q
     refine E4 I2 (R5 (AI (R2 TV) (R2 TV)))
    refine OL (cI q (fun q=>?_) (fun q=>?_))
    ·obtain ⟨z77,hz77,q⟩:=bE q
     let e4:LE:=fun zz=>e0 ((6,.dat T1 all)::(7,.dat .bool great)::(8,.dat T1 i)::(9,.dat T6 (rd (Ty.z T6) l1 (i64.wrap ((l1.length:Int)-1))))::(10,P0 2 0)::zz)
     let h5:LH:=fun zz=>h3 ((2,.cells [(.d .str ((rd (Ty.z T3) n.2 i).1)),(.d T1 (((rd (Ty.z T3) n.2 i).2).1)),(.d T1 (((rd (Ty.z T3) n.2 i).2).2))])::zz)
     refine OQ ⟨Sum.elim (fun z77a=>[(0,⟨e4 [],h5 [],3⟩)]) (fun z77b=>[(1,⟨e2 [(4,D0 4)],[],0⟩)]) z77,?_,?_⟩
     ·have q:=hz77
      clear hz77
      unfold f15_j56 at q
      obtain ⟨z78,hz78,q⟩:=bE q
      refine OQ ⟨[(0,⟨e4 [(80,.dat .bool z78)],h5 [],3⟩)],?_,?_⟩
      ·have q:=hz78
       clear hz78
       unfold f15_j57 at q
       refine EI (tU 0 11 .done) (EI [] (EI [] (AI rfl (cN q (fun q=>?_) (fun q=>?_)))))
       ·refine gY (gY (gY (gI q (fun q=>?_))))
        refine gY (gY (cF ?_))
        cases sE q
        refine E4 I3 (R6 (AI (R3 TV) (R3 TV)))
       refine gN (gN (gN (gN (gN (cT ?_)))))
       cases sE q
       refine E4 I3 (R6 (AI (R3 TV) (R3 TV)))
      refine AI (cI q (fun q=>?_) (fun q=>?_)) TV
      ·cases sE q
       refine OL (E4 [] (R3 (AJ TV)))
      cases sE q
      refine E4 I3 (R5 (AI (R3 TV) (R3 TV)))
     rcases z77 with z77a | z77b
     ·dsimp only [Fx] at q
      refine AI ?_ TV
      obtain ⟨z79,hz79,q⟩:=bE q
      refine OQ ⟨[(0,⟨e0 [(6,.dat T1 all),(7,.dat .bool z79),(8,.dat T1 i),(9,.dat T6 (rd (Ty.z T6) l1 (i64.wrap ((l1.length:Int)-1)))),(10,P0 2 0)],h5 [],3⟩)],?_,?_⟩
      ·have q:=hz79
       clear hz79
       unfold f15_j58 at q
       refine EI (tU 0 14 .done) (EI [] (EI [] (AI rfl (cN q (fun q=>?_) (fun q=>?_)))))
       ·refine gY (gY (gY (gI q (fun q=>?_))))
        refine gY (gY (gY (gY (gY (gY (cF ?_))))))
        cases sE q
        refine E4 I3 (R5 (AI (R3 TV) (R3 TV)))
       refine gN (gN (gN (gN (gN (gN (gN (gN (gN (cT ?_)))))))))
       cases sE q
       refine E4 I3 (R5 (AI (R3 TV) (R3 TV)))
      refine AI (OL (EI (tU 0 12 .done) (EI [] (EI [] (AI rfl (gI q (fun q=>?_))))))) TV
      refine EI (tU 0 9 (.alt 9 (.take 10 .done) .done)) (EI [] (EI [] (AI rfl (gI q (fun q=>?_)))))
      refine AI TV (OL ?_)
      cases sE q
      refine E4 I2 (R5 (AI (R2 TV) (R2 TV)))
     dsimp only [Fx] at q
     refine AI ?_ TV
     cases sE q
     refine E4 [] (R3 (AJ TV))
    refine OL (cI q (fun q=>?_) (fun q=>?_))
    ·obtain ⟨z81,hz81,q⟩:=bE q
     let e6:LE:=fun zz=>e0 ((6,.dat T1 all)::(7,.dat .bool great)::(8,.dat T1 i)::(9,.dat T6 (rd (Ty.z T6) l1 (i64.wrap ((l1.length:Int)-1))))::(10,P0 2 0)::zz)
     let h7:LH:=fun zz=>h3 ((2,.cells [(.d .str ((rd (Ty.z T3) n.2 i).1)),(.d T1 (((rd (Ty.z T3) n.2 i).2).1)),(.d T1 (((rd (Ty.z T3) n.2 i).2).2))])::zz)
     refine OQ ⟨Sum.elim (fun z81a=>[(0,⟨e6 [],h7 [],3⟩)]) (fun z81b=>[(1,⟨e2 [(4,D0 4)],[],0⟩)]) z81,?_,?_⟩
     ·have q:=hz81
      clear hz81
      unfold f15_j60 at q
      obtain ⟨z82,hz82,q⟩:=bE q
      refine OQ ⟨[(0,⟨e6 [(127,.dat .bool z82)],h7 [],3⟩)],?_,?_⟩
      ·have q:=hz82
       clear hz82
       unfold f15_j61 at q
       refine EI (tU 0 11 .done) (EI [] (EI [] (AI rfl (cN q (fun q=>?_) (fun q=>?_)))))
       ·refine gY (gY (gY (gI q (fun q=>?_))))
        refine gY (gY (cF ?_))
        cases sE q
        refine E4 I3 (R6 (AI (R3 TV) (R3 TV)))
       refine gN (gN (gN (gN (gN (cT ?_)))))
       cases sE q
       refine E4 I3 (R6 (AI (R3 TV) (R3 TV)))
      refine AI (cI q (fun q=>?_) (fun q=>?_)) TV
      ·cases sE q
       refine OL (E4 [] (R3 (AJ TV)))
      cases sE q
      refine E4 I3 (R5 (AI (R3 TV) (R3 TV)))
     rcases z81 with z81a | z81b
     ·dsimp only [Fx] at q
      refine AI (EI (tU 0 9 (.alt 9 (.take 10 .done) .done)) (EI [] (EI [] (AI rfl (gI q (fun q=>?_)))))) TV
      refine gI q (fun q=>?_)
      refine gI q (fun q=>?_)
      refine AI TV (OL ?_)
      cases sE q
      refine E4 I2 (R5 (AI (R2 TV) (R2 TV)))
     dsimp only [Fx] at q
     refine AI ?_ TV
     cases sE q
     refine E4 [] (R3 (AJ TV))
    refine OL (cI q (fun q=>?_) (fun q=>?_))
    ·obtain ⟨z84,hz84,q⟩:=bE q
     refine OQ ⟨[(0,⟨e0 [(6,.dat T1 all),(7,.dat .bool great),(8,.dat T1 i),(9,.dat T6 (rd (Ty.z T6) l1 (i64.wrap ((l1.length:Int)-1)))),(162,.dat .bool z84)],h3 [],2⟩)],?_,?_⟩
     ·have q:=hz84
      clear hz84
      unfold f15_j62 at q
      refine cN q (fun q=>?_) (fun q=>?_)
      ·refine gY (gY (gY (gY (gI q (fun q=>?_)))))
       refine gY (gY (gY (cF (cN q (fun q=>?_) (fun q=>?_)))))
       ·refine gY (gY (gY (gY (gI q (fun q=>?_)))))
        refine gY (gY (gY ?_))
        obtain ⟨r85,h,q⟩:=bE q
        refine OL (cA H13 ((rd (Ty.z T6) l1 (i64.wrap ((l1.length:Int)-2))),(rd (Ty.z T6) l1 (i64.wrap ((l1.length:Int)-1)))) h rfl (R2 (K0 (gY (cF ?_)))))
        cases sE q
        refine E4 I2 (R6 (AI (R2 TV) (R2 TV)))
       refine gN (gN (gN (gN (gN (gN (gN (gN (cT ?_))))))))
       cases sE q
       refine E4 I2 (R6 (AI (R2 TV) (R2 TV)))
      refine gN (gN (gN (gN (gN (gN (gN (cT (gN (gN (gN (gN (gN (gN (gN (gN (gN (cT ?_)))))))))))))))))
      cases sE q
      refine E4 I2 (R6 (AI (R2 TV) (R2 TV)))
     refine AI (cI q (fun q=>?_) (fun q=>?_)) TV
     ·cases sE q
      refine OL (E4 [] (R3 (AJ TV)))
     cases sE q
     refine E4 I2 (R5 (AI (R2 TV) (R2 TV)))
    cases sE q
    refine E4 I2 (R5 (AI (R2 TV) (R2 TV)))
   rcases z73 with z73a | z73b
   ·dsimp only [Fx] at q
    refine AI ?_ TV
    obtain ⟨z87,hz87,q⟩:=bE q
    refine OQ ⟨[(0,⟨e0 [(6,.dat T1 z73a.1),(7,.dat .bool z87),(8,.dat T1 i),(9,.dat T6 z73a.2.2)],h3 [],2⟩)],?_,?_⟩
    ·have q:=hz87
     clear hz87
     unfold f15_j63 at q
     refine cN q (fun q=>?_) (fun q=>?_)
     ·refine gY ?_
      obtain ⟨r88,h,q⟩:=bE q
      refine OL (cA H40 z73a.2.2 h rfl (AI rfl (K0 (gY (cF ?_)))))
      cases sE q
      refine E4 I2 (R5 (AI (R2 TV) (R2 TV)))
     refine gN (gN (cT ?_))
     cases sE q
     refine E4 I2 (R5 (AI (R2 TV) (R2 TV)))
    refine AI ?_ TV
    obtain ⟨z89,hz89,q⟩:=bE q
    refine OQ ⟨[(0,⟨e0 [(6,.dat T1 z89.1),(7,.dat .bool z89.2),(8,.dat T1 i),(9,.dat T6 z73a.2.2)],h3 [],2⟩)],?_,?_⟩
    ·have q:=hz89
     clear hz89
     unfold f15_j64 at q
     refine OL (cI q (fun q=>?_) (fun q=>?_))
     ·cases sE q
      refine OL (E4 I2 (R5 (AI (R2 TV) (R2 TV))))
     cases sE q
     refine E4 I2 (R5 (AI (R2 TV) (R2 TV)))
    refine AI (OL (OL (gI q (fun q=>?_)))) TV
    refine OL (OL (gI q (fun q=>?_)))
    refine EI (z89.1,z89.2,(i64.wrap (i+1)),(l1++([(([]:LI)++z73a.2.2)]))) (AI q (E4 (iuR [1,6]) (R4 (AI (R2 TV) (R2 TV)))))
   dsimp only [Fx] at q
   refine AI ?_ TV
   cases sE q
   refine E4 [] (R3 (AJ TV))
  cases sE q
  refine E4 I2 (R3 (AI (R2 TV) (R2 TV)))
 rcases z60 with z60a | z60b
 ·dsimp only [Fx] at q
  refine AI ?_ TV
  cases sE q
  refine AI rfl (E4 (iuR [0]) (R3 (AJ (AI rfl TV))))
 dsimp only [Fx] at q
 refine AI ?_ TV
 obtain ⟨z93,hz93,q⟩:=bE q
 refine OQ ⟨Sum.elim (fun z93a=>[(0,⟨[(5,O0 0),(6,.dat T1 z60b.1)],[(0,.arr 23 T6 z60b.2.2)],1⟩)]) (fun z93b=>[(1,⟨e2 [(4,D0 2)],[],0⟩)]) z93,?_,?_⟩
 ·have q:=hz93
  clear hz93
  unfold f15_j66 at q
  obtain ⟨z95,hz95,q⟩:=bE q
  refine OQ ⟨[(0,⟨[(5,O0 0),(6,.dat T1 z60b.1),(183,.dat .bool z95)],[(0,.arr 23 T6 z60b.2.2)],1⟩)],?_,?_⟩
  ·have q:=hz95
   clear hz95
   unfold f15_j67 at q
   refine cN q (fun q=>?_) (fun q=>?_)
   ·refine gY (gY ?_)
    obtain ⟨r96,h,q⟩:=bE q
    refine OL (cA H40 n.1 h rfl (AI rfl (K0 (gY (cF ?_)))))
    cases sE q
    refine E4 (iuR [2]) (R3 (AJ (AI rfl TV)))
   refine gN (gN (gN (cT ?_)))
   cases sE q
   refine E4 (iuR [2]) (R3 (AJ (AI rfl TV)))
  refine AI (cI q (fun q=>?_) (fun q=>?_)) TV
  ·cases sE q
   refine OL (E4 [] (R3 (AJ TV)))
  cases sE q
  refine E4 (iuR [1]) (R2 (AJ (AI rfl TV)))
 rcases z93 with z93a | z93b
 ·dsimp only [Fx] at q
  refine AI (OL ?_) TV
  cases sE q
  refine AI rfl (E4 (iuR [1]) (R3 (AJ (AI rfl TV))))
 dsimp only [Fx] at q
 refine AI ?_ TV
 cases sE q
 refine AI rfl (E4 (iuR [0]) (R3 (AJ (AI rfl TV))))
theorem H15:HI C15 15:=hI Tryz.f15 rfl fun x=>V15 x
def f18_j4 (d:LI) (n i:Int):Option (Sum Unit Unit):=
 bif (decide (i<d.length)) then
 bif (decide (n<100000)) then
 some (Sum.inl ())
 else
 some (Sum.inr ())
 else
 some (Sum.inr ())
def f18_l3 (d:LI) (go:F9→Option Int) (n i:Int):Option Int:=
 Ey (f18_j4 d n i) fun z4=>
 Fx z4 (fun z4a=>
 E9 (0≤i∧i<d.length)<|
 go ((i64.wrap (n*(rd 0 d i))),(i64.wrap (i+1)))) (fun z4b=>
 some n)
def f18 (d:LI):Option Int:=
 Ey (Fq (fun go x=>f18_l3 d go x.1 x.2) Fv ((1:Int),(0:Int))) fun z3=>
 some z3
def C18:Con:=⟨LI,Int,0,fun x=>[.dat T6 x],NX,fun x=>f18 x,fun y=>[.dat T1 y],NX,0⟩
theorem V18 d y (q:f18 d=some y):VC Tryz.f18 C18 d y:=by
 unfold f18 at q
 refine OL (OL (OL (OL ?_)))
 obtain ⟨z3,h,q⟩:=bE q
 refine lJ h (fun x=>⟨[(0,.dat T6 d),(3,.dat T1 x.1),(4,.dat T1 x.2)],[],0⟩) (fun z=>[(2,⟨[(3,.dat T1 z)],[],0⟩)]) (E4 [] (R4 (AI TV TV))) (fun m=>F3 (fun n=>fun i z q=>?_)) ?_
 ·have q:f18_l3 d _ n i=some z:=q
  unfold f18_l3 at q
  obtain ⟨z4,hz4,q⟩:=bE q
  refine OQ ⟨Sum.elim (fun z4a=>[(0,⟨[(0,.dat T6 d),(3,.dat T1 n),(4,.dat T1 i)],[],0⟩)]) (fun z4b=>[(2,⟨[(3,.dat T1 n)],[],0⟩)]) z4,?_,?_⟩
  ·have q:=hz4
   clear hz4
   unfold f18_j4 at q
   refine OL (cI q (fun q=>?_) (fun q=>?_))
   ·refine gX (cT (cI q (fun q=>?_) (fun q=>?_)))
    ·cases sE q
     refine E4 [] (R4 (AI TV TV))
    cases sE q
    refine E4 [] (R2 (AI TV TV))
   refine gM (cF (cF ?_))
   cases sE q
   refine E4 [] (R2 (AI TV TV))
  rcases z4 with z4a | z4b
  ·dsimp only [Fx] at q
   refine AI (OL (gI q (fun q=>?_))) TV
   refine EI ((i64.wrap (n*(rd 0 d i))),(i64.wrap (i+1))) (AI q (E4 [] (R4 (AI TV TV))))
  dsimp only [Fx] at q
  refine AI ?_ TV
  cases sE q
  refine E4 [] (R2 (AI TV TV))
 refine AI (OL ?_) TV
 cases sE q
 refine AI rfl (E4 [] (R2 (AI TV TV)))
theorem H18:HI C18 18:=hI Tryz.f18 rfl fun x=>V18 x
def f19_j4 (l:LI) (n i:Int):Option (Sum Unit Unit):=
 bif (decide (i<n)) then
 bif (decide ((l.length:Int)>0)) then
 some (Sum.inl ())
 else
 some (Sum.inr ())
 else
 some (Sum.inr ())
def f19_l3 (l:LI) (n:Int) (go:K4→Option LI) (i:Int) (l0:LI):Option LI:=
 Ey (f19_j4 l n i) fun z4=>
 Fx z4 (fun z4a=>
 E9 ((l.length:Int)≠0)<|
 E9 (0≤(Int.tmod i (l.length:Int))∧(Int.tmod i (l.length:Int))<l.length)<|
 E9 (0≤i∧i<l0.length)<|
 go ((i64.wrap (i+1)),(List.set l0 (Int.toNat i) (rd 0 l (Int.tmod i (l.length:Int)))))) (fun z4b=>
 some l0)
def f19 (l:LI) (n:Int):Option LI:=
 E9 (0≤n∧n≤n∧Int.toNat n*8≤140737488355328)<|
 Ey (Fq (fun go x=>f19_l3 l n go x.1 x.2) Fv ((0:Int),(List.replicate (Int.toNat n) (0:Int)))) fun z3=>
 some z3
def C19:Con:=⟨LI×Int,LI,0,fun x=>[.dat T6 x.1,.dat T1 x.2],NX,fun x=>f19 x.1 x.2,fun y=>[O0 0],fun y=>[(0,.arr 57 T1 y)],1⟩
theorem V19 l n y (q:f19 l n=some y):VC Tryz.f19 C19 (l,n) y:=by
 unfold f19 at q
 refine OL (OL (gI q (fun q=>?_)))
 refine OL (OL ?_)
 obtain ⟨z3,h,q⟩:=bE q
 refine lJ h (fun x=>⟨[(0,.dat T6 l),(1,.dat T1 n),(5,O0 0),(6,.dat T1 x.1)],[(0,.arr 57 T1 x.2)],1⟩) (fun z=>[(2,⟨[(5,O0 0)],[(0,.arr 57 T1 z)],1⟩)]) (E4 (iuR [1]) (R4 (AJ (AI rfl TV)))) (fun m=>F3 (fun i=>fun l0 z q=>?_)) ?_
 ·have q:f19_l3 l n _ i l0=some z:=q
  unfold f19_l3 at q
  obtain ⟨z4,hz4,q⟩:=bE q
  refine OQ ⟨Sum.elim (fun z4a=>[(0,⟨[(0,.dat T6 l),(1,.dat T1 n),(5,O0 0),(6,.dat T1 i)],[(0,.arr 57 T1 l0)],1⟩)]) (fun z4b=>[(2,⟨[(5,O0 0)],[(0,.arr 57 T1 l0)],1⟩)]) z4,?_,?_⟩
  ·have q:=hz4
   clear hz4
   unfold f19_j4 at q
   refine OL (cI q (fun q=>?_) (fun q=>?_))
   ·refine gX (gX (cT (cI q (fun q=>?_) (fun q=>?_))))
    ·cases sE q
     refine E4 (iuR [1]) (R4 (AJ (AI rfl TV)))
    cases sE q
    refine E4 (iuR [1]) (AI rfl (AJ (AI rfl TV)))
   refine gM (gM (cF (cF ?_)))
   cases sE q
   refine E4 (iuR [1]) (AI rfl (AJ (AI rfl TV)))
  rcases z4 with z4a | z4b
  ·dsimp only [Fx] at q
   refine AI (OL (gI q (fun q=>?_))) TV
   refine gI q (fun q=>?_)
   refine gI q (fun q=>?_)
   refine OL (EI ((i64.wrap (i+1)),(List.set l0 (Int.toNat i) (rd 0 l (Int.tmod i (l.length:Int))))) (AI q (E4 (iuR [1]) (R4 (AJ (AI rfl TV))))))
  dsimp only [Fx] at q
  refine AI ?_ TV
  cases sE q
  refine E4 (iuR [1]) (AI rfl (AJ (AI rfl TV)))
 refine AI (OL ?_) TV
 cases sE q
 refine AI rfl (E4 (iuR [1]) (AI rfl (AJ (AI rfl TV))))
theorem H19:HI C19 19:=hI Tryz.f19 rfl fun x=>V19 x.1 x.2
def f76_j4 (d:LI) (i:Int):Option (Sum Unit Unit):=
 E9 (0≤i∧i<d.length)<|
 bif (decide ((rd 0 d i)<1)) then
 some (Sum.inr ())
 else
 E9 (0≤i∧i<d.length)<|
 bif (decide ((rd 0 d i)>4096)) then
 some (Sum.inr ())
 else
 some (Sum.inl ())
def f76_l3 (d:LI) (go:F9→Option (Sum Unit Unit)) (n i:Int):Option (Sum Unit Unit):=
 bif (decide (i<d.length)) then
 Ey (f76_j4 d i) fun z4=>
 Fx z4 (fun z4a=>
 E9 (0≤i∧i<d.length)<|
 bif (decide ((i64.wrap (n*(rd 0 d i)))>4096)) then
 some (Sum.inl ())
 else
 go ((i64.wrap (n*(rd 0 d i))),(i64.wrap (i+1)))) (fun z4b=>
 some (Sum.inl ()))
 else
 some (Sum.inr ())
def f76 (d:LI):Option Bool:=
 bif (decide ((d.length:Int)>4)) then
 some false
 else
 Ey (Fq (fun go x=>f76_l3 d go x.1 x.2) Fv ((1:Int),(0:Int))) fun z3=>
 Fx z3 (fun z3a=>
 some false) (fun z3b=>
 some true)
def C76:Con:=⟨LI,Bool,0,fun x=>[.dat T6 x],NX,fun x=>f76 x,fun y=>[.dat .bool y],NX,0⟩
theorem V76 d y (q:f76 d=some y):VC Tryz.f76 C76 d y:=by
 unfold f76 at q
 refine OL (OL (OL (cI q (fun q=>?_) (fun q=>?_))))
 ·cases sE q
  refine OL (AI rfl (E4 [] (R2 (AI TV TV))))
 refine OL (OL (OL ?_))
 obtain ⟨z3,h,q⟩:=bE q
 refine lJ h (fun x=>⟨[(0,.dat T6 d),(3,.dat T1 x.1),(4,.dat T1 x.2)],[],0⟩) (fun z=>Sum.elim (fun za=>[(1,⟨[(2,.dat .bool false)],[],0⟩)]) (fun zb=>[(2,⟨[],[],0⟩)]) z) (E4 [] (R4 (AI TV TV))) (fun m=>F3 (fun n=>fun i z q=>?_)) ?_
 ·have q:f76_l3 d _ n i=some z:=q
  unfold f76_l3 at q
  refine OL (OL (cI q (fun q=>?_) (fun q=>?_)))
  ·refine OL ?_
   obtain ⟨z4,hz4,q⟩:=bE q
   refine OQ ⟨Sum.elim (fun z4a=>[(0,⟨[(0,.dat T6 d),(3,.dat T1 n),(4,.dat T1 i)],[],0⟩)]) (fun z4b=>[(1,⟨[(2,.dat .bool false)],[],0⟩)]) z4,?_,?_⟩
   ·have q:=hz4
    clear hz4
    unfold f76_j4 at q
    refine OL (gI q (fun q=>?_))
    refine cN q (fun q=>?_) (fun q=>?_)
    ·refine gY (gY (gI q (fun q=>?_)))
     refine gY (gY (cF (cI q (fun q=>?_) (fun q=>?_))))
     ·cases sE q
      refine OL (E4 [] (R2 (AI TV TV)))
     cases sE q
     refine E4 [] (R4 (AI TV TV))
    refine gN (gN (gN (gN (cT (cT (OL ?_))))))
    cases sE q
    refine E4 [] (R2 (AI TV TV))
   rcases z4 with z4a | z4b
   ·dsimp only [Fx] at q
    refine AI (OL (gI q (fun q=>?_))) TV
    refine OL (cI q (fun q=>?_) (fun q=>?_))
    ·cases sE q
     refine OL (E4 [] (R2 (AI TV TV)))
    refine EI ((i64.wrap (n*(rd 0 d i))),(i64.wrap (i+1))) (AI q (E4 [] (R4 (AI TV TV))))
   dsimp only [Fx] at q
   refine AI ?_ TV
   cases sE q
   refine E4 [] (R2 (AI TV TV))
  cases sE q
  refine E4 [] (AI rfl (AI TV TV))
 rcases z3 with z3a | z3b
 ·dsimp only [Fx] at q
  refine AI ?_ TV
  cases sE q
  refine AI rfl (E4 [] (R2 (AI TV TV)))
 dsimp only [Fx] at q
 refine AI (OL ?_) TV
 cases sE q
 refine AI rfl (E4 [] (R2 (AI TV TV)))
theorem H76:HI C76 76:=hI Tryz.f76 rfl fun x=>V76 x
def f50_l1 (d:LI) (go:F9→Option Int) (n i:Int):Option Int:=
 bif (decide (i<d.length)) then
 E9 (0≤i∧i<d.length)<|
 go ((i64.wrap (n*(rd 0 d i))),(i64.wrap (i+1)))
 else
 some n
def f50 (d:LI):Option Int:=
 Ey (f76 d) fun r1=>
 bif (!r1) then
 some (0:Int)
 else
 Ey (Fq (fun go x=>f50_l1 d go x.1 x.2) Fv ((1:Int),(0:Int))) fun z2=>
 some z2
def C50:Con:=⟨LI,Int,0,fun x=>[.dat T6 x],NX,fun x=>f50 x,fun y=>[.dat T1 y],NX,0⟩
theorem V50 d y (q:f50 d=some y):VC Tryz.f50 C50 d y:=by
 unfold f50 at q
 refine OL (OL (OL ?_))
 obtain ⟨r1,h,q⟩:=bE q
 refine OL (cA H76 d h rfl (AI rfl (K0 (cI q (fun q=>?_) (fun q=>?_)))))
 ·cases sE q
  refine OL (AI rfl (E4 [] (R2 (AI TV TV))))
 refine OL (OL (OL ?_))
 obtain ⟨z2,h,q⟩:=bE q
 refine lJ h (fun x=>⟨[(0,.dat T6 d),(3,.dat T1 x.1),(4,.dat T1 x.2)],[],0⟩) (fun z=>[(2,⟨[(3,.dat T1 z)],[],0⟩)]) (E4 [] (R4 (AI TV TV))) (fun m=>F3 (fun n=>fun i z q=>?_)) ?_
 ·have q:f50_l1 d _ n i=some z:=q
  unfold f50_l1 at q
  refine OL (OL (cI q (fun q=>?_) (fun q=>?_)))
  ·refine OL (gI q (fun q=>?_))
   refine EI ((i64.wrap (n*(rd 0 d i))),(i64.wrap (i+1))) (AI q (E4 [] (R4 (AI TV TV))))
  cases sE q
  refine E4 [] (R2 (AI TV TV))
 refine AI (OL ?_) TV
 cases sE q
 refine AI rfl (E4 [] (R2 (AI TV TV)))
theorem H50:HI C50 50:=hI Tryz.f50 rfl fun x=>V50 x
def f51 (t:Fy):Option Bool:=
 Ey (f76 t.1) fun q1_2=>
 bif q1_2 then
 Ey (f50 t.1) fun q1_9=>
 some ((t.2.length:Int)==q1_9)
 else
 some false
def C51:Con:=⟨Fy,Bool,0,fun x=>[.dat T9 x],NX,fun x=>f51 x,fun y=>[.dat .bool y],NX,0⟩
theorem V51 t y (q:f51 t=some y):VC Tryz.f51 C51 t y:=by
 unfold f51 at q
 refine OL (OL (EI (.take 0 (.take 1 (.alt 2 (tU 3 6 (.alt 9 (tU 10 3 .done) .done)) .done))) (EI [] (EI [] (AI rfl (AI TV ?_))))))
 obtain ⟨q1_2,h,q⟩:=bE q
 refine OL (cA H76 t.1 h rfl (AI rfl (K0 (cI q (fun q=>?_) (fun q=>?_)))))
 ·refine gX (gX (gX (gX (AI TV (gX ?_)))))
  obtain ⟨q1_9,h,q⟩:=bE q
  refine OL (cA H50 t.1 h rfl (AI rfl (K0 (gX (cT ?_)))))
  cases sE q
  refine AI rfl (E4 [] (R2 (AI TV TV)))
 refine gM (gM (gM (gM (AI TV (gM (gM (cF ?_)))))))
 cases sE q
 refine AI rfl (E4 [] (R2 (AI TV TV)))
theorem H51:HI C51 51:=hI Tryz.f51 rfl fun x=>V51 x
def f46_j1 (x_:Fy):Option Unit:=
 E9 ((List.length ([]:LI)+x_.1.length)*8≤140737488355328)<|
 E9 ((List.length ([]:LI)+x_.2.length)*8≤140737488355328)<|
 some ()
def f46 (t_L:NL) (x_:Fy):Option PTz8:=
 bif (decide ((t_L.length:Int)≥512)) then
 some ((0:Int),(2:Int),t_L)
 else
 Ey (f51 (x_.1,x_.2)) fun r1=>
 bif (!r1) then
 some ((0:Int),(1:Int),t_L)
 else
 Ey (f46_j1 x_) fun z2=>
 E9 ((t_L.length+List.length ([((1:Int),(-1:Int),(-1:Int),(0:Int),(([]:LI)++x_.1),(([]:LI)++x_.2))]))*80≤140737488355328)<|
 some ((i64.wrap ((List.length (t_L++([((1:Int),(-1:Int),(-1:Int),(0:Int),(([]:LI)++x_.1),(([]:LI)++x_.2))])):Int)-1)),(0:Int),(t_L++([((1:Int),(-1:Int),(-1:Int),(0:Int),(([]:LI)++x_.1),(([]:LI)++x_.2))])))
def C46:Con:=⟨NL×Fy,PTz8,2,fun x=>[P0 0 0,.dat T9 x.2],fun x=>[(0,.cells [(.osl 1)]),(1,.arr 64 T8 x.1)],fun x=>f46 x.1 x.2,fun y=>[.dat T1 y.1,.dat T1 y.2.1],fun y=>[(0,.cells [(.osl 2)]),(2,.arr 64 T8 y.2.2)],3⟩
theorem V46 t_L x_ y (q:f46 t_L x_=some y):VE Tryz.f46 2 C46 (t_L,x_) y:=by
 unfold f46 at q
 refine OL (OL (OL (cI q (fun q=>?_) (fun q=>?_))))
 ·cases sE q
  refine OL (AI rfl (E4 [(0,some 0),(2,some 1)] (R3 (AI TV (R2 TV)))))
 refine OL (OL ?_)
 obtain ⟨r1,h,q⟩:=bE q
 refine OL (cA H51 (x_.1,x_.2) h rfl (R2 (K0 (cI q (fun q=>?_) (fun q=>?_)))))
 ·cases sE q
  refine OL (AI rfl (E4 [(0,some 0),(2,some 1)] (R3 (AI TV (R2 TV)))))
 obtain ⟨z2,hz2,q⟩:=bE q
 refine OQ ⟨[(0,⟨[(0,P0 0 0),(6,P0 2 0)],[(0,.cells [(.osl 1)]),(1,.arr 64 T8 t_L),(2,.cells [(.osl 3),(.osl 4)]),(3,.arr 3 T1 (([]:LI)++x_.1)),(4,.arr 57 T1 (([]:LI)++x_.2))],5⟩)],?_,?_⟩
 ·have q:=hz2
  clear hz2
  unfold f46_j1 at q
  obtain ⟨g5_0,q⟩:=gE q
  obtain ⟨g5_1,q⟩:=gE q
  refine EI (.take 1 (.take 2 (.take 5 (.take 6 (.alt 0 (.alt 3 (.alt 4 (.alt 7 (.take 8 (.alt 9 (.alt 10 .done .done) .done)) (.alt 9 (.alt 7 (.take 8 (.alt 10 .done .done)) .done) .done)) (.alt 9 (.alt 4 (.alt 7 (.take 8 (.alt 10 .done .done)) .done) .done) .done)) (.alt 4 (.alt 3 (.alt 7 (.take 8 (.alt 9 (.alt 10 .done .done) .done)) (.alt 9 (.alt 7 (.take 8 (.alt 10 .done .done)) .done) .done)) (.alt 9 (.alt 3 (.alt 7 (.take 8 (.alt 10 .done .done)) .done) .done) .done)) (.alt 9 (.alt 3 (.alt 4 (.alt 7 (.take 8 (.alt 10 .done .done)) .done) .done) (.alt 4 (.alt 3 (.alt 7 (.take 8 (.alt 10 .done .done)) .done) .done) .done)) .done))) (.alt 4 (.alt 0 (.alt 3 (.alt 7 (.take 8 (.alt 9 (.alt 10 .done .done) .done)) (.alt 9 (.alt 7 (.take 8 (.alt 10 .done .done)) .done) .done)) (.alt 9 (.alt 3 (.alt 7 (.take 8 (.alt 10 .done .done)) .done) .done) .done)) (.alt 9 (.alt 0 (.alt 3 (.alt 7 (.take 8 (.alt 10 .done .done)) .done) .done) .done) .done)) (.alt 9 (.alt 0 (.alt 3 (.alt 4 (.alt 7 (.take 8 (.alt 10 .done .done)) .done) .done) (.alt 4 (.alt 3 (.alt 7 (.take 8 (.alt 10 .done .done)) .done) .done) .done)) (.alt 4 (.alt 0 (.alt 3 (.alt 7 (.take 8 (.alt 10 .done .done)) .done) .done) .done) .done)) .done))))))) (EI [] (EI [] (AI rfl ?_)))
  refine AI (AI (AI TV ?_) ?_) ?_
  ·refine AI (AI TV ?_) ?_
   ·refine OL (AI TV (OL (AI TV (OL (AI g5_0 (AI TV (OL (AI g5_1 (AI TV (OL ?_))))))))))
    cases sE q
    refine E4 (iuR [1,2,4,7,8]) (AI rfl (AI (R2 TV) (R5 TV)))
   refine OL (AI (AI TV ?_) ?_)
   ·refine OL (AI TV (OL (AI g5_0 (AI TV (OL (AI g5_1 (AI TV (OL ?_))))))))
    cases sE q
    refine E4 (iuR [1,2,4,7,8]) (AI rfl (AI (R2 TV) (R5 TV)))
   refine OL (AI g5_0 (AI TV (OL (AI TV (OL (AI g5_1 (AI TV (OL ?_))))))))
   cases sE q
   refine E4 (iuR [1,2,4,6,8]) (AI rfl (AI (R2 TV) (R5 TV)))
  ·refine OL (AI (AI TV ?_) ?_)
   ·refine AI TV (OL (AI TV (OL (AI g5_0 (AI TV (OL (AI g5_1 (AI TV (OL ?_)))))))))
    cases sE q
    refine E4 (iuR [1,2,5,7,8]) (AI rfl (AI (R2 TV) (R5 TV)))
   refine OL (AI (AI TV ?_) ?_)
   ·refine AI TV (OL (AI g5_0 (AI TV (OL (AI g5_1 (AI TV (OL ?_)))))))
    cases sE q
    refine E4 (iuR [1,2,6,7,8]) (AI rfl (AI (R2 TV) (R5 TV)))
   refine OL (AI g5_0 (AI (AI TV ?_) ?_))
   ·refine AI TV (OL (AI g5_1 (AI TV (OL ?_))))
    cases sE q
    refine E4 (iuR [1,2,7,6,8]) (AI rfl (AI (R2 TV) (R5 TV)))
   refine OL (AI g5_1 (AI TV (AI TV (OL ?_))))
   cases sE q
   refine E4 (iuR [1,2,8,6,7]) (AI rfl (AI (R2 TV) (R5 TV)))
  refine OL (AI (AI (AI TV ?_) ?_) ?_)
  ·refine AI (AI TV ?_) ?_
   ·refine OL (AI TV (OL (AI g5_0 (AI TV (OL (AI g5_1 (AI TV (OL ?_))))))))
    cases sE q
    refine E4 (iuR [1,2,5,7,8]) (AI rfl (AI (R2 TV) (R5 TV)))
   refine OL (AI g5_0 (AI TV (OL (AI TV (OL (AI g5_1 (AI TV (OL ?_))))))))
   cases sE q
   refine E4 (iuR [1,2,5,6,8]) (AI rfl (AI (R2 TV) (R5 TV)))
  ·refine OL (AI (AI TV ?_) ?_)
   ·refine AI TV (OL (AI g5_0 (AI TV (OL (AI g5_1 (AI TV (OL ?_)))))))
    cases sE q
    refine E4 (iuR [1,2,6,7,8]) (AI rfl (AI (R2 TV) (R5 TV)))
   refine OL (AI g5_0 (AI (AI TV ?_) ?_))
   ·refine AI TV (OL (AI g5_1 (AI TV (OL ?_))))
    cases sE q
    refine E4 (iuR [1,2,7,6,8]) (AI rfl (AI (R2 TV) (R5 TV)))
   refine OL (AI g5_1 (AI TV (AI TV (OL ?_))))
   cases sE q
   refine E4 (iuR [1,2,8,6,7]) (AI rfl (AI (R2 TV) (R5 TV)))
  refine OL (AI g5_0 (AI (AI TV ?_) ?_))
  ·refine AI TV (OL (AI TV (OL (AI g5_1 (AI TV (OL ?_))))))
   cases sE q
   refine E4 (iuR [1,2,6,5,8]) (AI rfl (AI (R2 TV) (R5 TV)))
  refine OL (AI (AI TV ?_) ?_)
  ·refine AI TV (OL (AI g5_1 (AI TV (OL ?_))))
   cases sE q
   refine E4 (iuR [1,2,7,5,8]) (AI rfl (AI (R2 TV) (R5 TV)))
  refine OL (AI g5_1 (AI TV (AI TV (OL ?_))))
  cases sE q
  refine E4 (iuR [1,2,8,5,7]) (AI rfl (AI (R2 TV) (R5 TV)))
 refine AI (OL (EI (tU 0 7 (.alt 7 (.alt 8 (.take 9 (.take 10 (.alt 11 .done .done))) .done) .done)) (EI [(11,[0])] (EI [] (AI rfl (AI TV (OL (AI TV (OL (gI q (fun q=>?_))))))))))) TV
 refine AI TV (OL (OL ?_))
 cases sE q
 refine AI rfl (E4 [(0,some 0),(2,some 6)] (R3 (AI TV (R2 TV))))
theorem H46:HI C46 46:=hI Tryz.f46 rfl fun x=>V46 x.1 x.2
def f72 (op:Int):Option Bool:=
 bif (op==2) then
 some true
 else
 bif (op==3) then
 some true
 else
 bif (op==4) then
 some true
 else
 bif (op==6) then
 some true
 else
 some (op==12)
def C72:Con:=⟨Int,Bool,0,fun x=>[.dat T1 x],NX,fun x=>f72 x,fun y=>[.dat .bool y],NX,0⟩
theorem V72 op y (q:f72 op=some y):VC Tryz.f72 C72 op y:=by
 unfold f72 at q
 refine OL (OL (cN q (fun q=>?_) (fun q=>?_)))
 ·refine gY (cF (cN q (fun q=>?_) (fun q=>?_)))
  ·refine gY (cF (cN q (fun q=>?_) (fun q=>?_)))
   ·refine gY (cF (cN q (fun q=>?_) (fun q=>?_)))
    ·refine gY (cF ?_)
     cases sE q
     refine AI rfl (E4 [] (R2 (AI TV TV)))
    refine gN (cT ?_)
    cases sE q
    refine AI rfl (E4 [] (R2 (AI TV TV)))
   refine gN (cT (gN (gN (cT ?_))))
   cases sE q
   refine AI rfl (E4 [] (R2 (AI TV TV)))
  refine gN (cT (gN (gN (cT (gN (gN (cT ?_)))))))
  cases sE q
  refine AI rfl (E4 [] (R2 (AI TV TV)))
 refine gN (cT (gN (gN (cT (gN (gN (cT (gN (gN (cT ?_))))))))))
 cases sE q
 refine AI rfl (E4 [] (R2 (AI TV TV)))
theorem H72:HI C72 72:=hI Tryz.f72 rfl fun x=>V72 x
def f73 (op:Int):Option Bool:=
 bif (op==5) then
 some true
 else
 bif (op==8) then
 some true
 else
 bif (op==11) then
 some true
 else
 bif (op==12) then
 some true
 else
 some (op==13)
def C73:Con:=⟨Int,Bool,0,fun x=>[.dat T1 x],NX,fun x=>f73 x,fun y=>[.dat .bool y],NX,0⟩
theorem V73 op y (q:f73 op=some y):VC Tryz.f73 C73 op y:=by
 unfold f73 at q
 refine OL (OL (cN q (fun q=>?_) (fun q=>?_)))
 ·refine gY (cF (cN q (fun q=>?_) (fun q=>?_)))
  ·refine gY (cF (cN q (fun q=>?_) (fun q=>?_)))
   ·refine gY (cF (cN q (fun q=>?_) (fun q=>?_)))
    ·refine gY (cF ?_)
     cases sE q
     refine AI rfl (E4 [] (R2 (AI TV TV)))
    refine gN (cT ?_)
    cases sE q
    refine AI rfl (E4 [] (R2 (AI TV TV)))
   refine gN (cT (gN (gN (cT ?_))))
   cases sE q
   refine AI rfl (E4 [] (R2 (AI TV TV)))
  refine gN (cT (gN (gN (cT (gN (gN (cT ?_)))))))
  cases sE q
  refine AI rfl (E4 [] (R2 (AI TV TV)))
 refine gN (cT (gN (gN (cT (gN (gN (cT (gN (gN (cT ?_))))))))))
 cases sE q
 refine AI rfl (E4 [] (R2 (AI TV TV)))
theorem H73:HI C73 73:=hI Tryz.f73 rfl fun x=>V73 x
def f53_j1 (a b:LI):Option (Sum Unit Unit):=
 Ey (f76 a) fun r4=>
 bif (!r4) then
 some (Sum.inr ())
 else
 Ey (f76 b) fun r5=>
 bif (!r5) then
 some (Sum.inr ())
 else
 some (Sum.inl ())
def f53_j2 (a b:LI):Option Int:=
 bif (decide ((b.length:Int)>a.length)) then
 some (b.length:Int)
 else
 some (a.length:Int)
def f53_j12 (a:LI) (i:Int):Option Int:=
 bif (decide (i≤a.length)) then
 E9 (0≤(i64.wrap ((a.length:Int)-i))∧(i64.wrap ((a.length:Int)-i))<a.length)<|
 some (rd 0 a (i64.wrap ((a.length:Int)-i)))
 else
 some (1:Int)
def f53_j13 (b:LI) (i:Int):Option Int:=
 bif (decide (i≤b.length)) then
 E9 (0≤(i64.wrap ((b.length:Int)-i))∧(i64.wrap ((b.length:Int)-i))<b.length)<|
 some (rd 0 b (i64.wrap ((b.length:Int)-i)))
 else
 some (1:Int)
def f53_j14 (z16 z17:Int):Option (Sum Unit Unit):=
 bif (z16 != z17) then
 bif (z16 != 1) then
 bif (z17 != 1) then
 some (Sum.inr ())
 else
 some (Sum.inl ())
 else
 some (Sum.inl ())
 else
 some (Sum.inl ())
def f53_j15 (z16 z17:Int):Option Int:=
 bif (decide (z17>z16)) then
 some z17
 else
 some z16
def f53_l11 (a b:LI) (z6:Int) (go:K4→Option (Sum Unit LI)) (i:Int) (l0:LI):Option (Sum Unit LI):=
 bif (decide (i≤z6)) then
 Ey (f53_j12 a i) fun z16=>
 Ey (f53_j13 b i) fun z17=>
 Ey (f53_j14 z16 z17) fun z18=>
 Fx z18 (fun z18a=>
 Ey (f53_j15 z16 z17) fun z19=>
 E9 (0≤(i64.wrap (z6-i))∧(i64.wrap (z6-i))<l0.length)<|
 go ((i64.wrap (i+1)),(List.set l0 (Int.toNat (i64.wrap (z6-i))) z19))) (fun z18b=>
 some (Sum.inl ()))
 else
 some (Sum.inr l0)
def f53 (a b:LI):Option K4:=
 Ey (f53_j1 a b) fun z3=>
 Fx z3 (fun z3a=>
 Ey (f53_j2 a b) fun z6=>
 E9 (0≤z6∧z6≤z6∧Int.toNat z6*8≤140737488355328)<|
 Ey (Fq (fun go x=>f53_l11 a b z6 go x.1 x.2) Fv ((1:Int),(List.replicate (Int.toNat z6) (0:Int)))) fun z15=>
 Fx z15 (fun z15a=>
 some ((4:Int),[])) (fun z15b=>
 Ey (f76 z15b) fun r20=>
 bif (!r20) then
 some ((2:Int),[])
 else
 some ((0:Int),z15b))) (fun z3b=>
 some ((1:Int),[]))
def C53:Con:=⟨Fy,K4,0,fun x=>[.dat T6 x.1,.dat T6 x.2],NX,fun x=>f53 x.1 x.2,fun y=>[O0 0,.dat T1 y.1],fun y=>[(0,.arr 3 T1 y.2)],1⟩
theorem V53 a b y (q:f53 a b=some y):VC Tryz.f53 C53 (a,b) y:=by
 unfold f53 at q
 refine OL ?_
 obtain ⟨z3,hz3,q⟩:=bE q
 let e0:LE:=fun zz=>(0,.dat T6 a)::(1,.dat T6 b)::zz
 refine OQ ⟨Sum.elim (fun z3a=>[(0,⟨e0 [],[],0⟩)]) (fun z3b=>[(1,⟨[(4,.raw false [N0]),(5,D0 1)],[],0⟩)]) z3,?_,?_⟩
 ·have q:=hz3
  clear hz3
  unfold f53_j1 at q
  refine OL ?_
  obtain ⟨r4,h,q⟩:=bE q
  refine OL (cA H76 a h rfl (AI rfl (K0 (cN q (fun q=>?_) (fun q=>?_)))))
  ·refine gY ?_
   obtain ⟨r5,h,q⟩:=bE q
   refine OL (cA H76 b h rfl (AI rfl (K0 (gY (cF (cI q (fun q=>?_) (fun q=>?_)))))))
   ·cases sE q
    refine OL (E4 [] (R2 (AJ TV)))
   cases sE q
   refine E4 [] (R3 (AI TV TV))
  refine gN (gN (cT (cT (OL ?_))))
  cases sE q
  refine E4 [] (R2 (AJ TV))
 rcases z3 with z3a | z3b
 ·dsimp only [Fx] at q
  refine AI (OL ?_) TV
  obtain ⟨z6,hz6,q⟩:=bE q
  let e1:LE:=fun zz=>e0 ((6,.dat T1 z6)::zz)
  refine OQ ⟨[(0,⟨e1 [],[],0⟩)],?_,?_⟩
  ·have q:=hz6
   clear hz6
   unfold f53_j2 at q
   refine OL (cI q (fun q=>?_) (fun q=>?_))
   ·cases sE q
    refine E4 [] (R4 (AI TV TV))
   cases sE q
   refine E4 [] (R4 (AI TV TV))
  refine AI (OL (gI q (fun q=>?_))) TV
  refine OL (OL ?_)
  obtain ⟨z15,h,q⟩:=bE q
  refine lJ h (fun x=>⟨e1 [(7,O0 0),(8,.dat T1 x.1)],[(0,.arr 3 T1 x.2)],1⟩) (fun z=>Sum.elim (fun za=>[(1,⟨[(4,.raw false [N0]),(5,D0 4)],[],0⟩)]) (fun zb=>[(2,⟨[(7,O0 0)],[(0,.arr 3 T1 zb)],1⟩)]) z) (E4 (iuR [1]) (R5 (AJ (AI rfl TV)))) (fun m=>F3 (fun i=>fun l0 z q=>?_)) ?_
  ·have q:f53_l11 a b z6 _ i l0=some z:=q
   unfold f53_l11 at q
   refine OL (OL (cI q (fun q=>?_) (fun q=>?_)))
   ·refine OL (OL ?_)
    obtain ⟨z16,hz16,q⟩:=bE q
    let e2:LE:=fun zz=>e1 ((7,O0 0)::(8,.dat T1 i)::zz)
    refine OQ ⟨[(0,⟨e2 [(9,.dat T1 z16),(10,D0 1)],[(0,.arr 3 T1 l0)],1⟩)],?_,?_⟩
    ·have q:=hz16
     clear hz16
     unfold f53_j12 at q
     refine OL (cI q (fun q=>?_) (fun q=>?_))
     ·refine gI q (fun q=>?_)
      cases sE q
      refine E4 (iuR [1]) (R7 (AJ (AI rfl TV)))
     cases sE q
     refine E4 (iuR [1]) (R7 (AJ (AI rfl TV)))
    refine AI ?_ TV
    obtain ⟨z17,hz17,q⟩:=bE q
    refine OQ ⟨[(0,⟨e2 [(9,.dat T1 z16),(10,.dat T1 z17)],[(0,.arr 3 T1 l0)],1⟩)],?_,?_⟩
    ·have q:=hz17
     clear hz17
     unfold f53_j13 at q
     refine OL (cI q (fun q=>?_) (fun q=>?_))
     ·refine gI q (fun q=>?_)
      cases sE q
      refine E4 (iuR [1]) (R7 (AJ (AI rfl TV)))
     cases sE q
     refine E4 (iuR [1]) (R7 (AJ (AI rfl TV)))
    refine AI ?_ TV
    obtain ⟨z18,hz18,q⟩:=bE q
    refine OQ ⟨Sum.elim (fun z18a=>[(0,⟨e2 [(9,.dat T1 z16),(10,.dat T1 z17)],[(0,.arr 3 T1 l0)],1⟩)]) (fun z18b=>[(1,⟨[(4,.raw false [N0]),(5,D0 4)],[],0⟩)]) z18,?_,?_⟩
    ·have q:=hz18
     clear hz18
     unfold f53_j14 at q
     refine OL (cI q (fun q=>?_) (fun q=>?_))
     ·refine gX (cT (cI q (fun q=>?_) (fun q=>?_)))
      ·refine gX (cT (cI q (fun q=>?_) (fun q=>?_)))
       ·cases sE q
        refine OL (E4 [] (R2 (AJ TV)))
       cases sE q
       refine E4 (iuR [1]) (R7 (AJ (AI rfl TV)))
      refine gM (cF (cF ?_))
      cases sE q
      refine E4 (iuR [1]) (R7 (AJ (AI rfl TV)))
     refine gM (cF (gM (gM (cF (cF ?_)))))
     cases sE q
     refine E4 (iuR [1]) (R7 (AJ (AI rfl TV)))
    rcases z18 with z18a | z18b
    ·dsimp only [Fx] at q
     refine AI ?_ TV
     obtain ⟨z19,hz19,q⟩:=bE q
     refine OQ ⟨[(0,⟨e2 [(9,.dat T1 z19)],[(0,.arr 3 T1 l0)],1⟩)],?_,?_⟩
     ·have q:=hz19
      clear hz19
      unfold f53_j15 at q
      refine OL (cI q (fun q=>?_) (fun q=>?_))
      ·cases sE q
       refine E4 (iuR [1]) (R6 (AJ (AI rfl TV)))
      cases sE q
      refine E4 (iuR [1]) (R6 (AJ (AI rfl TV)))
     refine AI (gI q (fun q=>?_)) TV
     refine OL (EI ((i64.wrap (i+1)),(List.set l0 (Int.toNat (i64.wrap (z6-i))) z19)) (AI q (E4 (iuR [1]) (R5 (AJ (AI rfl TV))))))
    dsimp only [Fx] at q
    refine AI ?_ TV
    cases sE q
    refine E4 [] (R2 (AJ TV))
   cases sE q
   refine E4 (iuR [1]) (AI rfl (AJ (AI rfl TV)))
  rcases z15 with z15a | z15b
  ·dsimp only [Fx] at q
   refine AI ?_ TV
   cases sE q
   refine AI rfl (E4 (iuR [0]) (R2 (AJ (AI rfl TV))))
  dsimp only [Fx] at q
  refine AI (OL (OL ?_)) TV
  obtain ⟨r20,h,q⟩:=bE q
  refine OL (cD H76 z15b h rfl (AI rfl (AI (fun _=>rfl) (R2 (AI TV (AI TV (cI q (fun q=>?_) (fun q=>?_))))))))
  ·cases sE q
   refine OL (AI rfl (E4 (iuR [0]) (R2 (AJ (AI rfl TV)))))
  cases sE q
  refine OL (AI rfl (E4 (iuR [1]) (R2 (AJ (AI rfl TV)))))
 dsimp only [Fx] at q
 refine AI ?_ TV
 cases sE q
 refine AI rfl (E4 (iuR [0]) (R2 (AJ (AI rfl TV))))
theorem H53:HI C53 53:=hI Tryz.f53 rfl fun x=>V53 x.1 x.2
def f28_l1 (v:Int) (go:K4→Option LI) (i:Int) (l3:LI):Option LI:=
 bif (decide (i<l3.length)) then
 E9 (0≤i∧i<l3.length)<|
 go ((i64.wrap (i+1)),(List.set l3 (Int.toNat i) v))
 else
 some l3
def f28 (d:LI) (v:Int):Option Fy:=
 E9 ((List.length ([]:LI)+d.length)*8≤140737488355328)<|
 Ey (f50 d) fun r1=>
 E9 (0≤r1∧r1≤r1∧Int.toNat r1*8≤140737488355328)<|
 Ey (Fq (fun go x=>f28_l1 v go x.1 x.2) Fv ((0:Int),(List.replicate (Int.toNat r1) (0:Int)))) fun z2=>
 some ((([]:LI)++d),z2)
def C28:Con:=⟨LI×Int,Fy,0,fun x=>[.dat T6 x.1,.dat T1 x.2],NX,fun x=>f28 x.1 x.2,fun y=>[.raw true [(.osl 0),(.osl 1)]],fun y=>[(0,.arr 3 T1 y.1),(1,.arr 57 T1 y.2)],2⟩
theorem V28 d v y (q:f28 d v=some y):VC Tryz.f28 C28 (d,v) y:=by
 unfold f28 at q
 refine OL (OL (OL (OL (gI q (fun q=>?_)))))
 obtain ⟨r1,h,q⟩:=bE q
 refine OL (cA H50 d h rfl (AI rfl (K0 (gI q (fun q=>?_)))))
 refine OL (OL (OL ?_))
 obtain ⟨z2,hz2,q⟩:=bE q
 let h0:LH:=fun zz=>(0,.cells [N0,N0])::(1,.cells [(.osl 2),(.osl 3)])::(2,.arr 3 T1 (([]:LI)++d))::zz
 refine lJ hz2 (fun x=>⟨[(1,.dat T1 v),(4,P0 0 0),(5,P0 1 0),(6,.dat T1 x.1)],h0 [(3,.arr 57 T1 x.2)],4⟩) (fun z=>[(2,⟨[(4,P0 0 0),(5,P0 1 0)],h0 [(3,.arr 57 T1 z)],4⟩)]) (E4 (iuR [1,5,3,4]) (R3 (AI (R2 TV) (R4 TV)))) (fun m=>F3 (fun i=>fun l3 z q=>?_)) ?_
 ·have q:f28_l1 v _ i l3=some z:=q
  unfold f28_l1 at q
  refine OL (OL (cI q (fun q=>?_) (fun q=>?_)))
  ·refine OL (gI q (fun q=>?_))
   refine OL (EI ((i64.wrap (i+1)),(List.set l3 (Int.toNat i) v)) (AI q (E4 I4 (R3 (AI (R2 TV) (R4 TV))))))
  cases sE q
  refine E4 I4 (AI rfl (AI (R2 TV) (R4 TV)))
 refine AI (OL (OL ?_)) TV
 cases sE q
 refine AI rfl (E4 (iuR [3,4]) (AI rfl (AJ (R2 TV))))
theorem H28:HI C28 28:=hI Tryz.f28 rfl fun x=>V28 x.1 x.2
def f80_j1 (d:LI) (at_:Int):Option (Sum Unit Unit):=
 Ey (f76 d) fun r4=>
 bif (!r4) then
 some (Sum.inr ())
 else
 bif (decide (at_<0)) then
 some (Sum.inr ())
 else
 Ey (f50 d) fun r5=>
 bif (decide (at_≥r5)) then
 some (Sum.inr ())
 else
 some (Sum.inl ())
def f80_l2 (d:LI) (go:(Int×K4)→Option LI) (at__2 i:Int) (l0:LI):Option LI:=
 bif (decide (i≥0)) then
 E9 (0≤i∧i<d.length)<|
 E9 ((rd 0 d i)≠0)<|
 E9 (0≤i∧i<l0.length)<|
 E9 (0≤i∧i<d.length)<|
 E9 ((rd 0 d i)≠0)<|
 go ((i64.wrap (Int.tdiv at__2 (rd 0 d i))),(i64.wrap (i-1)),(List.set l0 (Int.toNat i) (Int.tmod at__2 (rd 0 d i))))
 else
 some l0
def f80 (d:LI) (at_:Int):Option (Bool×LI):=
 Ey (f80_j1 d at_) fun z3=>
 Fx z3 (fun z3a=>
 E9 (0≤(d.length:Int)∧(d.length:Int)≤d.length∧Int.toNat (d.length:Int)*8≤140737488355328)<|
 Ey (Fq (fun go x=>f80_l2 d go x.1 x.2.1 x.2.2) Fv (at_,(i64.wrap ((d.length:Int)-1)),(List.replicate (Int.toNat (d.length:Int)) (0:Int)))) fun z6=>
 some (true,z6)) (fun z3b=>
 some (false,[]))
def C80:Con:=⟨LI×Int,Bool×LI,0,fun x=>[.dat T6 x.1,.dat T1 x.2],NX,fun x=>f80 x.1 x.2,fun y=>[O0 0,.dat .bool y.1],fun y=>[(0,.arr 3 T1 y.2)],1⟩
theorem V80 d at_ y (q:f80 d at_=some y):VC Tryz.f80 C80 (d,at_) y:=by
 unfold f80 at q
 refine OL ?_
 obtain ⟨z3,hz3,q⟩:=bE q
 refine OQ ⟨Sum.elim (fun z3a=>[(0,⟨[(0,.dat T6 d),(1,.dat T1 at_)],[],0⟩)]) (fun z3b=>[(1,⟨[(4,.raw false [N0]),(5,.dat .bool false)],[],0⟩)]) z3,?_,?_⟩
 ·have q:=hz3
  clear hz3
  unfold f80_j1 at q
  refine OL ?_
  obtain ⟨r4,h,q⟩:=bE q
  refine OL (cA H76 d h rfl (AI rfl (K0 (cN q (fun q=>?_) (fun q=>?_)))))
  ·refine gY (cF (cN q (fun q=>?_) (fun q=>?_)))
   ·refine gY (gY ?_)
    obtain ⟨r5,h,q⟩:=bE q
    refine OL (cA H50 d h rfl (AI rfl (K0 (gY (cF (cI q (fun q=>?_) (fun q=>?_)))))))
    ·cases sE q
     refine OL (E4 [] (R2 (AJ TV)))
    cases sE q
    refine E4 [] (R3 (AI TV TV))
   refine gN (gN (gN (cT (cT (OL ?_)))))
   cases sE q
   refine E4 [] (R2 (AJ TV))
  refine gN (cT (gN (gN (gN (gN (cT (cT (OL ?_))))))))
  cases sE q
  refine E4 [] (R2 (AJ TV))
 rcases z3 with z3a | z3b
 ·dsimp only [Fx] at q
  refine AI (OL (gI q (fun q=>?_))) TV
  refine OL (OL ?_)
  obtain ⟨z6,h,q⟩:=bE q
  refine lJ h (fun x=>⟨[(0,.dat T6 d),(1,.dat T1 x.1),(6,O0 0),(7,.dat T1 x.2.1)],[(0,.arr 3 T1 x.2.2)],1⟩) (fun z=>[(2,⟨[(6,O0 0)],[(0,.arr 3 T1 z)],1⟩)]) (E4 (iuR [1]) (R4 (AJ (AI rfl TV)))) (fun m=>F3 (fun at__2=>F3 (fun i=>fun l0 z q=>?_))) ?_
  ·have q:f80_l2 d _ at__2 i l0=some z:=q
   unfold f80_l2 at q
   refine OL (OL (cI q (fun q=>?_) (fun q=>?_)))
   ·refine OL (OL (gI q (fun q=>?_)))
    refine gI q (fun q=>?_)
    refine gI q (fun q=>?_)
    refine OL (gI q (fun q=>?_))
    refine gI q (fun q=>?_)
    refine EI ((i64.wrap (Int.tdiv at__2 (rd 0 d i))),(i64.wrap (i-1)),(List.set l0 (Int.toNat i) (Int.tmod at__2 (rd 0 d i)))) (AI q (E4 (iuR [1]) (R4 (AJ (AI rfl TV)))))
   cases sE q
   refine E4 (iuR [1]) (AI rfl (AJ (AI rfl TV)))
  refine AI (OL ?_) TV
  cases sE q
  refine AI rfl (E4 (iuR [1]) (R2 (AJ (AI rfl TV))))
 dsimp only [Fx] at q
 refine AI ?_ TV
 cases sE q
 refine AI rfl (E4 (iuR [0]) (R2 (AJ (AI rfl TV))))
theorem H80:HI C80 80:=hI Tryz.f80 rfl fun x=>V80 x.1 x.2
def f54_j1 (big:LI) (r1:K4):Option (Sum Unit Unit):=
 bif (r1.1 != 0) then
 some (Sum.inr ())
 else
 Ey (f13 r1.2 big) fun r4=>
 bif (!r4) then
 some (Sum.inr ())
 else
 some (Sum.inl ())
def f54_j5 (d:LI) (r5:Bool×LI) (i:Int):Option Int:=
 E9 (0≤i∧i<d.length)<|
 bif ((rd 0 d i)==1) then
 some (0:Int)
 else
 some (rd 0 r5.2 (i64.wrap ((i64.wrap ((r5.2.length:Int)-d.length))+i)))
def f54_l4 (d:LI) (r5:Bool×LI) (go:F9→Option Int) (n i:Int):Option Int:=
 bif (decide (i<d.length)) then
 E9 (0≤(i64.wrap ((i64.wrap ((r5.2.length:Int)-d.length))+i))∧(i64.wrap ((i64.wrap ((r5.2.length:Int)-d.length))+i))<r5.2.length)<|
 Ey (f54_j5 d r5 i) fun z9=>
 E9 (0≤i∧i<d.length)<|
 go ((i64.wrap ((i64.wrap (n*(rd 0 d i)))+z9)),(i64.wrap (i+1)))
 else
 some n
def f54 (d big:LI) (at_:Int):Option Ki:=
 Ey (f53 d big) fun r1=>
 Ey (f54_j1 big r1) fun z3=>
 Fx z3 (fun z3a=>
 Ey (f80 big at_) fun r5=>
 bif (!r5.1) then
 some ((0:Int),false)
 else
 Ey (Fq (fun go x=>f54_l4 d r5 go x.1 x.2) Fv ((0:Int),(0:Int))) fun z8=>
 some (z8,true)) (fun z3b=>
 some ((0:Int),false))
def C54:Con:=⟨LI×LI×Int,Ki,0,fun x=>[.dat T6 x.1,.dat T6 x.2.1,.dat T1 x.2.2],NX,fun x=>f54 x.1 x.2.1 x.2.2,fun y=>[.dat T1 y.1,.dat .bool y.2],NX,0⟩
theorem V54 d big at_ y (q:f54 d big at_=some y):VC Tryz.f54 C54 (d,big,at_) y:=by
 unfold f54 at q
 refine OL (OL ?_)
 obtain ⟨r1,h,q⟩:=bE q
 refine OL (cA H53 (d,big) h rfl (R2 (K0 ?_)))
 obtain ⟨z3,hz3,q⟩:=bE q
 refine OQ ⟨Sum.elim (fun z3a=>[(0,⟨[(0,.dat T6 d),(1,.dat T6 big),(2,.dat T1 at_)],[],0⟩)]) (fun z3b=>[(1,⟨[(6,D0 0),(7,.dat .bool false)],[],0⟩)]) z3,?_,?_⟩
 ·have q:=hz3
  clear hz3
  unfold f54_j1 at q
  refine OL (cN q (fun q=>?_) (fun q=>?_))
  ·refine gY (gY ?_)
   obtain ⟨r4,h,q⟩:=bE q
   refine OL (cD H13 (r1.2,big) h rfl (R2 (AI (fun _=>rfl) (R2 (AI TV (AI TV (gY (cF (cI q (fun q=>?_) (fun q=>?_))))))))))
   ·cases sE q
    refine OL (E4 [] (R3 (AI TV TV)))
   cases sE q
   refine E4 [] (R4 (AI TV TV))
  refine gN (gN (gN (cT (cT (OL ?_)))))
  cases sE q
  refine E4 [] (R3 (AI TV TV))
 rcases z3 with z3a | z3b
 ·dsimp only [Fx] at q
  refine AI (OL ?_) TV
  obtain ⟨r5,h,q⟩:=bE q
  refine OL (cA H80 (big,at_) h rfl (R2 (K0 (OL (OL (cI q (fun q=>?_) (fun q=>?_)))))))
  ·cases sE q
   refine OL (AI rfl (E4 [] (R3 (AI TV TV))))
  refine OL (OL (OL ?_))
  obtain ⟨z8,h,q⟩:=bE q
  refine lJ h (fun x=>⟨[(0,.dat T6 d),(10,O0 0),(12,.dat T1 x.1),(13,.dat T1 x.2)],[(0,.arr 3 T1 r5.2)],1⟩) (fun z=>[(2,⟨[(12,.dat T1 z)],[],0⟩)]) (E4 (iuR [1]) (R4 (AJ (AI rfl TV)))) (fun m=>F3 (fun n=>fun i z q=>?_)) ?_
  ·have q:f54_l4 d r5 _ n i=some z:=q
   unfold f54_l4 at q
   refine OL (OL (cI q (fun q=>?_) (fun q=>?_)))
   ·refine OL (OL (gI q (fun q=>?_)))
    obtain ⟨z9,hz9,q⟩:=bE q
    refine OQ ⟨[(0,⟨[(0,.dat T6 d),(10,O0 0),(12,.dat T1 n),(13,.dat T1 i),(14,.dat T1 z9)],[(0,.arr 3 T1 r5.2)],1⟩)],?_,?_⟩
    ·have q:=hz9
     clear hz9
     unfold f54_j5 at q
     refine OL (gI q (fun q=>?_))
     refine cI q (fun q=>?_) (fun q=>?_)
     ·cases sE q
      refine E4 (iuR [1]) (R5 (AJ (AI rfl TV)))
     cases sE q
     refine E4 (iuR [1]) (R5 (AJ (AI rfl TV)))
    refine AI (gI q (fun q=>?_)) TV
    refine EI ((i64.wrap ((i64.wrap (n*(rd 0 d i)))+z9)),(i64.wrap (i+1))) (AI q (E4 (iuR [1]) (R4 (AJ (AI rfl TV)))))
   cases sE q
   refine E4 [] (R2 (AI TV TV))
  refine AI (OL ?_) TV
  cases sE q
  refine AI rfl (E4 [] (R3 (AI TV TV)))
 dsimp only [Fx] at q
 refine AI ?_ TV
 cases sE q
 refine AI rfl (E4 [] (R3 (AI TV TV)))
theorem H54:HI C54 54:=hI Tryz.f54 rfl fun x=>V54 x.1 x.2.1 x.2.2
def f111 (n:Int):Option Int:=
 bif (decide (n<0)) then
 some (u64.wrap ((u64.wrap (i64.wrap (0-(i64.wrap (n+1)))))+1))
 else
 some (u64.wrap n)
def C111:Con:=⟨Int,Int,0,fun x=>[.dat T1 x],NX,fun x=>f111 x,fun y=>[.dat T10 y],NX,0⟩
theorem V111 n y (q:f111 n=some y):VC Tryz.f111 C111 n y:=by
 unfold f111 at q
 refine OL (OL (OL (cI q (fun q=>?_) (fun q=>?_))))
 ·cases sE q
  refine OL (AI rfl (E4 [] (R2 (AI TV TV))))
 cases sE q
 refine OL (AI rfl (E4 [] (R2 (AI TV TV))))
theorem H111:HI C111 111:=hI Tryz.f111 rfl fun x=>V111 x
def f83 (n:Int):Option (Bool×Int):=
 Ey (f111 n) fun r1=>
 some ((decide (n<0)),r1)
def C83:Con:=⟨Int,Bool×Int,0,fun x=>[.dat T1 x],NX,fun x=>f83 x,fun y=>[.raw true [(.d .bool y.1),(.d T10 y.2),(.d T10 (0:Int)),(.d T10 (0:Int)),(.d T10 (0:Int))]],NX,0⟩
theorem V83 n y (q:f83 n=some y):VC Tryz.f83 C83 n y:=by
 unfold f83 at q
 refine OL (OL ?_)
 obtain ⟨r1,h,q⟩:=bE q
 refine OL (cA H111 n h rfl (AI rfl (K0 (OL ?_))))
 cases sE q
 refine AI rfl (E4 [] (AI rfl (AJ TV)))
theorem H83:HI C83 83:=hI Tryz.f83 rfl fun x=>V83 x
def f108_l1 (a_0 a_1 a_2 a_3 b_0 b_1 b_2 b_3:Int) (go:(Int×PTz15)→Option PTz1) (carry i c3_0 c3_1 c3_2 c3_3:Int):Option PTz1:=
 bif (decide (i<4)) then
 E9 (0≤i∧i<4)<|
 pickF i
 [(bif (decide ((u64.wrap (a_0+b_0))<a_0)) then
 go ((1:Int),(i64.wrap (i+1)),(u64.wrap ((u64.wrap (a_0+b_0))+carry)),c3_1,c3_2,c3_3)
 else
 bif (decide ((u64.wrap ((u64.wrap (a_0+b_0))+carry))<(u64.wrap (a_0+b_0)))) then
 go ((1:Int),(i64.wrap (i+1)),(u64.wrap ((u64.wrap (a_0+b_0))+carry)),c3_1,c3_2,c3_3)
 else
 go ((0:Int),(i64.wrap (i+1)),(u64.wrap ((u64.wrap (a_0+b_0))+carry)),c3_1,c3_2,c3_3)),
 (bif (decide ((u64.wrap (a_1+b_1))<a_1)) then
 go ((1:Int),(i64.wrap (i+1)),c3_0,(u64.wrap ((u64.wrap (a_1+b_1))+carry)),c3_2,c3_3)
 else
 bif (decide ((u64.wrap ((u64.wrap (a_1+b_1))+carry))<(u64.wrap (a_1+b_1)))) then
 go ((1:Int),(i64.wrap (i+1)),c3_0,(u64.wrap ((u64.wrap (a_1+b_1))+carry)),c3_2,c3_3)
 else
 go ((0:Int),(i64.wrap (i+1)),c3_0,(u64.wrap ((u64.wrap (a_1+b_1))+carry)),c3_2,c3_3)),
 (bif (decide ((u64.wrap (a_2+b_2))<a_2)) then
 go ((1:Int),(i64.wrap (i+1)),c3_0,c3_1,(u64.wrap ((u64.wrap (a_2+b_2))+carry)),c3_3)
 else
 bif (decide ((u64.wrap ((u64.wrap (a_2+b_2))+carry))<(u64.wrap (a_2+b_2)))) then
 go ((1:Int),(i64.wrap (i+1)),c3_0,c3_1,(u64.wrap ((u64.wrap (a_2+b_2))+carry)),c3_3)
 else
 go ((0:Int),(i64.wrap (i+1)),c3_0,c3_1,(u64.wrap ((u64.wrap (a_2+b_2))+carry)),c3_3)),
 (bif (decide ((u64.wrap (a_3+b_3))<a_3)) then
 go ((1:Int),(i64.wrap (i+1)),c3_0,c3_1,c3_2,(u64.wrap ((u64.wrap (a_3+b_3))+carry)))
 else
 bif (decide ((u64.wrap ((u64.wrap (a_3+b_3))+carry))<(u64.wrap (a_3+b_3)))) then
 go ((1:Int),(i64.wrap (i+1)),c3_0,c3_1,c3_2,(u64.wrap ((u64.wrap (a_3+b_3))+carry)))
 else
 go ((0:Int),(i64.wrap (i+1)),c3_0,c3_1,c3_2,(u64.wrap ((u64.wrap (a_3+b_3))+carry))))]
 else
 some (c3_0,c3_1,c3_2,c3_3)
def f108 (a_0 a_1 a_2 a_3 b_0 b_1 b_2 b_3:Int):Option PTz1:=
 Ey (Fq (fun go x=>f108_l1 a_0 a_1 a_2 a_3 b_0 b_1 b_2 b_3 go x.1 x.2.1 x.2.2.1 x.2.2.2.1 x.2.2.2.2.1 x.2.2.2.2.2) Fv ((0:Int),(0:Int),(0:Int),(0:Int),(0:Int),(0:Int))) fun z3=>
 some (z3.1,z3.2.1,z3.2.2.1,z3.2.2.2)
def C108:Con:=⟨Int×Int×Int×PTz15,PTz1,0,fun x=>[.raw true [(.d T10 x.1),(.d T10 x.2.1),(.d T10 x.2.2.1),(.d T10 x.2.2.2.1)],.raw true [(.d T10 x.2.2.2.2.1),(.d T10 x.2.2.2.2.2.1),(.d T10 x.2.2.2.2.2.2.1),(.d T10 x.2.2.2.2.2.2.2)]],NX,fun x=>f108 x.1 x.2.1 x.2.2.1 x.2.2.2.1 x.2.2.2.2.1 x.2.2.2.2.2.1 x.2.2.2.2.2.2.1 x.2.2.2.2.2.2.2,fun y=>[.raw true [(.d T10 y.1),(.d T10 y.2.1),(.d T10 y.2.2.1),(.d T10 y.2.2.2)]],NX,0⟩
theorem V108 a_0 a_1 a_2 a_3 b_0 b_1 b_2 b_3 y (q:f108 a_0 a_1 a_2 a_3 b_0 b_1 b_2 b_3=some y):VC Tryz.f108 C108 (a_0,a_1,a_2,a_3,b_0,b_1,b_2,b_3) y:=by
 unfold f108 at q
 refine OL (OL (OL (OL (OL ?_))))
 obtain ⟨z3,h,q⟩:=bE q
 refine lJ h (fun x=>⟨[(2,P0 0 0),(3,P0 1 0),(4,P0 2 0),(5,P0 3 0),(6,.dat T10 x.1),(7,.dat T1 x.2.1)],[(0,.cells [(.d T10 a_0),(.d T10 a_1),(.d T10 a_2),(.d T10 a_3)]),(1,.cells [(.d T10 b_0),(.d T10 b_1),(.d T10 b_2),(.d T10 b_3)]),(2,.cells [(.d T10 (0:Int)),(.d T10 (0:Int)),(.d T10 (0:Int)),(.d T10 (0:Int))]),(3,.cells [(.d T10 x.2.2.1),(.d T10 x.2.2.2.1),(.d T10 x.2.2.2.2.1),(.d T10 x.2.2.2.2.2)])],4⟩) (fun z=>[(2,⟨[(4,P0 0 0),(5,P0 1 0)],[(0,.cells [(.d T10 (0:Int)),(.d T10 (0:Int)),(.d T10 (0:Int)),(.d T10 (0:Int))]),(1,.cells [(.d T10 z.1),(.d T10 z.2.1),(.d T10 z.2.2.1),(.d T10 z.2.2.2)])],2⟩)]) (E4 I4 (R3 (AI (R4 TV) (R4 TV)))) (fun m=>F3 (fun carry=>F3 (fun i=>F3 (fun c3_0=>F3 (fun c3_1=>F3 (fun c3_2=>fun c3_3 z q=>?_)))))) ?_
 ·have q:f108_l1 a_0 a_1 a_2 a_3 b_0 b_1 b_2 b_3 _ carry i c3_0 c3_1 c3_2 c3_3=some z:=q
  unfold f108_l1 at q
  refine OL (OL (cI q (fun q=>?_) (fun q=>?_)))
  ·refine OL (OL (EI (tU 0 8 .done) (EI [] (EI [] (AI rfl (gI q (fun q=>?_)))))))
   refine AI (fun hk4=>?_) ?_
   ·have q:=Jf q hk4
    dsimp only [nthO] at q
    refine AI (rE hk4 (by decide)) (AI (fun _=>?_) (AI (fun h=>absurd (hk4.symm.trans h) (by decide)) (AI (fun h=>absurd (hk4.symm.trans h) (by decide)) (AI (fun h=>absurd (hk4.symm.trans h) (by decide)) TV))))
    refine OL (OL (AI (rE hk4 (by decide)) (AI (fun _=>?_) (AI (fun h=>absurd (hk4.symm.trans h) (by decide)) (AI (fun h=>absurd (hk4.symm.trans h) (by decide)) (AI (fun h=>absurd (hk4.symm.trans h) (by decide)) TV))))))
    refine OL (OL (AI (rE hk4 (by decide)) (AI (fun _=>?_) (AI (fun h=>absurd (hk4.symm.trans h) (by decide)) (AI (fun h=>absurd (hk4.symm.trans h) (by decide)) (AI (fun h=>absurd (hk4.symm.trans h) (by decide)) TV))))))
    refine cN q (fun q=>?_) (fun q=>?_)
    ·refine gY (gY (cF (cI q (fun q=>?_) (fun q=>?_))))
     ·refine EI ((1:Int),(i64.wrap (i+1)),(u64.wrap ((u64.wrap (a_0+b_0))+carry)),c3_1,c3_2,c3_3) (AI q (E4 I4 (R3 (AI (R4 TV) (R4 TV)))))
     refine EI ((0:Int),(i64.wrap (i+1)),(u64.wrap ((u64.wrap (a_0+b_0))+carry)),c3_1,c3_2,c3_3) (AI q (E4 I4 (R3 (AI (R4 TV) (R4 TV)))))
    refine gN (gN (cT (cT (EI ((1:Int),(i64.wrap (i+1)),(u64.wrap ((u64.wrap (a_0+b_0))+carry)),c3_1,c3_2,c3_3) (AI q (E4 I4 (R3 (AI (R4 TV) (R4 TV)))))))))
   refine AI (fun hk4=>?_) ?_
   ·have q:=Jf q hk4
    dsimp only [nthO] at q
    refine AI (rE hk4 (by decide)) (AI (fun h=>absurd (hk4.symm.trans h) (by decide)) ?_)
    refine AI (fun _=>?_) (AI (fun h=>absurd (hk4.symm.trans h) (by decide)) (AI (fun h=>absurd (hk4.symm.trans h) (by decide)) TV))
    refine OL (OL (AI (rE hk4 (by decide)) (AI (fun h=>absurd (hk4.symm.trans h) (by decide)) ?_)))
    refine AI (fun _=>?_) (AI (fun h=>absurd (hk4.symm.trans h) (by decide)) (AI (fun h=>absurd (hk4.symm.trans h) (by decide)) TV))
    refine OL (OL (AI (rE hk4 (by decide)) (AI (fun h=>absurd (hk4.symm.trans h) (by decide)) ?_)))
    refine AI (fun _=>?_) (AI (fun h=>absurd (hk4.symm.trans h) (by decide)) (AI (fun h=>absurd (hk4.symm.trans h) (by decide)) TV))
    refine cN q (fun q=>?_) (fun q=>?_)
    ·refine gY (gY (cF (cI q (fun q=>?_) (fun q=>?_))))
     ·refine EI ((1:Int),(i64.wrap (i+1)),c3_0,(u64.wrap ((u64.wrap (a_1+b_1))+carry)),c3_2,c3_3) (AI q (E4 I4 (R3 (AI (R4 TV) (R4 TV)))))
     refine EI ((0:Int),(i64.wrap (i+1)),c3_0,(u64.wrap ((u64.wrap (a_1+b_1))+carry)),c3_2,c3_3) (AI q (E4 I4 (R3 (AI (R4 TV) (R4 TV)))))
    refine gN (gN (cT (cT (EI ((1:Int),(i64.wrap (i+1)),c3_0,(u64.wrap ((u64.wrap (a_1+b_1))+carry)),c3_2,c3_3) (AI q (E4 I4 (R3 (AI (R4 TV) (R4 TV)))))))))
   refine AI (fun hk4=>?_) ?_
   ·have q:=Jf q hk4
    dsimp only [nthO] at q
    refine AI (rE hk4 (by decide)) (AI (fun h=>absurd (hk4.symm.trans h) (by decide)) ?_)
    refine AI (fun h=>absurd (hk4.symm.trans h) (by decide)) ?_
    refine AI (fun _=>?_) (AI (fun h=>absurd (hk4.symm.trans h) (by decide)) TV)
    refine OL (OL (AI (rE hk4 (by decide)) (AI (fun h=>absurd (hk4.symm.trans h) (by decide)) ?_)))
    refine AI (fun h=>absurd (hk4.symm.trans h) (by decide)) ?_
    refine AI (fun _=>?_) (AI (fun h=>absurd (hk4.symm.trans h) (by decide)) TV)
    refine OL (OL (AI (rE hk4 (by decide)) (AI (fun h=>absurd (hk4.symm.trans h) (by decide)) ?_)))
    refine AI (fun h=>absurd (hk4.symm.trans h) (by decide)) ?_
    refine AI (fun _=>?_) (AI (fun h=>absurd (hk4.symm.trans h) (by decide)) TV)
    refine cN q (fun q=>?_) (fun q=>?_)
    ·refine gY (gY (cF (cI q (fun q=>?_) (fun q=>?_))))
     ·refine EI ((1:Int),(i64.wrap (i+1)),c3_0,c3_1,(u64.wrap ((u64.wrap (a_2+b_2))+carry)),c3_3) (AI q (E4 I4 (R3 (AI (R4 TV) (R4 TV)))))
     refine EI ((0:Int),(i64.wrap (i+1)),c3_0,c3_1,(u64.wrap ((u64.wrap (a_2+b_2))+carry)),c3_3) (AI q (E4 I4 (R3 (AI (R4 TV) (R4 TV)))))
    refine gN (gN (cT (cT (EI ((1:Int),(i64.wrap (i+1)),c3_0,c3_1,(u64.wrap ((u64.wrap (a_2+b_2))+carry)),c3_3) (AI q (E4 I4 (R3 (AI (R4 TV) (R4 TV)))))))))
   refine AI (fun hk4=>?_) TV
   have q:=Jf q hk4
   dsimp only [nthO] at q
   refine AI (rE hk4 (by decide)) (AI (fun h=>absurd (hk4.symm.trans h) (by decide)) ?_)
   refine AI (fun h=>absurd (hk4.symm.trans h) (by decide)) ?_
   refine AI (fun h=>absurd (hk4.symm.trans h) (by decide)) ?_
   refine AI (fun _=>?_) TV
   refine OL (OL (AI (rE hk4 (by decide)) (AI (fun h=>absurd (hk4.symm.trans h) (by decide)) ?_)))
   refine AI (fun h=>absurd (hk4.symm.trans h) (by decide)) ?_
   refine AI (fun h=>absurd (hk4.symm.trans h) (by decide)) ?_
   refine AI (fun _=>?_) TV
   refine OL (OL (AI (rE hk4 (by decide)) (AI (fun h=>absurd (hk4.symm.trans h) (by decide)) ?_)))
   refine AI (fun h=>absurd (hk4.symm.trans h) (by decide)) ?_
   refine AI (fun h=>absurd (hk4.symm.trans h) (by decide)) ?_
   refine AI (fun _=>?_) TV
   refine cN q (fun q=>?_) (fun q=>?_)
   ·refine gY (gY (cF (cI q (fun q=>?_) (fun q=>?_))))
    ·refine EI ((1:Int),(i64.wrap (i+1)),c3_0,c3_1,c3_2,(u64.wrap ((u64.wrap (a_3+b_3))+carry))) (AI q (E4 I4 (R3 (AI (R4 TV) (R4 TV)))))
    refine EI ((0:Int),(i64.wrap (i+1)),c3_0,c3_1,c3_2,(u64.wrap ((u64.wrap (a_3+b_3))+carry))) (AI q (E4 I4 (R3 (AI (R4 TV) (R4 TV)))))
   refine gN (gN (cT (cT (EI ((1:Int),(i64.wrap (i+1)),c3_0,c3_1,c3_2,(u64.wrap ((u64.wrap (a_3+b_3))+carry))) (AI q (E4 I4 (R3 (AI (R4 TV) (R4 TV)))))))))
  cases sE q
  refine E4 (iuR [3,4]) (AI rfl (AI (R2 TV) (R2 TV)))
 refine AI (OL (OL ?_)) TV
 cases sE q
 refine AI rfl (E4 [] (AI rfl (AJ TV)))
theorem H108:HI C108 108:=hI Tryz.f108 rfl fun x=>V108 x.1 x.2.1 x.2.2.1 x.2.2.2.1 x.2.2.2.2.1 x.2.2.2.2.2.1 x.2.2.2.2.2.2.1 x.2.2.2.2.2.2.2
def f109_l1 (a_0 a_1 a_2 a_3 b_0 b_1 b_2 b_3:Int) (go:Int→Option (Sum Bool Unit)) (i:Int):Option (Sum Bool Unit):=
 bif (decide (i≥0)) then
 E9 (0≤i∧i<4)<|
 pickF i
 [(bif (a_0 != b_0) then
 some (Sum.inl (decide (a_0<b_0)))
 else
 go (i64.wrap (i-1))),
 (bif (a_1 != b_1) then
 some (Sum.inl (decide (a_1<b_1)))
 else
 go (i64.wrap (i-1))),
 (bif (a_2 != b_2) then
 some (Sum.inl (decide (a_2<b_2)))
 else
 go (i64.wrap (i-1))),
 (bif (a_3 != b_3) then
 some (Sum.inl (decide (a_3<b_3)))
 else
 go (i64.wrap (i-1)))]
 else
 some (Sum.inr ())
def f109 (a_0 a_1 a_2 a_3 b_0 b_1 b_2 b_3:Int):Option Bool:=
 Ey (Fq (fun go x=>f109_l1 a_0 a_1 a_2 a_3 b_0 b_1 b_2 b_3 go x) Fv (3:Int)) fun z2=>
 Fx z2 (fun z2a=>
 some z2a) (fun z2b=>
 some false)
def C109:Con:=⟨Int×Int×Int×PTz15,Bool,0,fun x=>[.raw true [(.d T10 x.1),(.d T10 x.2.1),(.d T10 x.2.2.1),(.d T10 x.2.2.2.1)],.raw true [(.d T10 x.2.2.2.2.1),(.d T10 x.2.2.2.2.2.1),(.d T10 x.2.2.2.2.2.2.1),(.d T10 x.2.2.2.2.2.2.2)]],NX,fun x=>f109 x.1 x.2.1 x.2.2.1 x.2.2.2.1 x.2.2.2.2.1 x.2.2.2.2.2.1 x.2.2.2.2.2.2.1 x.2.2.2.2.2.2.2,fun y=>[.dat .bool y],NX,0⟩
theorem V109 a_0 a_1 a_2 a_3 b_0 b_1 b_2 b_3 y (q:f109 a_0 a_1 a_2 a_3 b_0 b_1 b_2 b_3=some y):VC Tryz.f109 C109 (a_0,a_1,a_2,a_3,b_0,b_1,b_2,b_3) y:=by
 unfold f109 at q
 refine OL (OL (OL ?_))
 obtain ⟨z2,h,q⟩:=bE q
 refine lJ h (fun x=>⟨[(2,P0 0 0),(3,P0 1 0),(5,.dat T1 x)],[(0,.cells [(.d T10 a_0),(.d T10 a_1),(.d T10 a_2),(.d T10 a_3)]),(1,.cells [(.d T10 b_0),(.d T10 b_1),(.d T10 b_2),(.d T10 b_3)])],2⟩) (fun z=>Sum.elim (fun za=>[(1,⟨[(4,.dat .bool za)],[],0⟩)]) (fun zb=>[(2,⟨[],[],0⟩)]) z) (E4 I2 (R2 (AI (R2 TV) (R2 TV)))) (fun m=>fun i z q=>?_) ?_
 ·have q:f109_l1 a_0 a_1 a_2 a_3 b_0 b_1 b_2 b_3 _ i=some z:=q
  unfold f109_l1 at q
  refine OL (OL (cI q (fun q=>?_) (fun q=>?_)))
  ·refine OL (OL (EI (tU 0 7 .done) (EI [] (EI [] (AI rfl (gI q (fun q=>?_)))))))
   refine AI (fun hk3=>?_) ?_
   ·have q:=Jf q hk3
    dsimp only [nthO] at q
    refine AI (rE hk3 (by decide)) (AI (fun _=>?_) (AI (fun h=>absurd (hk3.symm.trans h) (by decide)) (AI (fun h=>absurd (hk3.symm.trans h) (by decide)) (AI (fun h=>absurd (hk3.symm.trans h) (by decide)) TV))))
    refine cI q (fun q=>?_) (fun q=>?_)
    ·refine OL (EI (tU 0 8 .done) (EI [] (EI [] (AI rfl (AI (rE hk3 (by decide)) (AI (fun _=>?_) (AI (fun h=>absurd (hk3.symm.trans h) (by decide)) (AI (fun h=>absurd (hk3.symm.trans h) (by decide)) (AI (fun h=>absurd (hk3.symm.trans h) (by decide)) TV)))))))))
     refine AI (rE hk3 (by decide)) (AI (fun _=>?_) (AI (fun h=>absurd (hk3.symm.trans h) (by decide)) (AI (fun h=>absurd (hk3.symm.trans h) (by decide)) (AI (fun h=>absurd (hk3.symm.trans h) (by decide)) TV))))
     cases sE q
     refine E4 [] (R2 (AI TV TV))
    refine EI (i64.wrap (i-1)) (AI q (E4 I2 (R2 (AI (R2 TV) (R2 TV)))))
   refine AI (fun hk3=>?_) ?_
   ·have q:=Jf q hk3
    dsimp only [nthO] at q
    refine AI (rE hk3 (by decide)) (AI (fun h=>absurd (hk3.symm.trans h) (by decide)) ?_)
    refine AI (fun _=>?_) (AI (fun h=>absurd (hk3.symm.trans h) (by decide)) (AI (fun h=>absurd (hk3.symm.trans h) (by decide)) TV))
    refine cI q (fun q=>?_) (fun q=>?_)
    ·refine OL (EI (tU 0 8 .done) (EI [] (EI [] (AI rfl (AI (rE hk3 (by decide)) (AI (fun h=>absurd (hk3.symm.trans h) (by decide)) ?_))))))
     refine AI (fun _=>?_) (AI (fun h=>absurd (hk3.symm.trans h) (by decide)) (AI (fun h=>absurd (hk3.symm.trans h) (by decide)) TV))
     refine AI (rE hk3 (by decide)) (AI (fun h=>absurd (hk3.symm.trans h) (by decide)) ?_)
     refine AI (fun _=>?_) (AI (fun h=>absurd (hk3.symm.trans h) (by decide)) (AI (fun h=>absurd (hk3.symm.trans h) (by decide)) TV))
     cases sE q
     refine E4 [] (R2 (AI TV TV))
    refine EI (i64.wrap (i-1)) (AI q (E4 I2 (R2 (AI (R2 TV) (R2 TV)))))
   refine AI (fun hk3=>?_) ?_
   ·have q:=Jf q hk3
    dsimp only [nthO] at q
    refine AI (rE hk3 (by decide)) (AI (fun h=>absurd (hk3.symm.trans h) (by decide)) ?_)
    refine AI (fun h=>absurd (hk3.symm.trans h) (by decide)) ?_
    refine AI (fun _=>?_) (AI (fun h=>absurd (hk3.symm.trans h) (by decide)) TV)
    refine cI q (fun q=>?_) (fun q=>?_)
    ·refine OL (EI (tU 0 8 .done) (EI [] (EI [] (AI rfl (AI (rE hk3 (by decide)) (AI (fun h=>absurd (hk3.symm.trans h) (by decide)) ?_))))))
     refine AI (fun h=>absurd (hk3.symm.trans h) (by decide)) ?_
     refine AI (fun _=>?_) (AI (fun h=>absurd (hk3.symm.trans h) (by decide)) TV)
     refine AI (rE hk3 (by decide)) (AI (fun h=>absurd (hk3.symm.trans h) (by decide)) ?_)
     refine AI (fun h=>absurd (hk3.symm.trans h) (by decide)) ?_
     refine AI (fun _=>?_) (AI (fun h=>absurd (hk3.symm.trans h) (by decide)) TV)
     cases sE q
     refine E4 [] (R2 (AI TV TV))
    refine EI (i64.wrap (i-1)) (AI q (E4 I2 (R2 (AI (R2 TV) (R2 TV)))))
   refine AI (fun hk3=>?_) TV
   have q:=Jf q hk3
   dsimp only [nthO] at q
   refine AI (rE hk3 (by decide)) (AI (fun h=>absurd (hk3.symm.trans h) (by decide)) ?_)
   refine AI (fun h=>absurd (hk3.symm.trans h) (by decide)) ?_
   refine AI (fun h=>absurd (hk3.symm.trans h) (by decide)) ?_
   refine AI (fun _=>?_) TV
   refine cI q (fun q=>?_) (fun q=>?_)
   ·refine OL (EI (tU 0 8 .done) (EI [] (EI [] (AI rfl (AI (rE hk3 (by decide)) (AI (fun h=>absurd (hk3.symm.trans h) (by decide)) ?_))))))
    refine AI (fun h=>absurd (hk3.symm.trans h) (by decide)) ?_
    refine AI (fun h=>absurd (hk3.symm.trans h) (by decide)) ?_
    refine AI (fun _=>?_) TV
    refine AI (rE hk3 (by decide)) (AI (fun h=>absurd (hk3.symm.trans h) (by decide)) ?_)
    refine AI (fun h=>absurd (hk3.symm.trans h) (by decide)) ?_
    refine AI (fun h=>absurd (hk3.symm.trans h) (by decide)) ?_
    refine AI (fun _=>?_) TV
    cases sE q
    refine E4 [] (R2 (AI TV TV))
   refine EI (i64.wrap (i-1)) (AI q (E4 I2 (R2 (AI (R2 TV) (R2 TV)))))
  cases sE q
  refine E4 [] (AI rfl (AI TV TV))
 rcases z2 with z2a | z2b
 ·dsimp only [Fx] at q
  refine AI ?_ TV
  cases sE q
  refine AI rfl (E4 [] (R2 (AI TV TV)))
 dsimp only [Fx] at q
 refine AI (OL ?_) TV
 cases sE q
 refine AI rfl (E4 [] (R2 (AI TV TV)))
theorem H109:HI C109 109:=hI Tryz.f109 rfl fun x=>V109 x.1 x.2.1 x.2.2.1 x.2.2.2.1 x.2.2.2.2.1 x.2.2.2.2.2.1 x.2.2.2.2.2.2.1 x.2.2.2.2.2.2.2
end Go.Proofs
