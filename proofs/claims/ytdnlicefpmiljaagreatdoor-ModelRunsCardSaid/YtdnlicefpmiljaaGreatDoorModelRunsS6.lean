import Derived.Test.YtdnlicefpmiljaaGreatDoorModelRunsS5
set_option linter.unusedVariables false
set_option maxRecDepth 100000
set_option maxHeartbeats 8000000
namespace Go.Proofs
open Go.AM
open IntKind (i64 u64 i32 u32 i16 u16 i8 u8)
def f97_j3 (a:Fy) (Fw:Int):Option Bool:=
 Ey (f51 (a.1,a.2)) fun r6=>
 bif (!r6) then
 some true
 else
 bif (decide (Fw<0)) then
 some true
 else
 some (decide (Fw≥a.1.length))
def f97_j2 (a:Fy) (Fw:Int):Option (Sum Unit Unit):=
 Ey (f97_j3 a Fw) fun z5=>
 bif z5 then
 some (Sum.inr ())
 else
 some (Sum.inl ())
def f97_j16 (Fw:Int) (r18:Bool×LI) (k:Int):Option Unit:=
 E9 (0≤Fw∧Fw≤r18.2.length)<|
 E9 (0≤Fw∧Fw≤r18.2.length)<|
 E9 ((List.length ([]:LI)+List.length (List.take (Int.toNat Fw) r18.2))*8≤140737488355328)<|
 E9 ((List.length (([]:LI)++(List.take (Int.toNat Fw) r18.2))+List.length ([k]))*8≤140737488355328)<|
 E9 ((List.length ((([]:LI)++(List.take (Int.toNat Fw) r18.2))++([k]))+List.length (List.drop (Int.toNat Fw) r18.2))*8≤140737488355328)<|
 some ()
def f97_l15 (a:Fy) (Fw:Int) (r18:Bool×LI) (go:(Int×PTz7)→Option PTz7) (k:Int) (c4_0:Bool) (c4_1 c4_2 c4_3 c4_4:Int):Option PTz7:=
 E9 (0≤Fw∧Fw<a.1.length)<|
 bif (decide (k<(rd 0 a.1 Fw))) then
 Ey (f97_j16 Fw r18 k) fun z22=>
 Ey (f123 a.1 (((([]:LI)++(List.take (Int.toNat Fw) r18.2))++([k]))++(List.drop (Int.toNat Fw) r18.2))) fun q13_12=>
 E9 (0≤q13_12.1∧q13_12.1<a.2.length)<|
 Ey (f83 (rd 0 a.2 q13_12.1)) fun q15_6=>
 Ey (f82 c4_0 c4_1 c4_2 c4_3 c4_4 q15_6.1 q15_6.2 (0:Int) (0:Int) (0:Int)) fun q15_7=>
 go ((i64.wrap (k+1)),q15_7.1,q15_7.2.1,q15_7.2.2.1,q15_7.2.2.2.1,q15_7.2.2.2.2)
 else
 some (c4_0,c4_1,c4_2,c4_3,c4_4)
def f97_l12 (a:Fy) (Fw:Int) (go:K4→Option LI) (i:Int) (l5:LI):Option LI:=
 bif (decide (i<l5.length)) then
 Ey (f80 ((([]:LI)++(List.take (Int.toNat Fw) a.1))++(List.drop (Int.toNat (i64.wrap (Fw+1))) a.1)) i) fun r18=>
 Ey (Fq (fun go x=>f97_l15 a Fw r18 go x.1 x.2.1 x.2.2.1 x.2.2.2.1 x.2.2.2.2.1 x.2.2.2.2.2) Fv ((0:Int),false,(0:Int),(0:Int),(0:Int),(0:Int))) fun z21=>
 Ey (f81 z21.1 z21.2.1 z21.2.2.1 z21.2.2.2.1 z21.2.2.2.2) fun q16_4=>
 E9 (0≤i∧i<l5.length)<|
 go ((i64.wrap (i+1)),(List.set l5 (Int.toNat i) q16_4))
 else
 some l5
def f97 (a:Fy) (Fw:Int):Option Gz:=
 Ey (f97_j2 a Fw) fun z3=>
 Fx z3 (fun z3a=>
 E9 (0≤Fw∧Fw≤a.1.length)<|
 E9 (0≤(i64.wrap (Fw+1))∧(i64.wrap (Fw+1))≤a.1.length)<|
 E9 ((List.length ([]:LI)+List.length (List.take (Int.toNat Fw) a.1))*8≤140737488355328)<|
 E9 ((List.length (([]:LI)++(List.take (Int.toNat Fw) a.1))+List.length (List.drop (Int.toNat (i64.wrap (Fw+1))) a.1))*8≤140737488355328)<|
 Ey (f28 ((([]:LI)++(List.take (Int.toNat Fw) a.1))++(List.drop (Int.toNat (i64.wrap (Fw+1))) a.1)) (0:Int)) fun q3_12=>
 Ey (Fq (fun go x=>f97_l12 a Fw go x.1 x.2) Fv ((0:Int),q3_12.2)) fun z17=>
 some ((0:Int),q3_12.1,z17)) (fun z3b=>
 some ((1:Int),[],[]))
def C97:Con:=⟨Fy×Int,Gz,0,fun x=>[.dat T9 x.1,.dat T1 x.2],NX,fun x=>f97 x.1 x.2,fun y=>[.raw true [(.osl 0),(.osl 1)],.dat T1 y.1],fun y=>[(0,.arr 3 T1 y.2.1),(1,.arr 57 T1 y.2.2)],2⟩
theorem V97 a Fw y (q:f97 a Fw=some y):VC Tryz.f97 C97 (a,Fw) y:=by
 unfold f97 at q
 refine OL ?_
 obtain ⟨z3,hz3,q⟩:=bE q
 let e0:LE:=fun zz=>(1,.dat T1 Fw)::(2,P0 0 0)::(4,P0 1 0)::zz
 let h1:LH:=fun zz=>(0,.cells [(.d T6 a.1),(.d T6 a.2)])::(1,.cells [N0,N0])::zz
 refine OQ ⟨Sum.elim (fun z3a=>[(0,⟨e0 [],h1 [],2⟩)]) (fun z3b=>[(1,⟨[(4,P0 0 0),(5,D0 1)],[(0,.cells [N0,N0])],1⟩)]) z3,?_,?_⟩
 ·have q:=hz3
  clear hz3
  unfold f97_j2 at q
  obtain ⟨z5,hz5,q⟩:=bE q
  refine OQ ⟨[(0,⟨e0 [(29,.dat .bool z5)],h1 [],2⟩)],?_,?_⟩
  ·have q:=hz5
   clear hz5
   unfold f97_j3 at q
   obtain ⟨r6,h,q⟩:=bE q
   refine OL (cA H51 (a.1,a.2) h rfl (R2 (K0 (cN q (fun q=>?_) (fun q=>?_)))))
   ·refine gY (cF (cN q (fun q=>?_) (fun q=>?_)))
    ·refine gY (gY (gY (gY (cF ?_))))
     cases sE q
     refine E4 I2 (R3 (AI (R2 TV) (R2 TV)))
    refine gN (gN (gN (gN (cT ?_))))
    cases sE q
    refine E4 I2 (R3 (AI (R2 TV) (R2 TV)))
   refine gN (cT (gN (gN (gN (gN (gN (cT ?_)))))))
   cases sE q
   refine E4 I2 (R3 (AI (R2 TV) (R2 TV)))
  refine AI (cI q (fun q=>?_) (fun q=>?_)) TV
  ·refine OL (OL ?_)
   cases sE q
   refine E4 (iuR [2]) (R2 (AJ (AI rfl TV)))
  cases sE q
  refine E4 I2 (R2 (AI (R2 TV) (R2 TV)))
 rcases z3 with z3a | z3b
 ·dsimp only [Fx] at q
  refine AI (OL (EI (tU 1 4 (tU 6 5 (.alt 0 (.alt 5 (.alt 11 (.take 12 .done) .done) .done) .done))) (EI [] (EI [] (AI rfl (gI q (fun q=>?_))))))) TV
  refine gI q (fun q=>?_)
  refine AI TV (OL (AI TV (OL (gI q (fun q=>?_)))))
  refine AI TV (OL (gI q (fun q=>?_)))
  refine OL ?_
  obtain ⟨q3_12,h,q⟩:=bE q
  refine OL (cD H28 (((([]:LI)++(List.take (Int.toNat Fw) a.1))++(List.drop (Int.toNat (i64.wrap (Fw+1))) a.1)),(0:Int)) h rfl (R2 (AI (fun _=>rfl) (R2 (AI TV (AI TV (OL (OL (OL ?_)))))))))
  obtain ⟨z17,hz17,q⟩:=bE q
  let e2:LE:=fun zz=>e0 ((6,O0 2)::(7,P0 3 0)::zz)
  let h3:LH:=fun zz=>h1 ((2,.arr 3 T1 ((([]:LI)++(List.take (Int.toNat Fw) a.1))++(List.drop (Int.toNat (i64.wrap (Fw+1))) a.1)))::zz)
  refine lJ hz17 (fun x=>⟨e2 [(8,.dat T1 x.1)],h3 [(3,.cells [(.osl 4),(.osl 5)]),(4,.arr 3 T1 q3_12.1),(5,.arr 57 T1 x.2)],6⟩) (fun z=>[(2,⟨[(4,P0 0 0),(7,P0 1 0)],[(0,.cells [N0,N0]),(1,.cells [(.osl 2),(.osl 3)]),(2,.arr 3 T1 q3_12.1),(3,.arr 57 T1 z)],4⟩)]) (E4 (iuR [1,2,5,8,6,7]) (R3 (AI (R4 TV) (R6 TV)))) (fun m=>F3 (fun i=>fun l5 z q=>?_)) ?_
  ·have q:f97_l12 a Fw _ i l5=some z:=q
   unfold f97_l12 at q
   refine OL (OL (cI q (fun q=>?_) (fun q=>?_)))
   ·refine OL (OL ?_)
    obtain ⟨r18,h,q⟩:=bE q
    refine OL (cD H80 (((([]:LI)++(List.take (Int.toNat Fw) a.1))++(List.drop (Int.toNat (i64.wrap (Fw+1))) a.1)),i) h rfl (R2 (AI (fun _=>rfl) (R2 (AI TV (AI TV (OL (OL (OL (OL ?_))))))))))
    obtain ⟨z21,h,q⟩:=bE q
    refine lJ h (fun x=>⟨e2 [(8,.dat T1 i),(9,.dat T6 r18.2),(11,P0 4 0),(12,.dat T1 x.1)],h3 [(3,.cells [(.osl 5),(.osl 6)]),(4,.cells [(.d .bool x.2.1),(.d T10 x.2.2.1),(.d T10 x.2.2.2.1),(.d T10 x.2.2.2.2.1),(.d T10 x.2.2.2.2.2)]),(5,.arr 3 T1 q3_12.1),(6,.arr 57 T1 l5)],7⟩) (fun z=>[(4,⟨e2 [(8,.dat T1 i),(11,P0 4 0)],h3 [(3,.cells [(.osl 5),(.osl 6)]),(4,.cells [(.d .bool z.1),(.d T10 z.2.1),(.d T10 z.2.2.1),(.d T10 z.2.2.2.1),(.d T10 z.2.2.2.2)]),(5,.arr 3 T1 q3_12.1),(6,.arr 57 T1 l5)],7⟩)]) (E4 (iuR [1,2,3,4,8,5,6]) (R5 (AI (R5 TV) (R7 TV)))) (fun m=>F3 (fun k=>F3 (fun c4_0=>F3 (fun c4_1=>F3 (fun c4_2=>F3 (fun c4_3=>fun c4_4 z q=>?_)))))) ?_
    ·have q:f97_l15 a Fw r18 _ k c4_0 c4_1 c4_2 c4_3 c4_4=some z:=q
     unfold f97_l15 at q
     refine OL (OL (gI q (fun q=>?_)))
     refine cI q (fun q=>?_) (fun q=>?_)
     ·refine OL ?_
      obtain ⟨z22,hz22,q⟩:=bE q
      refine OQ ⟨[(0,⟨e2 [(8,.dat T1 i),(9,.dat T6 r18.2),(11,P0 4 0),(12,.dat T1 k),(13,O0 5)],h3 [(3,.cells [(.osl 6),(.osl 7)]),(4,.cells [(.d .bool c4_0),(.d T10 c4_1),(.d T10 c4_2),(.d T10 c4_3),(.d T10 c4_4)]),(5,.arr 3 T1 (((([]:LI)++(List.take (Int.toNat Fw) r18.2))++([k]))++(List.drop (Int.toNat Fw) r18.2))),(6,.arr 3 T1 q3_12.1),(7,.arr 57 T1 l5)],8⟩)],?_,?_⟩
      ·have q:=hz22
       clear hz22
       unfold f97_j16 at q
       obtain ⟨g13_0,q⟩:=gE q
       obtain ⟨g13_1,q⟩:=gE q
       obtain ⟨g13_2,q⟩:=gE q
       obtain ⟨g13_3,q⟩:=gE q
       obtain ⟨g13_4,q⟩:=gE q
       refine EI (tU 1 3 (.take 5 (tU 8 3 (.alt 0 (.alt 4 (.alt 6 (.alt 7 (.alt 11 (.take 12 .done) .done) .done) .done) (.alt 6 (.alt 4 (.alt 7 (.alt 11 (.take 12 .done) .done) .done) .done) .done)) (.alt 6 (.alt 0 (.alt 4 (.alt 7 (.alt 11 (.take 12 .done) .done) .done) .done) .done) .done))))) (EI [] (EI [] (AI rfl (AI g13_0 (AI g13_0 (AI (AI TV ?_) ?_))))))
       ·refine OL (AI TV (OL (AI TV (OL (AI g13_2 (AI TV (OL (AI g13_3 (AI TV (OL (AI g13_4 ?_)))))))))))
        cases sE q
        refine E4 (iuR [1,2,3,4,5,12,6,7]) (R5 (AI (R6 TV) (R8 TV)))
       refine OL (AI (AI TV ?_) ?_)
       ·refine OL (AI TV (OL (AI g13_2 (AI TV (OL (AI g13_3 (AI TV (OL (AI g13_4 ?_)))))))))
        cases sE q
        refine E4 (iuR [1,2,3,4,5,12,6,7]) (R5 (AI (R6 TV) (R8 TV)))
       refine OL (AI g13_2 (AI TV (OL (AI TV (OL (AI g13_3 (AI TV (OL (AI g13_4 ?_)))))))))
       cases sE q
       refine E4 (iuR [1,2,3,4,5,12,6,7]) (R5 (AI (R6 TV) (R8 TV)))
      refine AI (OL ?_) TV
      obtain ⟨q13_12,h,q⟩:=bE q
      refine OL (cD H123 (a.1,(((([]:LI)++(List.take (Int.toNat Fw) r18.2))++([k]))++(List.drop (Int.toNat Fw) r18.2))) h rfl (R2 (AI (fun _=>rfl) (R2 (AI TV (AI TV (EI (tU 0 6 (.alt 6 (.alt 7 (.alt 8 .done .done) .done) .done)) (EI [(8,[4])] (EI [] (AI rfl (gI q (fun q=>?_))))))))))))
      refine AI TV ?_
      obtain ⟨q15_6,h,q⟩:=bE q
      refine OL (cA H83 (rd (0:Int) a.2 q13_12.1) h rfl (AI rfl (K0 (AI TV ?_))))
      obtain ⟨q15_7,h,q⟩:=bE q
      refine OL (cA H82 (c4_0,c4_1,c4_2,c4_3,c4_4,q15_6.1,q15_6.2,(0:Int),(0:Int),(0:Int)) h rfl (AI NH (R2 (AI (R2 TV) (AI TV (AI TV (OL (EI ((i64.wrap (k+1)),q15_7.1,q15_7.2.1,q15_7.2.2.1,q15_7.2.2.2.1,q15_7.2.2.2.2) (AI q (E4 (iuR [1,2,3,4,5,7,8]) (R5 (AI (R5 TV) (R7 TV)))))))))))))
     cases sE q
     refine E4 I7 (R3 (AI (R5 TV) (R7 TV)))
    refine AI (EI (tU 0 4 (.alt 4 (.take 5 (.alt 6 .done .done)) .done)) (EI [] (EI [] (AI rfl (AI TV ?_))))) TV
    obtain ⟨q16_4,h,q⟩:=bE q
    refine OL (cA H81 (z21.1,z21.2.1,z21.2.2.1,z21.2.2.2.1,z21.2.2.2.2) h rfl (AI NH (R2 (AJ (AI TV (gI q (fun q=>?_)))))))
    refine AI TV (OL (EI ((i64.wrap (i+1)),(List.set l5 (Int.toNat i) q16_4)) (AI q (E4 (iuR [1,2,3,4,6,7]) (R3 (AI (R4 TV) (R6 TV)))))))
   cases sE q
   refine E4 (iuR [2,4,5,6]) (AI rfl (AI (R2 TV) (R4 TV)))
  refine AI (OL (OL ?_)) TV
  cases sE q
  refine AI rfl (E4 (iuR [3,4]) (R2 (AJ (R2 TV))))
 dsimp only [Fx] at q
 refine AI ?_ TV
 cases sE q
 refine AI rfl (E4 (iuR [0,0]) (R2 (AJ (R2 TV))))
theorem H97:HI C97 97:=hI Tryz.f97 rfl fun x=>V97 x.1 x.2
def f124_l1 (a:Fy) (go:(Int×PTz7)→Option PTz7) (i:Int) (c2_0:Bool) (c2_1 c2_2 c2_3 c2_4:Int):Option PTz7:=
 bif (decide (i<a.2.length)) then
 E9 (0≤i∧i<a.2.length)<|
 Ey (f83 (rd 0 a.2 i)) fun q5_6=>
 Ey (f82 c2_0 c2_1 c2_2 c2_3 c2_4 q5_6.1 q5_6.2 (0:Int) (0:Int) (0:Int)) fun q5_7=>
 go ((i64.wrap (i+1)),q5_7.1,q5_7.2.1,q5_7.2.2.1,q5_7.2.2.2.1,q5_7.2.2.2.2)
 else
 some (c2_0,c2_1,c2_2,c2_3,c2_4)
def f124 (a:Fy):Option PTz7:=
 Ey (Fq (fun go x=>f124_l1 a go x.1 x.2.1 x.2.2.1 x.2.2.2.1 x.2.2.2.2.1 x.2.2.2.2.2) Fv ((0:Int),false,(0:Int),(0:Int),(0:Int),(0:Int))) fun z1=>
 some (z1.1,z1.2.1,z1.2.2.1,z1.2.2.2.1,z1.2.2.2.2)
def C124:Con:=⟨Fy,PTz7,0,fun x=>[.dat T9 x],NX,fun x=>f124 x,fun y=>[.raw true [(.d .bool y.1),(.d T10 y.2.1),(.d T10 y.2.2.1),(.d T10 y.2.2.2.1),(.d T10 y.2.2.2.2)]],NX,0⟩
theorem V124 a y (q:f124 a=some y):VC Tryz.f124 C124 a y:=by
 unfold f124 at q
 refine OL (OL (OL (OL (OL ?_))))
 obtain ⟨z1,h,q⟩:=bE q
 refine lJ h (fun x=>⟨[(1,P0 0 0),(2,P0 1 0),(3,P0 2 0),(4,.dat T1 x.1)],[(0,.cells [(.d T6 a.1),(.d T6 a.2)]),(1,.cells [(.d .bool false),(.d T10 (0:Int)),(.d T10 (0:Int)),(.d T10 (0:Int)),(.d T10 (0:Int))]),(2,.cells [(.d .bool x.2.1),(.d T10 x.2.2.1),(.d T10 x.2.2.2.1),(.d T10 x.2.2.2.2.1),(.d T10 x.2.2.2.2.2)])],3⟩) (fun z=>[(2,⟨[(2,P0 0 0),(3,P0 1 0)],[(0,.cells [(.d .bool false),(.d T10 (0:Int)),(.d T10 (0:Int)),(.d T10 (0:Int)),(.d T10 (0:Int))]),(1,.cells [(.d .bool z.1),(.d T10 z.2.1),(.d T10 z.2.2.1),(.d T10 z.2.2.2.1),(.d T10 z.2.2.2.2)])],2⟩)]) (E4 I3 (R2 (AI (R3 TV) (R3 TV)))) (fun m=>F3 (fun i=>F3 (fun c2_0=>F3 (fun c2_1=>F3 (fun c2_2=>F3 (fun c2_3=>fun c2_4 z q=>?_)))))) ?_
 ·have q:f124_l1 a _ i c2_0 c2_1 c2_2 c2_3 c2_4=some z:=q
  unfold f124_l1 at q
  refine OL (OL (cI q (fun q=>?_) (fun q=>?_)))
  ·refine OL (EI (tU 0 6 (.alt 6 (.alt 7 (.alt 8 .done .done) .done) .done)) (EI [(8,[2])] (EI [] (AI rfl (gI q (fun q=>?_))))))
   refine AI TV ?_
   obtain ⟨q5_6,h,q⟩:=bE q
   refine OL (cA H83 (rd (0:Int) a.2 i) h rfl (AI rfl (K0 (AI TV ?_))))
   obtain ⟨q5_7,h,q⟩:=bE q
   refine OL (cA H82 (c2_0,c2_1,c2_2,c2_3,c2_4,q5_6.1,q5_6.2,(0:Int),(0:Int),(0:Int)) h rfl (AI NH (R2 (AI (R2 TV) (AI TV (AI TV (OL (EI ((i64.wrap (i+1)),q5_7.1,q5_7.2.1,q5_7.2.2.1,q5_7.2.2.2.1,q5_7.2.2.2.2) (AI q (E4 I3 (R2 (AI (R3 TV) (R3 TV)))))))))))))
  cases sE q
  refine E4 (iuR [2,3]) (AI rfl (AI (R2 TV) (R2 TV)))
 refine AI (OL (OL ?_)) TV
 cases sE q
 refine AI rfl (E4 [] (AI rfl (AJ TV)))
theorem H124:HI C124 124:=hI Tryz.f124 rfl fun x=>V124 x
def f100 (a:Fy):Option Int:=
 Ey (f124 (a.1,a.2)) fun r1=>
 Ey (f81 r1.1 r1.2.1 r1.2.2.1 r1.2.2.2.1 r1.2.2.2.2) fun r2=>
 some r2
def C100:Con:=⟨Fy,Int,0,fun x=>[.dat T9 x],NX,fun x=>f100 x,fun y=>[.dat T1 y],NX,0⟩
theorem V100 a y (q:f100 a=some y):VC Tryz.f100 C100 a y:=by
 unfold f100 at q
 refine OL (OL ?_)
 obtain ⟨r1,h,q⟩:=bE q
 refine OL (cA H124 (a.1,a.2) h rfl (R2 (K0 ?_)))
 obtain ⟨r2,h,q⟩:=bE q
 refine OL (cA H81 (r1.1,r1.2.1,r1.2.2.1,r1.2.2.2.1,r1.2.2.2.2) h rfl (AI NH (R2 (AJ (AI TV ?_)))))
 cases sE q
 refine AI rfl (E4 [] (R2 (AI TV TV)))
theorem H100:HI C100 100:=hI Tryz.f100 rfl fun x=>V100 x
def f99 (v:Int):Option Fy:=
 Ey (f28 ([]) v) fun r1=>
 some (r1.1,r1.2)
def C99:Con:=⟨Int,Fy,0,fun x=>[.dat T1 x],NX,fun x=>f99 x,fun y=>[.raw true [(.osl 0),(.osl 1)]],fun y=>[(0,.arr 3 T1 y.1),(1,.arr 57 T1 y.2)],2⟩
theorem V99 v y (q:f99 v=some y):VC Tryz.f99 C99 v y:=by
 unfold f99 at q
 refine OL (OL ?_)
 obtain ⟨r1,h,q⟩:=bE q
 refine OL (cA H28 ([],v) h rfl (R2 (K0 (OL ?_))))
 cases sE q
 refine AI rfl (E4 (iuR [2,3]) (AI rfl (AJ (R2 TV))))
theorem H99:HI C99 99:=hI Tryz.f99 rfl fun x=>V99 x
def f106_j4 (r1 rest r9:Int):Option Bool:=
 bif ((Int.fdiv rest (2 ^ min (Int.toNat (63:Int)) u64.bits))==1) then
 some true
 else
 some (decide ((Ft IntKind.u64 (fun p q=>p||| q) (u64.wrap (rest*2 ^ min (Int.toNat (1:Int)) u64.bits)) r9)≥r1))
def f106_l3 (a_M_0 a_M_1 a_M_2 a_M_3 r1:Int) (go:(Int×PTz15)→Option PTz15) (rest i c2_1 c2_2 c2_3 c2_4:Int):Option PTz15:=
 bif (decide (i≥0)) then
 Ey (f112 a_M_0 a_M_1 a_M_2 a_M_3 i) fun r9=>
 Ey (f106_j4 r1 rest r9) fun z10=>
 bif z10 then
 E9 (0≤(i64.wrap (Int.tdiv i (64:Int)))∧(i64.wrap (Int.tdiv i (64:Int)))<4)<|
 pickF (i64.wrap (Int.tdiv i (64:Int)))
 [(E9 (0≤(u64.wrap (Int.tmod i (64:Int))))<|
 go ((u64.wrap ((Ft IntKind.u64 (fun p q=>p||| q) (u64.wrap (rest*2 ^ min (Int.toNat (1:Int)) u64.bits)) r9)-r1)),(i64.wrap (i-1)),(Ft IntKind.u64 (fun p q=>p||| q) c2_1 (u64.wrap ((1:Int)*2 ^ min (Int.toNat (u64.wrap (Int.tmod i (64:Int)))) u64.bits))),c2_2,c2_3,c2_4)),
 (E9 (0≤(u64.wrap (Int.tmod i (64:Int))))<|
 go ((u64.wrap ((Ft IntKind.u64 (fun p q=>p||| q) (u64.wrap (rest*2 ^ min (Int.toNat (1:Int)) u64.bits)) r9)-r1)),(i64.wrap (i-1)),c2_1,(Ft IntKind.u64 (fun p q=>p||| q) c2_2 (u64.wrap ((1:Int)*2 ^ min (Int.toNat (u64.wrap (Int.tmod i (64:Int)))) u64.bits))),c2_3,c2_4)),
 (E9 (0≤(u64.wrap (Int.tmod i (64:Int))))<|
 go ((u64.wrap ((Ft IntKind.u64 (fun p q=>p||| q) (u64.wrap (rest*2 ^ min (Int.toNat (1:Int)) u64.bits)) r9)-r1)),(i64.wrap (i-1)),c2_1,c2_2,(Ft IntKind.u64 (fun p q=>p||| q) c2_3 (u64.wrap ((1:Int)*2 ^ min (Int.toNat (u64.wrap (Int.tmod i (64:Int)))) u64.bits))),c2_4)),
 (E9 (0≤(u64.wrap (Int.tmod i (64:Int))))<|
 go ((u64.wrap ((Ft IntKind.u64 (fun p q=>p||| q) (u64.wrap (rest*2 ^ min (Int.toNat (1:Int)) u64.bits)) r9)-r1)),(i64.wrap (i-1)),c2_1,c2_2,c2_3,(Ft IntKind.u64 (fun p q=>p||| q) c2_4 (u64.wrap ((1:Int)*2 ^ min (Int.toNat (u64.wrap (Int.tmod i (64:Int)))) u64.bits)))))]
 else
 go ((Ft IntKind.u64 (fun p q=>p||| q) (u64.wrap (rest*2 ^ min (Int.toNat (1:Int)) u64.bits)) r9),(i64.wrap (i-1)),c2_1,c2_2,c2_3,c2_4)
 else
 some (rest,c2_1,c2_2,c2_3,c2_4)
def f106_j5 (r1:Int) (z8:PTz15):Option Bool:=
 bif (decide (z8.1>(u64.wrap (r1-z8.1)))) then
 some true
 else
 bif (z8.1==(u64.wrap (r1-z8.1))) then
 some ((Ft IntKind.u64 (fun p q=>p&&& q) z8.2.1 (1:Int))==1)
 else
 some false
def f106 (a_Neg:Bool) (a_M_0 a_M_1 a_M_2 a_M_3 by_:Int):Option PTz7:=
 Ey (f111 by_) fun r1=>
 Ey (Fq (fun go x=>f106_l3 a_M_0 a_M_1 a_M_2 a_M_3 r1 go x.1 x.2.1 x.2.2.1 x.2.2.2.1 x.2.2.2.2.1 x.2.2.2.2.2) Fv ((0:Int),(255:Int),(0:Int),(0:Int),(0:Int),(0:Int))) fun z8=>
 Ey (f106_j5 r1 z8) fun z12=>
 bif z12 then
 Ey (f108 z8.2.1 z8.2.2.1 z8.2.2.2.1 z8.2.2.2.2 (1:Int) (0:Int) (0:Int) (0:Int)) fun r13=>
 some ((!(a_Neg==(decide (by_<0)))),r13.1,r13.2.1,r13.2.2.1,r13.2.2.2)
 else
 some ((!(a_Neg==(decide (by_<0)))),z8.2.1,z8.2.2.1,z8.2.2.2.1,z8.2.2.2.2)
def C106:Con:=⟨Bool×PTz15,PTz7,0,fun x=>[.raw true [(.d .bool x.1),(.d T10 x.2.1),(.d T10 x.2.2.1),(.d T10 x.2.2.2.1),(.d T10 x.2.2.2.2.1)],.dat T1 x.2.2.2.2.2],NX,fun x=>f106 x.1 x.2.1 x.2.2.1 x.2.2.2.1 x.2.2.2.2.1 x.2.2.2.2.2,fun y=>[.raw true [(.d .bool y.1),(.d T10 y.2.1),(.d T10 y.2.2.1),(.d T10 y.2.2.2.1),(.d T10 y.2.2.2.2)]],NX,0⟩
theorem V106 a_Neg a_M_0 a_M_1 a_M_2 a_M_3 by_ y (q:f106 a_Neg a_M_0 a_M_1 a_M_2 a_M_3 by_=some y):VC Tryz.f106 C106 (a_Neg,a_M_0,a_M_1,a_M_2,a_M_3,by_) y:=by
 unfold f106 at q
 refine OL (OL ?_)
 obtain ⟨r1,h,q⟩:=bE q
 refine OL (cA H111 by_ h rfl (AI rfl (K0 (OL (OL (OL (OL (OL ?_))))))))
 obtain ⟨z8,hz8,q⟩:=bE q
 let h0:LH:=fun zz=>(0,.cells [(.d .bool a_Neg),(.d T10 a_M_0),(.d T10 a_M_1),(.d T10 a_M_2),(.d T10 a_M_3)])::(1,.cells [(.d .bool false),(.d T10 (0:Int)),(.d T10 (0:Int)),(.d T10 (0:Int)),(.d T10 (0:Int))])::zz
 let h1:LH:=fun zz=>(0,.cells [(.d .bool false),(.d T10 (0:Int)),(.d T10 (0:Int)),(.d T10 (0:Int)),(.d T10 (0:Int))])::zz
 refine lJ hz8 (fun x=>⟨[(2,P0 0 0),(4,P0 1 0),(5,.dat T10 r1),(6,P0 2 0),(7,.dat T10 x.1),(8,.dat T1 x.2.1)],h0 [(2,.cells [(.d .bool (!(a_Neg==(decide (by_<0))))),(.d T10 x.2.2.1),(.d T10 x.2.2.2.1),(.d T10 x.2.2.2.2.1),(.d T10 x.2.2.2.2.2)])],3⟩) (fun z=>[(2,⟨[(4,P0 0 0),(5,.dat T10 r1),(6,P0 1 0),(7,.dat T10 z.1)],h1 [(1,.cells [(.d .bool (!(a_Neg==(decide (by_<0))))),(.d T10 z.2.1),(.d T10 z.2.2.1),(.d T10 z.2.2.2.1),(.d T10 z.2.2.2.2)])],2⟩)]) (E4 I3 (R4 (AI (R3 TV) (R3 TV)))) (fun m=>F3 (fun rest=>F3 (fun i=>F3 (fun c2_1=>F3 (fun c2_2=>F3 (fun c2_3=>fun c2_4 z q=>?_)))))) ?_
 ·have q:f106_l3 a_M_0 a_M_1 a_M_2 a_M_3 r1 _ rest i c2_1 c2_2 c2_3 c2_4=some z:=q
  unfold f106_l3 at q
  refine OL (OL (cI q (fun q=>?_) (fun q=>?_)))
  ·refine OL (OL (AI (by decide) (OL (AI (by decide) ?_))))
   obtain ⟨r9,h,q⟩:=bE q
   refine OL (cA H112 (a_M_0,a_M_1,a_M_2,a_M_3,i) h rfl (AI rfl (AI NH (R2 (AJ (AI TV ?_))))))
   obtain ⟨z10,hz10,q⟩:=bE q
   refine OQ ⟨[(0,⟨[(2,P0 0 0),(4,P0 1 0),(5,.dat T10 r1),(6,P0 2 0),(7,.dat T10 (Ft IntKind.u64 (fun p q=>p||| q) (u64.wrap (rest*2 ^ min (Int.toNat (1:Int)) u64.bits)) r9)),(8,.dat T1 i),(37,.dat .bool z10)],h0 [(2,.cells [(.d .bool (!(a_Neg==(decide (by_<0))))),(.d T10 c2_1),(.d T10 c2_2),(.d T10 c2_3),(.d T10 c2_4)])],3⟩)],?_,?_⟩
   ·have q:=hz10
    clear hz10
    unfold f106_j4 at q
    refine cN q (fun q=>?_) (fun q=>?_)
    ·refine gY (gY (cF ?_))
     cases sE q
     refine E4 I3 (R5 (AI (R3 TV) (R3 TV)))
    refine gN (gN (cT ?_))
    cases sE q
    refine E4 I3 (R5 (AI (R3 TV) (R3 TV)))
   refine AI (cI q (fun q=>?_) (fun q=>?_)) TV
   ·refine OL (AI (by decide) (AI (by decide) (gI q (fun q=>?_))))
    refine AI (fun hk11=>?_) ?_
    ·have q:=Jf q hk11
     dsimp only [nthO] at q
     refine AI (by decide) (gI q (fun q=>?_))
     refine AI (rE hk11 (by decide)) (AI (fun _=>?_) (AI (fun h=>absurd (hk11.symm.trans h) (by decide)) (AI (fun h=>absurd (hk11.symm.trans h) (by decide)) (AI (fun h=>absurd (hk11.symm.trans h) (by decide)) TV))))
     refine OL (EI ((u64.wrap ((Ft IntKind.u64 (fun p q=>p||| q) (u64.wrap (rest*2 ^ min (Int.toNat (1:Int)) u64.bits)) r9)-r1)),(i64.wrap (i-1)),(Ft IntKind.u64 (fun p q=>p||| q) c2_1 (u64.wrap ((1:Int)*2 ^ min (Int.toNat (u64.wrap (Int.tmod i (64:Int)))) u64.bits))),c2_2,c2_3,c2_4) (AI q (E4 I3 (R4 (AI (R3 TV) (R3 TV))))))
    refine AI (fun hk11=>?_) ?_
    ·have q:=Jf q hk11
     dsimp only [nthO] at q
     refine AI (by decide) (gI q (fun q=>?_))
     refine AI (rE hk11 (by decide)) (AI (fun h=>absurd (hk11.symm.trans h) (by decide)) ?_)
     refine AI (fun _=>?_) (AI (fun h=>absurd (hk11.symm.trans h) (by decide)) (AI (fun h=>absurd (hk11.symm.trans h) (by decide)) TV))
     refine OL (EI ((u64.wrap ((Ft IntKind.u64 (fun p q=>p||| q) (u64.wrap (rest*2 ^ min (Int.toNat (1:Int)) u64.bits)) r9)-r1)),(i64.wrap (i-1)),c2_1,(Ft IntKind.u64 (fun p q=>p||| q) c2_2 (u64.wrap ((1:Int)*2 ^ min (Int.toNat (u64.wrap (Int.tmod i (64:Int)))) u64.bits))),c2_3,c2_4) (AI q (E4 I3 (R4 (AI (R3 TV) (R3 TV))))))
    refine AI (fun hk11=>?_) ?_
    ·have q:=Jf q hk11
     dsimp only [nthO] at q
     refine AI (by decide) (gI q (fun q=>?_))
     refine AI (rE hk11 (by decide)) (AI (fun h=>absurd (hk11.symm.trans h) (by decide)) ?_)
     refine AI (fun h=>absurd (hk11.symm.trans h) (by decide)) ?_
     refine AI (fun _=>?_) (AI (fun h=>absurd (hk11.symm.trans h) (by decide)) TV)
     refine OL (EI ((u64.wrap ((Ft IntKind.u64 (fun p q=>p||| q) (u64.wrap (rest*2 ^ min (Int.toNat (1:Int)) u64.bits)) r9)-r1)),(i64.wrap (i-1)),c2_1,c2_2,(Ft IntKind.u64 (fun p q=>p||| q) c2_3 (u64.wrap ((1:Int)*2 ^ min (Int.toNat (u64.wrap (Int.tmod i (64:Int)))) u64.bits))),c2_4) (AI q (E4 I3 (R4 (AI (R3 TV) (R3 TV))))))
    refine AI (fun hk11=>?_) TV
    have q:=Jf q hk11
    dsimp only [nthO] at q
    refine AI (by decide) (gI q (fun q=>?_))
    refine AI (rE hk11 (by decide)) (AI (fun h=>absurd (hk11.symm.trans h) (by decide)) ?_)
    refine AI (fun h=>absurd (hk11.symm.trans h) (by decide)) ?_
    refine AI (fun h=>absurd (hk11.symm.trans h) (by decide)) ?_
    refine AI (fun _=>?_) TV
    refine OL (EI ((u64.wrap ((Ft IntKind.u64 (fun p q=>p||| q) (u64.wrap (rest*2 ^ min (Int.toNat (1:Int)) u64.bits)) r9)-r1)),(i64.wrap (i-1)),c2_1,c2_2,c2_3,(Ft IntKind.u64 (fun p q=>p||| q) c2_4 (u64.wrap ((1:Int)*2 ^ min (Int.toNat (u64.wrap (Int.tmod i (64:Int)))) u64.bits)))) (AI q (E4 I3 (R4 (AI (R3 TV) (R3 TV))))))
   refine EI ((Ft IntKind.u64 (fun p q=>p||| q) (u64.wrap (rest*2 ^ min (Int.toNat (1:Int)) u64.bits)) r9),(i64.wrap (i-1)),c2_1,c2_2,c2_3,c2_4) (AI q (E4 I3 (R4 (AI (R3 TV) (R3 TV)))))
  cases sE q
  refine E4 (iuR [2,3]) (R3 (AI (R2 TV) (R2 TV)))
 refine AI (OL ?_) TV
 obtain ⟨z12,hz12,q⟩:=bE q
 refine OQ ⟨[(0,⟨[(4,P0 0 0),(6,P0 1 0),(73,.dat .bool z12)],h1 [(1,.cells [(.d .bool (!(a_Neg==(decide (by_<0))))),(.d T10 z8.2.1),(.d T10 z8.2.2.1),(.d T10 z8.2.2.2.1),(.d T10 z8.2.2.2.2)])],2⟩)],?_,?_⟩
 ·have q:=hz12
  clear hz12
  unfold f106_j5 at q
  refine cN q (fun q=>?_) (fun q=>?_)
  ·refine gY (gY (gY (gY (gY (cI q (fun q=>?_) (fun q=>?_))))))
   ·refine gX (AI (by decide) (AI (fun _=>?_) (AI (fun h=>absurd h (by decide)) (AI (fun h=>absurd h (by decide)) (AI (fun h=>absurd h (by decide)) TV)))))
    refine gX (gX (gX (gY (cT (cF ?_)))))
    cases sE q
    refine E4 I2 (R2 (AI (R2 TV) (R2 TV)))
   refine gM (gM (gM (gM (gY (cF (cF ?_))))))
   cases sE q
   refine E4 I2 (R2 (AI (R2 TV) (R2 TV)))
  refine gN (gN (gN (gN (gN (gN (cT ?_))))))
  cases sE q
  refine E4 I2 (R2 (AI (R2 TV) (R2 TV)))
 refine AI (cI q (fun q=>?_) (fun q=>?_)) TV
 ·obtain ⟨r13,h,q⟩:=bE q
  refine OL (cA H108 (z8.2.1,z8.2.2.1,z8.2.2.2.1,z8.2.2.2.2,(1:Int),(0:Int),(0:Int),(0:Int)) h rfl (AI NH (R2 (AI (R2 TV) (AI TV (OL (OL (OL ?_))))))))
  cases sE q
  refine AI rfl (E4 [] (AI rfl (AJ TV)))
 refine OL (OL ?_)
 cases sE q
 refine AI rfl (E4 [] (AI rfl (AJ TV)))
theorem H106:HI C106 106:=hI Tryz.f106 rfl fun x=>V106 x.1 x.2.1 x.2.2.1 x.2.2.2.1 x.2.2.2.2.1 x.2.2.2.2.2
def f101 (a:Fy):Option Int:=
 Ey (f124 (a.1,a.2)) fun q1_1=>
 Ey (f106 q1_1.1 q1_1.2.1 q1_1.2.2.1 q1_1.2.2.2.1 q1_1.2.2.2.2 (a.2.length:Int)) fun q1_5=>
 Ey (f81 q1_5.1 q1_5.2.1 q1_5.2.2.1 q1_5.2.2.2.1 q1_5.2.2.2.2) fun q1_6=>
 some q1_6
def C101:Con:=⟨Fy,Int,0,fun x=>[.dat T9 x],NX,fun x=>f101 x,fun y=>[.dat T1 y],NX,0⟩
theorem V101 a y (q:f101 a=some y):VC Tryz.f101 C101 a y:=by
 unfold f101 at q
 refine OL (OL (EI (.take 0 (tU 2 3 (.alt 1 (.alt 5 (.alt 6 (.take 7 .done) .done) .done) .done))) (EI [] (EI [] (AI rfl (AI TV ?_))))))
 obtain ⟨q1_1,h,q⟩:=bE q
 refine OL (cA H124 (a.1,a.2) h rfl (R2 (K0 (AI TV ?_))))
 obtain ⟨q1_5,h,q⟩:=bE q
 refine OL (cA H106 (q1_1.1,q1_1.2.1,q1_1.2.2.1,q1_1.2.2.2.1,q1_1.2.2.2.2,(a.2.length:Int)) h rfl (AI rfl (AI NH (R2 (AJ (AI TV (AI TV ?_)))))))
 obtain ⟨q1_6,h,q⟩:=bE q
 refine OL (cA H81 (q1_5.1,q1_5.2.1,q1_5.2.2.1,q1_5.2.2.2.1,q1_5.2.2.2.2) h rfl (AI NH (R2 (AJ (AI TV ?_)))))
 cases sE q
 refine AI rfl (E4 [] (R2 (AI TV TV)))
theorem H101:HI C101 101:=hI Tryz.f101 rfl fun x=>V101 x
def f107_l1 (a_M_0 a_M_1 a_M_2 a_M_3 n:Int) (go:PTz15→Option PTz1) (i c2_1 c2_2 c2_3 c2_4:Int):Option PTz1:=
 bif (decide (i≥n)) then
 Ey (f112 a_M_0 a_M_1 a_M_2 a_M_3 (i64.wrap (i-n))) fun r6=>
 bif (r6==1) then
 E9 (0≤(i64.wrap (Int.tdiv i (64:Int)))∧(i64.wrap (Int.tdiv i (64:Int)))<4)<|
 pickF (i64.wrap (Int.tdiv i (64:Int)))
 [(E9 (0≤(u64.wrap (Int.tmod i (64:Int))))<|
 go ((i64.wrap (i-1)),(Ft IntKind.u64 (fun p q=>p||| q) c2_1 (u64.wrap ((1:Int)*2 ^ min (Int.toNat (u64.wrap (Int.tmod i (64:Int)))) u64.bits))),c2_2,c2_3,c2_4)),
 (E9 (0≤(u64.wrap (Int.tmod i (64:Int))))<|
 go ((i64.wrap (i-1)),c2_1,(Ft IntKind.u64 (fun p q=>p||| q) c2_2 (u64.wrap ((1:Int)*2 ^ min (Int.toNat (u64.wrap (Int.tmod i (64:Int)))) u64.bits))),c2_3,c2_4)),
 (E9 (0≤(u64.wrap (Int.tmod i (64:Int))))<|
 go ((i64.wrap (i-1)),c2_1,c2_2,(Ft IntKind.u64 (fun p q=>p||| q) c2_3 (u64.wrap ((1:Int)*2 ^ min (Int.toNat (u64.wrap (Int.tmod i (64:Int)))) u64.bits))),c2_4)),
 (E9 (0≤(u64.wrap (Int.tmod i (64:Int))))<|
 go ((i64.wrap (i-1)),c2_1,c2_2,c2_3,(Ft IntKind.u64 (fun p q=>p||| q) c2_4 (u64.wrap ((1:Int)*2 ^ min (Int.toNat (u64.wrap (Int.tmod i (64:Int)))) u64.bits)))))]
 else
 go ((i64.wrap (i-1)),c2_1,c2_2,c2_3,c2_4)
 else
 some (c2_1,c2_2,c2_3,c2_4)
def f107 (a_Neg:Bool) (a_M_0 a_M_1 a_M_2 a_M_3 n:Int):Option PTz7:=
 Ey (Fq (fun go x=>f107_l1 a_M_0 a_M_1 a_M_2 a_M_3 n go x.1 x.2.1 x.2.2.1 x.2.2.2.1 x.2.2.2.2) Fv ((255:Int),(0:Int),(0:Int),(0:Int),(0:Int))) fun z5=>
 some (a_Neg,z5.1,z5.2.1,z5.2.2.1,z5.2.2.2)
def C107:Con:=⟨Bool×PTz15,PTz7,0,fun x=>[.raw true [(.d .bool x.1),(.d T10 x.2.1),(.d T10 x.2.2.1),(.d T10 x.2.2.2.1),(.d T10 x.2.2.2.2.1)],.dat T1 x.2.2.2.2.2],NX,fun x=>f107 x.1 x.2.1 x.2.2.1 x.2.2.2.1 x.2.2.2.2.1 x.2.2.2.2.2,fun y=>[.raw true [(.d .bool y.1),(.d T10 y.2.1),(.d T10 y.2.2.1),(.d T10 y.2.2.2.1),(.d T10 y.2.2.2.2)]],NX,0⟩
theorem V107 a_Neg a_M_0 a_M_1 a_M_2 a_M_3 n y (q:f107 a_Neg a_M_0 a_M_1 a_M_2 a_M_3 n=some y):VC Tryz.f107 C107 (a_Neg,a_M_0,a_M_1,a_M_2,a_M_3,n) y:=by
 unfold f107 at q
 refine OL (OL (OL (OL (OL ?_))))
 obtain ⟨z5,h,q⟩:=bE q
 refine lJ h (fun x=>⟨[(1,.dat T1 n),(2,P0 0 0),(4,P0 1 0),(5,P0 2 0),(6,.dat T1 x.1)],[(0,.cells [(.d .bool a_Neg),(.d T10 a_M_0),(.d T10 a_M_1),(.d T10 a_M_2),(.d T10 a_M_3)]),(1,.cells [(.d .bool false),(.d T10 (0:Int)),(.d T10 (0:Int)),(.d T10 (0:Int)),(.d T10 (0:Int))]),(2,.cells [(.d .bool a_Neg),(.d T10 x.2.1),(.d T10 x.2.2.1),(.d T10 x.2.2.2.1),(.d T10 x.2.2.2.2)])],3⟩) (fun z=>[(2,⟨[(4,P0 0 0),(5,P0 1 0)],[(0,.cells [(.d .bool false),(.d T10 (0:Int)),(.d T10 (0:Int)),(.d T10 (0:Int)),(.d T10 (0:Int))]),(1,.cells [(.d .bool a_Neg),(.d T10 z.1),(.d T10 z.2.1),(.d T10 z.2.2.1),(.d T10 z.2.2.2)])],2⟩)]) (E4 I3 (R3 (AI (R3 TV) (R3 TV)))) (fun m=>F3 (fun i=>F3 (fun c2_1=>F3 (fun c2_2=>F3 (fun c2_3=>fun c2_4 z q=>?_))))) ?_
 ·have q:f107_l1 a_M_0 a_M_1 a_M_2 a_M_3 n _ i c2_1 c2_2 c2_3 c2_4=some z:=q
  unfold f107_l1 at q
  refine OL (OL (cI q (fun q=>?_) (fun q=>?_)))
  ·refine OL (OL ?_)
   obtain ⟨r6,h,q⟩:=bE q
   refine OL (cA H112 (a_M_0,a_M_1,a_M_2,a_M_3,(i64.wrap (i-n))) h rfl (AI rfl (AI NH (R2 (AJ (AI TV (cI q (fun q=>?_) (fun q=>?_))))))))
   ·refine AI (by decide) (AI (by decide) (gI q (fun q=>?_)))
    refine AI (fun hk7=>?_) ?_
    ·have q:=Jf q hk7
     dsimp only [nthO] at q
     refine AI (by decide) (gI q (fun q=>?_))
     refine AI (rE hk7 (by decide)) (AI (fun _=>?_) (AI (fun h=>absurd (hk7.symm.trans h) (by decide)) (AI (fun h=>absurd (hk7.symm.trans h) (by decide)) (AI (fun h=>absurd (hk7.symm.trans h) (by decide)) TV))))
     refine OL (EI ((i64.wrap (i-1)),(Ft IntKind.u64 (fun p q=>p||| q) c2_1 (u64.wrap ((1:Int)*2 ^ min (Int.toNat (u64.wrap (Int.tmod i (64:Int)))) u64.bits))),c2_2,c2_3,c2_4) (AI q (E4 I3 (R3 (AI (R3 TV) (R3 TV))))))
    refine AI (fun hk7=>?_) ?_
    ·have q:=Jf q hk7
     dsimp only [nthO] at q
     refine AI (by decide) (gI q (fun q=>?_))
     refine AI (rE hk7 (by decide)) (AI (fun h=>absurd (hk7.symm.trans h) (by decide)) ?_)
     refine AI (fun _=>?_) (AI (fun h=>absurd (hk7.symm.trans h) (by decide)) (AI (fun h=>absurd (hk7.symm.trans h) (by decide)) TV))
     refine OL (EI ((i64.wrap (i-1)),c2_1,(Ft IntKind.u64 (fun p q=>p||| q) c2_2 (u64.wrap ((1:Int)*2 ^ min (Int.toNat (u64.wrap (Int.tmod i (64:Int)))) u64.bits))),c2_3,c2_4) (AI q (E4 I3 (R3 (AI (R3 TV) (R3 TV))))))
    refine AI (fun hk7=>?_) ?_
    ·have q:=Jf q hk7
     dsimp only [nthO] at q
     refine AI (by decide) (gI q (fun q=>?_))
     refine AI (rE hk7 (by decide)) (AI (fun h=>absurd (hk7.symm.trans h) (by decide)) ?_)
     refine AI (fun h=>absurd (hk7.symm.trans h) (by decide)) ?_
     refine AI (fun _=>?_) (AI (fun h=>absurd (hk7.symm.trans h) (by decide)) TV)
     refine OL (EI ((i64.wrap (i-1)),c2_1,c2_2,(Ft IntKind.u64 (fun p q=>p||| q) c2_3 (u64.wrap ((1:Int)*2 ^ min (Int.toNat (u64.wrap (Int.tmod i (64:Int)))) u64.bits))),c2_4) (AI q (E4 I3 (R3 (AI (R3 TV) (R3 TV))))))
    refine AI (fun hk7=>?_) TV
    have q:=Jf q hk7
    dsimp only [nthO] at q
    refine AI (by decide) (gI q (fun q=>?_))
    refine AI (rE hk7 (by decide)) (AI (fun h=>absurd (hk7.symm.trans h) (by decide)) ?_)
    refine AI (fun h=>absurd (hk7.symm.trans h) (by decide)) ?_
    refine AI (fun h=>absurd (hk7.symm.trans h) (by decide)) ?_
    refine AI (fun _=>?_) TV
    refine OL (EI ((i64.wrap (i-1)),c2_1,c2_2,c2_3,(Ft IntKind.u64 (fun p q=>p||| q) c2_4 (u64.wrap ((1:Int)*2 ^ min (Int.toNat (u64.wrap (Int.tmod i (64:Int)))) u64.bits)))) (AI q (E4 I3 (R3 (AI (R3 TV) (R3 TV))))))
   refine EI ((i64.wrap (i-1)),c2_1,c2_2,c2_3,c2_4) (AI q (E4 I3 (R3 (AI (R3 TV) (R3 TV)))))
  cases sE q
  refine E4 (iuR [2,3]) (AI rfl (AI (R2 TV) (R2 TV)))
 refine AI (OL (OL ?_)) TV
 cases sE q
 refine AI rfl (E4 [] (AI rfl (AJ TV)))
theorem H107:HI C107 107:=hI Tryz.f107 rfl fun x=>V107 x.1 x.2.1 x.2.2.1 x.2.2.2.1 x.2.2.2.2.1 x.2.2.2.2.2
def f78 (n:Int):Option Int:=
 Ey (f83 n) fun r1=>
 Ey (f107 r1.1 r1.2 (0:Int) (0:Int) (0:Int) (32:Int)) fun r2=>
 Ey (f81 r2.1 r2.2.1 r2.2.2.1 r2.2.2.2.1 r2.2.2.2.2) fun r3=>
 some r3
def C78:Con:=⟨Int,Int,0,fun x=>[.dat T1 x],NX,fun x=>f78 x,fun y=>[.dat T1 y],NX,0⟩
theorem V78 n y (q:f78 n=some y):VC Tryz.f78 C78 n y:=by
 unfold f78 at q
 refine OL (OL ?_)
 obtain ⟨r1,h,q⟩:=bE q
 refine OL (cA H83 n h rfl (AI rfl (K0 ?_)))
 obtain ⟨r2,h,q⟩:=bE q
 refine OL (cA H107 (r1.1,r1.2,(0:Int),(0:Int),(0:Int),(32:Int)) h rfl (AI rfl (AI NH (R2 (AJ (AI TV ?_))))))
 obtain ⟨r3,h,q⟩:=bE q
 refine OL (cA H81 (r2.1,r2.2.1,r2.2.2.1,r2.2.2.2.1,r2.2.2.2.2) h rfl (AI NH (R2 (AJ (AI TV ?_)))))
 cases sE q
 refine AI rfl (E4 [] (R2 (AI TV TV)))
theorem H78:HI C78 78:=hI Tryz.f78 rfl fun x=>V78 x
def f105 (neg none_:Bool):Option Int:=
 bif none_ then
 some (0:Int)
 else
 bif neg then
 some (-9223372036854775808:Int)
 else
 some (9223372036854775807:Int)
def C105:Con:=⟨Bool×Bool,Int,0,fun x=>[.dat .bool x.1,.dat .bool x.2],NX,fun x=>f105 x.1 x.2,fun y=>[.dat T1 y],NX,0⟩
theorem V105 neg none_ y (q:f105 neg none_=some y):VC Tryz.f105 C105 (neg,none_) y:=by
 unfold f105 at q
 refine OL (OL (OL (cI q (fun q=>?_) (fun q=>?_))))
 ·cases sE q
  refine OL (AI rfl (E4 [] (R2 (AI TV TV))))
 refine OL (cI q (fun q=>?_) (fun q=>?_))
 ·cases sE q
  refine OL (AI rfl (E4 [] (R2 (AI TV TV))))
 cases sE q
 refine OL (AI rfl (E4 [] (R2 (AI TV TV))))
theorem H105:HI C105 105:=hI Tryz.f105 rfl fun x=>V105 x.1 x.2
def f77 (a b:Int):Option Int:=
 bif (b==0) then
 Ey (f105 (decide (a<0)) (a==0)) fun r1=>
 some r1
 else
 Ey (f83 a) fun r2=>
 Ey (f107 r2.1 r2.2 (0:Int) (0:Int) (0:Int) (32:Int)) fun r3=>
 Ey (f106 r3.1 r3.2.1 r3.2.2.1 r3.2.2.2.1 r3.2.2.2.2 b) fun r4=>
 Ey (f81 r4.1 r4.2.1 r4.2.2.1 r4.2.2.2.1 r4.2.2.2.2) fun r5=>
 some r5
def C77:Con:=⟨F9,Int,0,fun x=>[.dat T1 x.1,.dat T1 x.2],NX,fun x=>f77 x.1 x.2,fun y=>[.dat T1 y],NX,0⟩
theorem V77 a b y (q:f77 a b=some y):VC Tryz.f77 C77 (a,b) y:=by
 unfold f77 at q
 refine OL (OL (OL (cI q (fun q=>?_) (fun q=>?_))))
 ·refine OL ?_
  obtain ⟨r1,h,q⟩:=bE q
  refine OL (cA H105 ((decide (a<0)),(a==0)) h rfl (R2 (K0 ?_)))
  cases sE q
  refine AI rfl (E4 [] (R2 (AI TV TV)))
 refine OL ?_
 obtain ⟨r2,h,q⟩:=bE q
 refine OL (cA H83 a h rfl (AI rfl (K0 ?_)))
 obtain ⟨r3,h,q⟩:=bE q
 refine OL (cA H107 (r2.1,r2.2,(0:Int),(0:Int),(0:Int),(32:Int)) h rfl (AI rfl (AI NH (R2 (AJ (AI TV ?_))))))
 obtain ⟨r4,h,q⟩:=bE q
 refine OL (cA H106 (r3.1,r3.2.1,r3.2.2.1,r3.2.2.2.1,r3.2.2.2.2,b) h rfl (AI rfl (AI NH (R2 (AJ (AI TV ?_))))))
 obtain ⟨r5,h,q⟩:=bE q
 refine OL (cA H81 (r4.1,r4.2.1,r4.2.2.1,r4.2.2.2.1,r4.2.2.2.2) h rfl (AI NH (R2 (AJ (AI TV ?_)))))
 cases sE q
 refine AI rfl (E4 [] (R2 (AI TV TV)))
theorem H77:HI C77 77:=hI Tryz.f77 rfl fun x=>V77 x.1 x.2
def f79 (a:Int):Option Int:=
 Ey (f56 (0:Int) a) fun r1=>
 some r1
def C79:Con:=⟨Int,Int,0,fun x=>[.dat T1 x],NX,fun x=>f79 x,fun y=>[.dat T1 y],NX,0⟩
theorem V79 a y (q:f79 a=some y):VC Tryz.f79 C79 a y:=by
 unfold f79 at q
 refine OL (OL ?_)
 obtain ⟨r1,h,q⟩:=bE q
 refine OL (cA H56 ((0:Int),a) h rfl (R2 (K0 ?_)))
 cases sE q
 refine AI rfl (E4 [] (R2 (AI TV TV)))
theorem H79:HI C79 79:=hI Tryz.f79 rfl fun x=>V79 x
def f52 (kind x_:Int):Option Int:=
 bif (kind==1) then
 bif (decide (x_<0)) then
 some (0:Int)
 else
 some x_
 else
 bif (kind==2) then
 bif (decide (x_>0)) then
 some x_
 else
 Ey (f78 (8:Int)) fun r1=>
 Ey (f77 x_ r1) fun r2=>
 some r2
 else
 bif (kind==3) then
 bif (decide (x_>4294967296)) then
 some (4294967296:Int)
 else
 bif (decide (x_<(-4294967296:Int))) then
 some (-4294967296:Int)
 else
 some x_
 else
 bif (kind==4) then
 bif (decide (x_<0)) then
 Ey (f79 x_) fun r3=>
 some r3
 else
 some x_
 else
 Ey (f78 (2:Int)) fun r4=>
 Ey (f77 x_ r4) fun r5=>
 Ey (f55 r5 (2147483648:Int)) fun r6=>
 bif (decide (r6<0)) then
 some (0:Int)
 else
 bif (decide (r6>4294967296)) then
 some (4294967296:Int)
 else
 some r6
def C52:Con:=⟨F9,Int,0,fun x=>[.dat T1 x.1,.dat T1 x.2],NX,fun x=>f52 x.1 x.2,fun y=>[.dat T1 y],NX,0⟩
theorem V52 kind x_ y (q:f52 kind x_=some y):VC Tryz.f52 C52 (kind,x_) y:=by
 unfold f52 at q
 refine OL (OL (OL (OL (cI q (fun q=>?_) (fun q=>?_)))))
 ·refine OL (OL (cI q (fun q=>?_) (fun q=>?_)))
  ·cases sE q
   refine OL (AI rfl (E4 [] (R2 (AI TV TV))))
  cases sE q
  refine OL (AI rfl (E4 [] (R2 (AI TV TV))))
 refine OL (cI q (fun q=>?_) (fun q=>?_))
 ·refine OL (OL (cI q (fun q=>?_) (fun q=>?_)))
  ·cases sE q
   refine OL (AI rfl (E4 [] (R2 (AI TV TV))))
  refine OL ?_
  obtain ⟨r1,h,q⟩:=bE q
  refine OL (cA H78 (8:Int) h rfl (AI rfl (K0 ?_)))
  obtain ⟨r2,h,q⟩:=bE q
  refine OL (cA H77 (x_,r1) h rfl (R2 (K0 ?_)))
  cases sE q
  refine AI rfl (E4 [] (R2 (AI TV TV)))
 refine OL (cI q (fun q=>?_) (fun q=>?_))
 ·refine OL (OL (cI q (fun q=>?_) (fun q=>?_)))
  ·cases sE q
   refine OL (AI rfl (E4 [] (R2 (AI TV TV))))
  refine OL (OL (cI q (fun q=>?_) (fun q=>?_)))
  ·cases sE q
   refine OL (AI rfl (E4 [] (R2 (AI TV TV))))
  cases sE q
  refine OL (AI rfl (E4 [] (R2 (AI TV TV))))
 refine OL (cI q (fun q=>?_) (fun q=>?_))
 ·refine OL (OL (cI q (fun q=>?_) (fun q=>?_)))
  ·refine OL ?_
   obtain ⟨r3,h,q⟩:=bE q
   refine OL (cA H79 x_ h rfl (AI rfl (K0 ?_)))
   cases sE q
   refine AI rfl (E4 [] (R2 (AI TV TV)))
  cases sE q
  refine OL (AI rfl (E4 [] (R2 (AI TV TV))))
 refine OL ?_
 obtain ⟨r4,h,q⟩:=bE q
 refine OL (cA H78 (2:Int) h rfl (AI rfl (K0 ?_)))
 obtain ⟨r5,h,q⟩:=bE q
 refine OL (cA H77 (x_,r4) h rfl (R2 (K0 ?_)))
 obtain ⟨r6,h,q⟩:=bE q
 refine OL (cA H55 (r5,(2147483648:Int)) h rfl (R2 (K0 (OL (OL (cI q (fun q=>?_) (fun q=>?_)))))))
 ·cases sE q
  refine OL (AI rfl (E4 [] (R2 (AI TV TV))))
 refine OL (OL (cI q (fun q=>?_) (fun q=>?_)))
 ·cases sE q
  refine OL (AI rfl (E4 [] (R2 (AI TV TV))))
 cases sE q
 refine OL (AI rfl (E4 [] (R2 (AI TV TV))))
theorem H52:HI C52 52:=hI Tryz.f52 rfl fun x=>V52 x.1 x.2
def f29_j3 (kind:Int) (t:Fy):Option Bool:=
 bif (decide (kind<1)) then
 some true
 else
 bif (decide (kind>5)) then
 some true
 else
 Ey (f51 (t.1,t.2)) fun r6=>
 some (!r6)
def f29_j2 (kind:Int) (t:Fy):Option (Sum Unit Unit):=
 Ey (f29_j3 kind t) fun z5=>
 bif z5 then
 some (Sum.inr ())
 else
 some (Sum.inl ())
def f29_l4 (kind:Int) (t:Fy) (go:K4→Option LI) (i:Int) (l4:LI):Option LI:=
 bif (decide (i<l4.length)) then
 E9 (0≤i∧i<t.2.length)<|
 Ey (f52 kind (rd 0 t.2 i)) fun q7_9=>
 E9 (0≤i∧i<l4.length)<|
 go ((i64.wrap (i+1)),(List.set l4 (Int.toNat i) q7_9))
 else
 some l4
def f29 (kind:Int) (t:Fy):Option Gz:=
 Ey (f29_j2 kind t) fun z3=>
 Fx z3 (fun z3a=>
 Ey (f28 t.1 (0:Int)) fun r7=>
 Ey (Fq (fun go x=>f29_l4 kind t go x.1 x.2) Fv ((0:Int),r7.2)) fun z8=>
 some ((0:Int),r7.1,z8)) (fun z3b=>
 some ((1:Int),[],[]))
def C29:Con:=⟨Gz,Gz,0,fun x=>[.dat T1 x.1,.dat T9 x.2],NX,fun x=>f29 x.1 x.2,fun y=>[.raw true [(.osl 0),(.osl 1)],.dat T1 y.1],fun y=>[(0,.arr 3 T1 y.2.1),(1,.arr 57 T1 y.2.2)],2⟩
theorem V29 kind t y (q:f29 kind t=some y):VC Tryz.f29 C29 (kind,t) y:=by
 unfold f29 at q
 refine OL ?_
 obtain ⟨z3,hz3,q⟩:=bE q
 let e0:LE:=fun zz=>(0,.dat T1 kind)::(3,P0 0 0)::(4,P0 1 0)::zz
 let h1:LH:=fun zz=>(0,.cells [(.d T6 t.1),(.d T6 t.2)])::(1,.cells [N0,N0])::zz
 refine OQ ⟨Sum.elim (fun z3a=>[(0,⟨e0 [],h1 [],2⟩)]) (fun z3b=>[(1,⟨[(4,P0 0 0),(5,D0 1)],[(0,.cells [N0,N0])],1⟩)]) z3,?_,?_⟩
 ·have q:=hz3
  clear hz3
  unfold f29_j2 at q
  obtain ⟨z5,hz5,q⟩:=bE q
  refine OQ ⟨[(0,⟨e0 [(18,.dat .bool z5)],h1 [],2⟩)],?_,?_⟩
  ·have q:=hz5
   clear hz5
   unfold f29_j3 at q
   refine cN q (fun q=>?_) (fun q=>?_)
   ·refine gY (cF (cN q (fun q=>?_) (fun q=>?_)))
    ·refine gY ?_
     obtain ⟨r6,h,q⟩:=bE q
     refine OL (cA H51 (t.1,t.2) h rfl (R2 (K0 (gY (cF ?_)))))
     cases sE q
     refine E4 I2 (R3 (AI (R2 TV) (R2 TV)))
    refine gN (gN (cT ?_))
    cases sE q
    refine E4 I2 (R3 (AI (R2 TV) (R2 TV)))
   refine gN (cT (gN (gN (gN (cT ?_)))))
   cases sE q
   refine E4 I2 (R3 (AI (R2 TV) (R2 TV)))
  refine AI (cI q (fun q=>?_) (fun q=>?_)) TV
  ·refine OL (OL ?_)
   cases sE q
   refine E4 (iuR [2]) (R2 (AJ (AI rfl TV)))
  cases sE q
  refine E4 I2 (R2 (AI (R2 TV) (R2 TV)))
 rcases z3 with z3a | z3b
 ·dsimp only [Fx] at q
  refine AI (OL ?_) TV
  obtain ⟨r7,h,q⟩:=bE q
  refine OL (cA H28 (t.1,(0:Int)) h rfl (R2 (K0 (OL (OL (OL ?_))))))
  obtain ⟨z8,h,q⟩:=bE q
  refine lJ h (fun x=>⟨e0 [(6,P0 2 0),(7,.dat T1 x.1)],h1 [(2,.cells [(.osl 3),(.osl 4)]),(3,.arr 3 T1 r7.1),(4,.arr 57 T1 x.2)],5⟩) (fun z=>[(2,⟨[(4,P0 0 0),(6,P0 1 0)],[(0,.cells [N0,N0]),(1,.cells [(.osl 2),(.osl 3)]),(2,.arr 3 T1 r7.1),(3,.arr 57 T1 z)],4⟩)]) (E4 (iuR [1,2,5,3,4]) (R3 (AI (R3 TV) (R5 TV)))) (fun m=>F3 (fun i=>fun l4 z q=>?_)) ?_
  ·have q:f29_l4 kind t _ i l4=some z:=q
   unfold f29_l4 at q
   refine OL (OL (cI q (fun q=>?_) (fun q=>?_)))
   ·refine OL (EI (tU 0 9 (.alt 9 (.take 10 (.alt 11 .done .done)) .done)) (EI [] (EI [] (AI rfl (gI q (fun q=>?_))))))
    refine AI TV ?_
    obtain ⟨q7_9,h,q⟩:=bE q
    refine OL (cA H52 (kind,(rd 0 t.2 i)) h rfl (R2 (K0 (gI q (fun q=>?_)))))
    refine AI TV (OL (EI ((i64.wrap (i+1)),(List.set l4 (Int.toNat i) q7_9)) (AI q (E4 I5 (R3 (AI (R3 TV) (R5 TV)))))))
   cases sE q
   refine E4 (iuR [2,3,4,5]) (AI rfl (AI (R2 TV) (R4 TV)))
  refine AI (OL (OL ?_)) TV
  cases sE q
  refine AI rfl (E4 (iuR [3,4]) (R2 (AJ (R2 TV))))
 dsimp only [Fx] at q
 refine AI ?_ TV
 cases sE q
 refine AI rfl (E4 (iuR [0,0]) (R2 (AJ (R2 TV))))
theorem H29:HI C29 29:=hI Tryz.f29 rfl fun x=>V29 x.1 x.2
def f102_j3 (a k:Fy) (step:Int):Option Bool:=
 Ey (f51 (a.1,a.2)) fun r9=>
 bif (!r9) then
 some true
 else
 Ey (f51 (k.1,k.2)) fun r10=>
 bif (!r10) then
 some true
 else
 bif (decide (step<1)) then
 some true
 else
 some (decide (step>64))
def f102_j2 (a k:Fy) (step:Int):Option (Sum Unit Unit):=
 Ey (f102_j3 a k step) fun z8=>
 bif z8 then
 some (Sum.inr ())
 else
 some (Sum.inl ())
def f102_j6 (a k:Fy):Option Bool:=
 bif ((a.1.length:Int) != 2) then
 some true
 else
 bif ((k.1.length:Int) != 3) then
 some true
 else
 E9 (0≤(0:Int)∧0<(a.1.length:Int))<|
 E9 (0≤(1:Int)∧1<(k.1.length:Int))<|
 bif ((rd 0 a.1 0) != (rd 0 k.1 1)) then
 some true
 else
 E9 (0≤(2:Int)∧2<(k.1.length:Int))<|
 E9 (0≤(1:Int)∧1<(a.1.length:Int))<|
 some (decide ((rd 0 k.1 2)>(rd 0 a.1 1)))
def f102_j5 (a k:Fy):Option (Sum Unit Unit):=
 Ey (f102_j6 a k) fun z13=>
 bif z13 then
 some (Sum.inr ())
 else
 some (Sum.inl ())
def f102_l46 (a k:Fy) (step i j x_:Int) (go:(Int×PTz7)→Option PTz7) (y_:Int) (c4_0_2:Bool) (c4_1_2 c4_2_2 c4_3_2 c4_4_2:Int):Option PTz7:=
 bif (decide (y_<(rd 0 k.1 2))) then
 E9 (0≤(i64.wrap ((i64.wrap ((i64.wrap (x_*(rd 0 a.1 1)))+(i64.wrap (j*step))))+y_))∧(i64.wrap ((i64.wrap ((i64.wrap (x_*(rd 0 a.1 1)))+(i64.wrap (j*step))))+y_))<a.2.length)<|
 E9 (0≤(i64.wrap ((i64.wrap ((i64.wrap ((i64.wrap (i*(rd 0 a.1 0)))+x_))*(rd 0 k.1 2)))+y_))∧(i64.wrap ((i64.wrap ((i64.wrap ((i64.wrap (i*(rd 0 a.1 0)))+x_))*(rd 0 k.1 2)))+y_))<k.2.length)<|
 Ey (f86 (rd 0 a.2 (i64.wrap ((i64.wrap ((i64.wrap (x_*(rd 0 a.1 1)))+(i64.wrap (j*step))))+y_))) (rd 0 k.2 (i64.wrap ((i64.wrap ((i64.wrap ((i64.wrap (i*(rd 0 a.1 0)))+x_))*(rd 0 k.1 2)))+y_)))) fun q23_27=>
 Ey (f82 c4_0_2 c4_1_2 c4_2_2 c4_3_2 c4_4_2 q23_27.1 q23_27.2.1 q23_27.2.2.1 q23_27.2.2.2.1 q23_27.2.2.2.2) fun q23_28=>
 go ((i64.wrap (y_+1)),q23_28.1,q23_28.2.1,q23_28.2.2.1,q23_28.2.2.2.1,q23_28.2.2.2.2)
 else
 some (c4_0_2,c4_1_2,c4_2_2,c4_3_2,c4_4_2)
def f102_l45 (a k:Fy) (step i j:Int) (go:(Int×PTz7)→Option PTz7) (x_:Int) (c4_0:Bool) (c4_1 c4_2 c4_3 c4_4:Int):Option PTz7:=
 bif (decide (x_<(rd 0 a.1 0))) then
 Ey (Fq (fun go x=>f102_l46 a k step i j x_ go x.1 x.2.1 x.2.2.1 x.2.2.2.1 x.2.2.2.2.1 x.2.2.2.2.2) Fv ((0:Int),c4_0,c4_1,c4_2,c4_3,c4_4)) fun z54=>
 go ((i64.wrap (x_+1)),z54.1,z54.2.1,z54.2.2.1,z54.2.2.2.1,z54.2.2.2.2)
 else
 some (c4_0,c4_1,c4_2,c4_3,c4_4)
def f102_l42 (a k:Fy) (step i:Int) (go:K4→Option LI) (j:Int) (l5_2:LI):Option LI:=
 bif (decide (j<(i64.wrap ((i64.wrap (Int.tdiv (i64.wrap ((rd 0 a.1 1)-(rd 0 k.1 2))) step))+1)))) then
 Ey (Fq (fun go x=>f102_l45 a k step i j go x.1 x.2.1 x.2.2.1 x.2.2.2.1 x.2.2.2.2.1 x.2.2.2.2.2) Fv ((0:Int),false,(0:Int),(0:Int),(0:Int),(0:Int))) fun z53=>
 Ey (f85 z53.1 z53.2.1 z53.2.2.1 z53.2.2.2.1 z53.2.2.2.2 (32:Int)) fun q24_8=>
 Ey (f81 q24_8.1 q24_8.2.1 q24_8.2.2.1 q24_8.2.2.2.1 q24_8.2.2.2.2) fun q24_9=>
 E9 (0≤(i64.wrap ((i64.wrap (i*(i64.wrap ((i64.wrap (Int.tdiv (i64.wrap ((rd 0 a.1 1)-(rd 0 k.1 2))) step))+1))))+j))∧(i64.wrap ((i64.wrap (i*(i64.wrap ((i64.wrap (Int.tdiv (i64.wrap ((rd 0 a.1 1)-(rd 0 k.1 2))) step))+1))))+j))<l5_2.length)<|
 go ((i64.wrap (j+1)),(List.set l5_2 (Int.toNat (i64.wrap ((i64.wrap (i*(i64.wrap ((i64.wrap (Int.tdiv (i64.wrap ((rd 0 a.1 1)-(rd 0 k.1 2))) step))+1))))+j))) q24_9))
 else
 some l5_2
def f102_l33 (a k:Fy) (step:Int) (go:K4→Option LI) (i:Int) (l5:LI):Option LI:=
 bif (decide (i<(rd 0 k.1 0))) then
 Ey (Fq (fun go x=>f102_l42 a k step i go x.1 x.2) Fv ((0:Int),l5)) fun z50=>
 go ((i64.wrap (i+1)),z50)
 else
 some l5
def f102 (a k:Fy) (step:Int):Option Gz:=
 Ey (f102_j2 a k step) fun z5=>
 Fx z5 (fun z5a=>
 Ey (f102_j5 a k) fun z12=>
 Fx z12 (fun z12a=>
 E9 (0≤(0:Int)∧0<(a.1.length:Int))<|
 E9 (0≤(1:Int)∧1<(a.1.length:Int))<|
 E9 (0≤(0:Int)∧0<(k.1.length:Int))<|
 E9 (0≤(2:Int)∧2<(k.1.length:Int))<|
 E9 (step≠0)<|
 Ey (f76 ([(rd 0 k.1 0),(i64.wrap ((i64.wrap (Int.tdiv (i64.wrap ((rd 0 a.1 1)-(rd 0 k.1 2))) step))+1))])) fun q5_19=>
 bif (!q5_19) then
 some ((2:Int),[],[])
 else
 Ey (f28 ([(rd 0 k.1 0),(i64.wrap ((i64.wrap (Int.tdiv (i64.wrap ((rd 0 a.1 1)-(rd 0 k.1 2))) step))+1))]) (0:Int)) fun r14=>
 Ey (Fq (fun go x=>f102_l33 a k step go x.1 x.2) Fv ((0:Int),r14.2)) fun z41=>
 some ((0:Int),r14.1,z41)) (fun z12b=>
 some ((4:Int),[],[]))) (fun z5b=>
 some ((1:Int),[],[]))
def C102:Con:=⟨Fy×Fy×Int,Gz,0,fun x=>[.dat T9 x.1,.dat T9 x.2.1,.dat T1 x.2.2],NX,fun x=>f102 x.1 x.2.1 x.2.2,fun y=>[.raw true [(.osl 0),(.osl 1)],.dat T1 y.1],fun y=>[(0,.arr 3 T1 y.2.1),(1,.arr 57 T1 y.2.2)],2⟩
theorem V102 a k step y (q:f102 a k step=some y):VC Tryz.f102 C102 (a,k,step) y:=by
 unfold f102 at q
 refine OL ?_
 obtain ⟨z5,hz5,q⟩:=bE q
 let e0:LE:=fun zz=>(2,.dat T1 step)::(3,P0 0 0)::(4,P0 1 0)::(6,P0 2 0)::zz
 let h1:LH:=fun zz=>(0,.cells [(.d T6 a.1),(.d T6 a.2)])::(1,.cells [(.d T6 k.1),(.d T6 k.2)])::(2,.cells [N0,N0])::zz
 refine OQ ⟨Sum.elim (fun z5a=>[(0,⟨e0 [],h1 [],3⟩)]) (fun z5b=>[(1,⟨[(6,P0 0 0),(7,D0 1)],[(0,.cells [N0,N0])],1⟩)]) z5,?_,?_⟩
 ·have q:=hz5
  clear hz5
  unfold f102_j2 at q
  obtain ⟨z8,hz8,q⟩:=bE q
  refine OQ ⟨[(0,⟨e0 [(34,.dat .bool z8)],h1 [],3⟩)],?_,?_⟩
  ·have q:=hz8
   clear hz8
   unfold f102_j3 at q
   obtain ⟨r9,h,q⟩:=bE q
   refine OL (cA H51 (a.1,a.2) h rfl (R2 (K0 (cN q (fun q=>?_) (fun q=>?_)))))
   ·refine gY ?_
    obtain ⟨r10,h,q⟩:=bE q
    refine OL (cA H51 (k.1,k.2) h rfl (R2 (K0 (gY (cF (cN q (fun q=>?_) (fun q=>?_)))))))
    ·refine gY (cF (cN q (fun q=>?_) (fun q=>?_)))
     ·refine gY (cF ?_)
      cases sE q
      refine E4 I3 (R3 (AI (R3 TV) (R3 TV)))
     refine gN (cT ?_)
     cases sE q
     refine E4 I3 (R3 (AI (R3 TV) (R3 TV)))
    refine gN (cT (gN (gN (cT ?_))))
    cases sE q
    refine E4 I3 (R3 (AI (R3 TV) (R3 TV)))
   refine gN (gN (cT (gN (gN (cT (gN (gN (cT ?_))))))))
   cases sE q
   refine E4 I3 (R3 (AI (R3 TV) (R3 TV)))
  refine AI (cI q (fun q=>?_) (fun q=>?_)) TV
  ·refine OL (OL ?_)
   cases sE q
   refine E4 (iuR [3]) (R2 (AJ (AI rfl TV)))
  cases sE q
  refine E4 I3 (R2 (AI (R3 TV) (R3 TV)))
 rcases z5 with z5a | z5b
 ·dsimp only [Fx] at q
  refine AI ?_ TV
  obtain ⟨z12,hz12,q⟩:=bE q
  refine OQ ⟨Sum.elim (fun z12a=>[(0,⟨e0 [],h1 [],3⟩)]) (fun z12b=>[(1,⟨[(6,P0 0 0),(7,D0 4)],[(0,.cells [N0,N0])],1⟩)]) z12,?_,?_⟩
  ·have q:=hz12
   clear hz12
   unfold f102_j5 at q
   obtain ⟨z13,hz13,q⟩:=bE q
   refine OQ ⟨[(0,⟨e0 [(67,.dat .bool z13)],h1 [],3⟩)],?_,?_⟩
   ·have q:=hz13
    clear hz13
    unfold f102_j6 at q
    refine EI (tU 0 32 .done) (EI [] (EI [] (AI rfl (cN q (fun q=>?_) (fun q=>?_)))))
    ·refine gY (gY (gY (cF (cN q (fun q=>?_) (fun q=>?_)))))
     ·refine gY (gY (gI q (fun q=>?_)))
      refine gY (gY (gY (gY (gI q (fun q=>?_)))))
      refine gY (gY (cF (cN q (fun q=>?_) (fun q=>?_))))
      ·refine gY (gY (gI q (fun q=>?_)))
       refine gY (gY (gY (gY (gI q (fun q=>?_)))))
       refine gY (gY (cF ?_))
       cases sE q
       refine E4 I3 (R3 (AI (R3 TV) (R3 TV)))
      refine gN (gN (gN (gN (gN (gN (gN (gN (cT ?_))))))))
      cases sE q
      refine E4 I3 (R3 (AI (R3 TV) (R3 TV)))
     refine gN (gN (gN (gN (gN (gN (gN (gN (cT (gN (gN (gN (gN (gN (gN (gN (gN (gN (cT ?_))))))))))))))))))
     cases sE q
     refine E4 I3 (R3 (AI (R3 TV) (R3 TV)))
    refine gN (gN (gN (cT (gN (gN (gN (gN (gN (gN (gN (gN (gN (cT (gN (gN (gN (gN (gN (gN (gN (gN (gN (cT ?_)))))))))))))))))))))))
    cases sE q
    refine E4 I3 (R3 (AI (R3 TV) (R3 TV)))
   refine AI (cI q (fun q=>?_) (fun q=>?_)) TV
   ·refine OL (OL ?_)
    cases sE q
    refine E4 (iuR [3]) (R2 (AJ (AI rfl TV)))
   cases sE q
   refine E4 I3 (R2 (AI (R3 TV) (R3 TV)))
  rcases z12 with z12a | z12b
  ·dsimp only [Fx] at q
   refine AI (OL (EI (tU 0 20 .done) (EI [] (EI [] (AI rfl (gI q (fun q=>?_))))))) TV
   refine gI q (fun q=>?_)
   refine gI q (fun q=>?_)
   refine gI q (fun q=>?_)
   refine OL (gI q (fun q=>?_))
   refine OL (OL (OL ?_))
   obtain ⟨q5_19,h,q⟩:=bE q
   refine OL (cD H76 [(rd 0 k.1 0),(i64.wrap ((i64.wrap (Int.tdiv (i64.wrap ((rd 0 a.1 1)-(rd 0 k.1 2))) step))+1))] h rfl (AI rfl (AI (fun _=>rfl) (R2 (AI TV (AI TV (cI q (fun q=>?_) (fun q=>?_))))))))
   ·refine OL (OL ?_)
    cases sE q
    refine AI rfl (E4 (iuR [0,0]) (R2 (AJ (R2 TV))))
   refine OL (OL ?_)
   obtain ⟨r14,h,q⟩:=bE q
   refine OL (cD H28 ([(rd 0 k.1 0),(i64.wrap ((i64.wrap (Int.tdiv (i64.wrap ((rd 0 a.1 1)-(rd 0 k.1 2))) step))+1))],(0:Int)) h rfl (R2 (AI (fun _=>rfl) (R2 (AI TV (AI TV (OL (OL (OL ?_)))))))))
   obtain ⟨z41,hz41,q⟩:=bE q
   let e2:LE:=fun zz=>e0 ((8,.dat T1 (rd 0 a.1 0))::(9,.dat T1 (rd 0 a.1 1))::(10,.dat T1 (rd 0 k.1 0))::(11,.dat T1 (rd 0 k.1 2))::(12,.dat T1 (i64.wrap ((i64.wrap (Int.tdiv (i64.wrap ((rd 0 a.1 1)-(rd 0 k.1 2))) step))+1)))::(13,P0 3 0)::zz)
   let h3:LH:=fun zz=>h1 ((3,.cells [(.osl 4),(.osl 5)])::(4,.arr 3 T1 r14.1)::zz)
   refine lJ hz41 (fun x=>⟨e2 [(14,.dat T1 x.1)],h3 [(5,.arr 57 T1 x.2)],6⟩) (fun z=>[(2,⟨[(6,P0 0 0),(13,P0 1 0)],[(0,.cells [N0,N0]),(1,.cells [(.osl 2),(.osl 3)]),(2,.arr 3 T1 r14.1),(3,.arr 57 T1 z)],4⟩)]) (E4 (iuR [1,2,3,8,6,7]) (R8 (AI (R4 TV) (R6 TV)))) (fun m=>F3 (fun i=>fun l5 z q=>?_)) ?_
   ·have q:f102_l33 a k step _ i l5=some z:=q
    unfold f102_l33 at q
    refine OL (OL (cI q (fun q=>?_) (fun q=>?_)))
    ·refine OL (OL ?_)
     obtain ⟨z50,hz50,q⟩:=bE q
     let e4:LE:=fun zz=>e2 ((14,.dat T1 i)::zz)
     refine lJ hz50 (fun x=>⟨e4 [(15,.dat T1 x.1)],h3 [(5,.arr 57 T1 x.2)],6⟩) (fun z=>[(4,⟨e4 [],h3 [(5,.arr 57 T1 z)],6⟩)]) (E4 I6 (R9 (AI (R4 TV) (R6 TV)))) (fun m=>F3 (fun j=>fun l5_2 z q=>?_)) ?_
     ·have q:f102_l42 a k step i _ j l5_2=some z:=q
      unfold f102_l42 at q
      refine OL (OL (cI q (fun q=>?_) (fun q=>?_)))
      ·refine OL (OL (OL (OL (OL ?_))))
       obtain ⟨z53,hz53,q⟩:=bE q
       let e5:LE:=fun zz=>e4 ((15,.dat T1 j)::(16,P0 4 0)::zz)
       let h6:LH:=fun zz=>h1 ((3,.cells [(.osl 5),(.osl 6)])::zz)
       refine lJ hz53 (fun x=>⟨e5 [(17,.dat T1 x.1)],h6 [(4,.cells [(.d .bool x.2.1),(.d T10 x.2.2.1),(.d T10 x.2.2.2.1),(.d T10 x.2.2.2.2.1),(.d T10 x.2.2.2.2.2)]),(5,.arr 3 T1 r14.1),(6,.arr 57 T1 l5_2)],7⟩) (fun z=>[(6,⟨e5 [],h6 [(4,.cells [(.d .bool z.1),(.d T10 z.2.1),(.d T10 z.2.2.1),(.d T10 z.2.2.2.1),(.d T10 z.2.2.2.2)]),(5,.arr 3 T1 r14.1),(6,.arr 57 T1 l5_2)],7⟩)]) (E4 (iuR [1,2,3,4,7,5,6]) (R10 (AI (R5 TV) (R7 TV)))) (fun m=>F3 (fun x_=>F3 (fun c4_0=>F3 (fun c4_1=>F3 (fun c4_2=>F3 (fun c4_3=>fun c4_4 z q=>?_)))))) ?_
       ·have q:f102_l45 a k step i j _ x_ c4_0 c4_1 c4_2 c4_3 c4_4=some z:=q
        unfold f102_l45 at q
        refine OL (OL (cI q (fun q=>?_) (fun q=>?_)))
        ·refine OL (OL ?_)
         obtain ⟨z54,h,q⟩:=bE q
         refine lJ h (fun x=>⟨e5 [(17,.dat T1 x_),(18,.dat T1 x.1)],h6 [(4,.cells [(.d .bool x.2.1),(.d T10 x.2.2.1),(.d T10 x.2.2.2.1),(.d T10 x.2.2.2.2.1),(.d T10 x.2.2.2.2.2)]),(5,.arr 3 T1 r14.1),(6,.arr 57 T1 l5_2)],7⟩) (fun z=>[(8,⟨e5 [(17,.dat T1 x_)],h6 [(4,.cells [(.d .bool z.1),(.d T10 z.2.1),(.d T10 z.2.2.1),(.d T10 z.2.2.2.1),(.d T10 z.2.2.2.2)]),(5,.arr 3 T1 r14.1),(6,.arr 57 T1 l5_2)],7⟩)]) (E4 I7 (R11 (AI (R5 TV) (R7 TV)))) (fun m=>F3 (fun y_=>F3 (fun c4_0_2=>F3 (fun c4_1_2=>F3 (fun c4_2_2=>F3 (fun c4_3_2=>fun c4_4_2 z q=>?_)))))) ?_
         ·have q:f102_l46 a k step i j x_ _ y_ c4_0_2 c4_1_2 c4_2_2 c4_3_2 c4_4_2=some z:=q
          unfold f102_l46 at q
          refine OL (OL (cI q (fun q=>?_) (fun q=>?_)))
          ·refine OL (EI (tU 0 27 (.alt 27 (.alt 28 (.alt 29 .done .done) .done) .done)) (EI [(29,[4])] (EI [] (AI rfl (gI q (fun q=>?_))))))
           refine gI q (fun q=>?_)
           refine AI TV ?_
           obtain ⟨q23_27,h,q⟩:=bE q
           refine OL (cA H86 ((rd 0 a.2 (i64.wrap ((i64.wrap ((i64.wrap (x_*(rd 0 a.1 1)))+(i64.wrap (j*step))))+y_))),(rd 0 k.2 (i64.wrap ((i64.wrap ((i64.wrap ((i64.wrap (i*(rd 0 a.1 0)))+x_))*(rd 0 k.1 2)))+y_)))) h rfl (R2 (K0 (AI TV ?_))))
           obtain ⟨q23_28,h,q⟩:=bE q
           refine OL (cA H82 (c4_0_2,c4_1_2,c4_2_2,c4_3_2,c4_4_2,q23_27.1,q23_27.2.1,q23_27.2.2.1,q23_27.2.2.2.1,q23_27.2.2.2.2) h rfl (AI NH (R2 (AI (R2 TV) (AI TV (AI TV (OL (EI ((i64.wrap (y_+1)),q23_28.1,q23_28.2.1,q23_28.2.2.1,q23_28.2.2.2.1,q23_28.2.2.2.2) (AI q (E4 I7 (R11 (AI (R5 TV) (R7 TV)))))))))))))
          cases sE q
          refine E4 I7 (R10 (AI (R5 TV) (R7 TV)))
         refine AI (EI ((i64.wrap (x_+1)),z54.1,z54.2.1,z54.2.2.1,z54.2.2.2.1,z54.2.2.2.2) (AI q (E4 I7 (R10 (AI (R5 TV) (R7 TV)))))) TV
        cases sE q
        refine E4 I7 (R9 (AI (R5 TV) (R7 TV)))
       refine AI (EI (tU 0 8 (.alt 8 (.alt 9 (.take 10 (.alt 11 .done .done)) .done) .done)) (EI [] (EI [] (AI rfl (AI TV ?_))))) TV
       obtain ⟨q24_8,h,q⟩:=bE q
       refine OL (cA H85 (z53.1,z53.2.1,z53.2.2.1,z53.2.2.2.1,z53.2.2.2.2,(32:Int)) h rfl (AI rfl (AI NH (R2 (AJ (AI TV (AI TV ?_)))))))
       obtain ⟨q24_9,h,q⟩:=bE q
       refine OL (cA H81 (q24_8.1,q24_8.2.1,q24_8.2.2.1,q24_8.2.2.2.1,q24_8.2.2.2.2) h rfl (AI NH (R2 (AJ (AI TV (gI q (fun q=>?_)))))))
       refine AI TV (OL (EI ((i64.wrap (j+1)),(List.set l5_2 (Int.toNat (i64.wrap ((i64.wrap (i*(i64.wrap ((i64.wrap (Int.tdiv (i64.wrap ((rd 0 a.1 1)-(rd 0 k.1 2))) step))+1))))+j))) q24_9)) (AI q (E4 (iuR [1,2,3,4,6,7]) (R9 (AI (R4 TV) (R6 TV)))))))
      cases sE q
      refine E4 I6 (R8 (AI (R4 TV) (R6 TV)))
     refine AI (EI ((i64.wrap (i+1)),z50) (AI q (E4 I6 (R8 (AI (R4 TV) (R6 TV)))))) TV
    cases sE q
    refine E4 (iuR [3,4,5,6]) (AI rfl (AI (R2 TV) (R4 TV)))
   refine AI (OL (OL ?_)) TV
   cases sE q
   refine AI rfl (E4 (iuR [3,4]) (R2 (AJ (R2 TV))))
  dsimp only [Fx] at q
  refine AI ?_ TV
  cases sE q
  refine AI rfl (E4 (iuR [0,0]) (R2 (AJ (R2 TV))))
 dsimp only [Fx] at q
 refine AI ?_ TV
 cases sE q
 refine AI rfl (E4 (iuR [0,0]) (R2 (AJ (R2 TV))))
theorem H102:HI C102 102:=hI Tryz.f102 rfl fun x=>V102 x.1 x.2.1 x.2.2
def f103_j3 (a:Fy) (w:Int):Option Bool:=
 bif (decide (w<1)) then
 some true
 else
 E9 (0≤(1:Int)∧1<(a.1.length:Int))<|
 some (decide (w>(rd 0 a.1 1)))
def f103_j2 (a:Fy) (w:Int):Option (Sum Unit Unit):=
 Ey (f103_j3 a w) fun z4=>
 bif z4 then
 some (Sum.inr ())
 else
 some (Sum.inl ())
def f103_l16 (a:Fy) (w x_ j:Int) (go:F9→Option Int) (best y_:Int):Option Int:=
 bif (decide (y_<w)) then
 E9 (0≤(i64.wrap ((i64.wrap ((i64.wrap (x_*(rd 0 a.1 1)))+(i64.wrap (j*w))))+y_))∧(i64.wrap ((i64.wrap ((i64.wrap (x_*(rd 0 a.1 1)))+(i64.wrap (j*w))))+y_))<a.2.length)<|
 E9 (0≤best∧best<a.2.length)<|
 bif (decide ((rd 0 a.2 (i64.wrap ((i64.wrap ((i64.wrap (x_*(rd 0 a.1 1)))+(i64.wrap (j*w))))+y_)))>(rd 0 a.2 best))) then
 go ((i64.wrap ((i64.wrap ((i64.wrap (x_*(rd 0 a.1 1)))+(i64.wrap (j*w))))+y_)),(i64.wrap (y_+1)))
 else
 go (best,(i64.wrap (y_+1)))
 else
 some best
def f103_l15 (a:Fy) (w x_:Int) (go:Gz→Option Fy) (j:Int) (l3_2 l5_2:LI):Option Fy:=
 bif (decide (j<(i64.wrap (Int.tdiv (rd 0 a.1 1) w)))) then
 Ey (Fq (fun go x=>f103_l16 a w x_ j go x.1 x.2) Fv ((i64.wrap ((i64.wrap (x_*(rd 0 a.1 1)))+(i64.wrap (j*w)))),(1:Int))) fun z17=>
 E9 (0≤z17∧z17<a.2.length)<|
 E9 (0≤(i64.wrap ((i64.wrap (x_*(i64.wrap (Int.tdiv (rd 0 a.1 1) w))))+j))∧(i64.wrap ((i64.wrap (x_*(i64.wrap (Int.tdiv (rd 0 a.1 1) w))))+j))<l5_2.length)<|
 E9 ((l3_2.length+List.length ([z17]))*8≤140737488355328)<|
 go ((i64.wrap (j+1)),(l3_2++([z17])),(List.set l5_2 (Int.toNat (i64.wrap ((i64.wrap (x_*(i64.wrap (Int.tdiv (rd 0 a.1 1) w))))+j))) (rd 0 a.2 z17)))
 else
 some (l3_2,l5_2)
def f103_l12 (a:Fy) (w:Int) (go:Gz→Option Fy) (x_:Int) (l3 l5:LI):Option Fy:=
 bif (decide (x_<(rd 0 a.1 0))) then
 Ey (Fq (fun go x=>f103_l15 a w x_ go x.1 x.2.1 x.2.2) Fv ((0:Int),l3,l5)) fun z16=>
 go ((i64.wrap (x_+1)),z16.1,z16.2)
 else
 some (l3,l5)
def f103 (a:Fy) (w:Int):Option (Int×LI×Fy):=
 Ey (f51 (a.1,a.2)) fun r1=>
 bif (!r1) then
 some ((1:Int),[],[],[])
 else
 bif ((a.1.length:Int) != 2) then
 some ((4:Int),[],[],[])
 else
 Ey (f103_j2 a w) fun z3=>
 Fx z3 (fun z3a=>
 E9 (0≤(0:Int)∧0<(a.1.length:Int))<|
 E9 (0≤(1:Int)∧1<(a.1.length:Int))<|
 E9 (w≠0)<|
 Ey (f28 ([(rd 0 a.1 0),(i64.wrap (Int.tdiv (rd 0 a.1 1) w))]) (0:Int)) fun q7_9=>
 Ey (Fq (fun go x=>f103_l12 a w go x.1 x.2.1 x.2.2) Fv ((0:Int),[],q7_9.2)) fun z13=>
 some ((0:Int),q7_9.1,z13.2,z13.1)) (fun z3b=>
 some ((1:Int),[],[],[]))
def C103:Con:=⟨Fy×Int,Int×LI×Fy,0,fun x=>[.dat T9 x.1,.dat T1 x.2],NX,fun x=>f103 x.1 x.2,fun y=>[.raw true [(.osl 0),(.osl 1)],O0 2,.dat T1 y.1],fun y=>[(0,.arr 3 T1 y.2.1),(1,.arr 57 T1 y.2.2.1),(2,.arr 3 T1 y.2.2.2)],3⟩
theorem V103 a w y (q:f103 a w=some y):VC Tryz.f103 C103 (a,w) y:=by
 unfold f103 at q
 refine OL (OL (OL ?_))
 obtain ⟨r1,h,q⟩:=bE q
 refine OL (cA H51 (a.1,a.2) h rfl (R2 (K0 (cI q (fun q=>?_) (fun q=>?_)))))
 ·refine OL (OL ?_)
  cases sE q
  refine AI rfl (E4 (iuR [0,0,0]) (R2 (AI (R2 TV) (R3 TV))))
 refine OL (OL (cI q (fun q=>?_) (fun q=>?_)))
 ·refine OL (OL ?_)
  cases sE q
  refine AI rfl (E4 (iuR [0,0,0]) (R2 (AI (R2 TV) (R3 TV))))
 obtain ⟨z3,hz3,q⟩:=bE q
 let e0:LE:=fun zz=>(1,.dat T1 w)::(2,P0 0 0)::(4,P0 1 0)::zz
 let h1:LH:=fun zz=>(0,.cells [(.d T6 a.1),(.d T6 a.2)])::(1,.cells [N0,N0])::zz
 refine OQ ⟨Sum.elim (fun z3a=>[(0,⟨e0 [],h1 [],2⟩)]) (fun z3b=>[(1,⟨[(4,P0 0 0),(5,.raw false [N0]),(6,D0 1)],[(0,.cells [N0,N0])],1⟩)]) z3,?_,?_⟩
 ·have q:=hz3
  clear hz3
  unfold f103_j2 at q
  obtain ⟨z4,hz4,q⟩:=bE q
  refine OQ ⟨[(0,⟨e0 [(34,.dat .bool z4)],h1 [],2⟩)],?_,?_⟩
  ·have q:=hz4
   clear hz4
   unfold f103_j3 at q
   refine cN q (fun q=>?_) (fun q=>?_)
   ·refine gY (gY (gY (gI q (fun q=>?_))))
    refine gY (gY (cF ?_))
    cases sE q
    refine E4 I2 (R3 (AI (R2 TV) (R2 TV)))
   refine gN (gN (gN (gN (gN (cT ?_)))))
   cases sE q
   refine E4 I2 (R3 (AI (R2 TV) (R2 TV)))
  refine AI (cI q (fun q=>?_) (fun q=>?_)) TV
  ·refine OL (OL ?_)
   cases sE q
   refine E4 (iuR [2]) (R2 (AI (R2 TV) (AI rfl TV)))
  cases sE q
  refine E4 I2 (R2 (AI (R2 TV) (R2 TV)))
 rcases z3 with z3a | z3b
 ·dsimp only [Fx] at q
  refine AI (OL (EI (tU 0 10 .done) (EI [] (EI [] (AI rfl (gI q (fun q=>?_))))))) TV
  refine gI q (fun q=>?_)
  refine OL (gI q (fun q=>?_))
  refine OL (OL ?_)
  obtain ⟨q7_9,h,q⟩:=bE q
  refine OL (cD H28 ([(rd 0 a.1 0),(i64.wrap (Int.tdiv (rd 0 a.1 1) w))],(0:Int)) h rfl (R2 (AI (fun _=>rfl) (R2 (AI TV (AI TV (OL (OL (OL (OL ?_))))))))))
  obtain ⟨z13,hz13,q⟩:=bE q
  let e2:LE:=fun zz=>e0 ((7,.dat T1 (rd 0 a.1 0))::(8,.dat T1 (rd 0 a.1 1))::(9,.dat T1 (i64.wrap (Int.tdiv (rd 0 a.1 1) w)))::(10,P0 2 0)::(11,O0 3)::zz)
  let h3:LH:=fun zz=>h1 ((2,.cells [(.osl 4),(.osl 5)])::zz)
  refine lJ hz13 (fun x=>⟨e2 [(12,.dat T1 x.1)],h3 [(3,.arr 3 T1 x.2.1),(4,.arr 3 T1 q7_9.1),(5,.arr 57 T1 x.2.2)],6⟩) (fun z=>[(2,⟨[(4,P0 0 0),(10,P0 1 0),(11,O0 2)],[(0,.cells [N0,N0]),(1,.cells [(.osl 3),(.osl 4)]),(2,.arr 3 T1 z.1),(3,.arr 3 T1 q7_9.1),(4,.arr 57 T1 z.2)],5⟩)]) (E4 (iuR [1,2,6,0,4,5]) (R6 (AI (R4 TV) (R6 TV)))) (fun m=>F3 (fun x_=>F3 (fun l3=>fun l5 z q=>?_))) ?_
  ·have q:f103_l12 a w _ x_ l3 l5=some z:=q
   unfold f103_l12 at q
   refine OL (OL (cI q (fun q=>?_) (fun q=>?_)))
   ·refine OL (OL ?_)
    obtain ⟨z16,h,q⟩:=bE q
    refine lJ h (fun x=>⟨e2 [(12,.dat T1 x_),(13,.dat T1 x.1)],h3 [(3,.arr 3 T1 x.2.1),(4,.arr 3 T1 q7_9.1),(5,.arr 57 T1 x.2.2)],6⟩) (fun z=>[(4,⟨e2 [(12,.dat T1 x_)],h3 [(3,.arr 3 T1 z.1),(4,.arr 3 T1 q7_9.1),(5,.arr 57 T1 z.2)],6⟩)]) (E4 I6 (R7 (AI (R4 TV) (R6 TV)))) (fun m=>F3 (fun j=>F3 (fun l3_2=>fun l5_2 z q=>?_))) ?_
    ·have q:f103_l15 a w x_ _ j l3_2 l5_2=some z:=q
     unfold f103_l15 at q
     refine OL (OL (cI q (fun q=>?_) (fun q=>?_)))
     ·refine OL (OL (OL (OL ?_)))
      obtain ⟨z17,hz17,q⟩:=bE q
      let h4:LH:=fun zz=>h3 ((3,.arr 3 T1 l3_2)::(4,.arr 3 T1 q7_9.1)::(5,.arr 57 T1 l5_2)::zz)
      refine lJ hz17 (fun x=>⟨e2 [(12,.dat T1 x_),(13,.dat T1 j),(14,.dat T1 x.1),(15,.dat T1 x.2)],h4 [],6⟩) (fun z=>[(6,⟨e2 [(12,.dat T1 x_),(13,.dat T1 j),(14,.dat T1 z)],h4 [],6⟩)]) (E4 I6 (R9 (AI (R4 TV) (R6 TV)))) (fun m=>F3 (fun best=>fun y_ z q=>?_)) ?_
      ·have q:f103_l16 a w x_ j _ best y_=some z:=q
       unfold f103_l16 at q
       refine OL (OL (cI q (fun q=>?_) (fun q=>?_)))
       ·refine OL (OL (EI (tU 0 19 .done) (EI [] (EI [] (AI rfl (gI q (fun q=>?_)))))))
        refine gI q (fun q=>?_)
        refine cI q (fun q=>?_) (fun q=>?_)
        ·refine EI ((i64.wrap ((i64.wrap ((i64.wrap (x_*(rd 0 a.1 1)))+(i64.wrap (j*w))))+y_)),(i64.wrap (y_+1))) (AI q (E4 I6 (R9 (AI (R4 TV) (R6 TV)))))
        refine EI (best,(i64.wrap (y_+1))) (AI q (E4 I6 (R9 (AI (R4 TV) (R6 TV)))))
       cases sE q
       refine E4 I6 (R8 (AI (R4 TV) (R6 TV)))
      refine AI (OL (EI (tU 0 13 (.alt 13 .done .done)) (EI [] (EI [] (AI rfl (gI q (fun q=>?_))))))) TV
      refine gI q (fun q=>?_)
      refine AI TV (OL (OL (OL (gI q (fun q=>?_)))))
      refine EI ((i64.wrap (j+1)),(l3_2++([z17])),(List.set l5_2 (Int.toNat (i64.wrap ((i64.wrap (x_*(i64.wrap (Int.tdiv (rd 0 a.1 1) w))))+j))) (rd 0 a.2 z17))) (AI q (E4 (iuR [1,2,3,8,5,6]) (R7 (AI (R4 TV) (R6 TV)))))
     cases sE q
     refine E4 I6 (R6 (AI (R4 TV) (R6 TV)))
    refine AI (EI ((i64.wrap (x_+1)),z16.1,z16.2) (AI q (E4 I6 (R6 (AI (R4 TV) (R6 TV)))))) TV
   cases sE q
   refine E4 (iuR [2,3,4,5,6]) (AI rfl (AI (R3 TV) (R5 TV)))
  refine AI (OL (OL ?_)) TV
  cases sE q
  refine AI rfl (E4 (iuR [4,5,3]) (R2 (AI (R2 TV) (R3 TV))))
 dsimp only [Fx] at q
 refine AI ?_ TV
 cases sE q
 refine AI rfl (E4 (iuR [0,0,0]) (R2 (AI (R2 TV) (R3 TV))))
theorem H103:HI C103 103:=hI Tryz.f103 rfl fun x=>V103 x.1 x.2
def f104_j3 (a:Fy) (d:LI):Option Bool:=
 Ey (f51 (a.1,a.2)) fun r9=>
 bif (!r9) then
 some true
 else
 Ey (f76 d) fun r10=>
 some (!r10)
def f104_j2 (a:Fy) (d:LI):Option (Sum Unit Unit):=
 Ey (f104_j3 a d) fun z8=>
 bif z8 then
 some (Sum.inr ())
 else
 some (Sum.inl ())
def f104 (a:Fy) (d:LI):Option Gz:=
 Ey (f104_j2 a d) fun z5=>
 Fx z5 (fun z5a=>
 Ey (f50 d) fun q3_1=>
 bif (q3_1 != a.2.length) then
 some ((4:Int),[],[])
 else
 E9 ((List.length ([]:LI)+d.length)*8≤140737488355328)<|
 E9 ((List.length ([]:LI)+a.2.length)*8≤140737488355328)<|
 some ((0:Int),(([]:LI)++d),(([]:LI)++a.2))) (fun z5b=>
 some ((1:Int),[],[]))
def C104:Con:=⟨Fy×LI,Gz,0,fun x=>[.dat T9 x.1,.dat T6 x.2],NX,fun x=>f104 x.1 x.2,fun y=>[.raw true [(.osl 0),(.osl 1)],.dat T1 y.1],fun y=>[(0,.arr 3 T1 y.2.1),(1,.arr 57 T1 y.2.2)],2⟩
theorem V104 a d y (q:f104 a d=some y):VC Tryz.f104 C104 (a,d) y:=by
 unfold f104 at q
 refine OL ?_
 obtain ⟨z5,hz5,q⟩:=bE q
 refine OQ ⟨Sum.elim (fun z5a=>[(0,⟨[(1,.dat T6 d),(2,P0 0 0),(4,P0 1 0)],[(0,.cells [(.d T6 a.1),(.d T6 a.2)]),(1,.cells [N0,N0])],2⟩)]) (fun z5b=>[(1,⟨[(4,P0 0 0),(5,D0 1)],[(0,.cells [N0,N0])],1⟩)]) z5,?_,?_⟩
 ·have q:=hz5
  clear hz5
  unfold f104_j2 at q
  obtain ⟨z8,hz8,q⟩:=bE q
  refine OQ ⟨[(0,⟨[(1,.dat T6 d),(2,P0 0 0),(4,P0 1 0),(13,.dat .bool z8)],[(0,.cells [(.d T6 a.1),(.d T6 a.2)]),(1,.cells [N0,N0])],2⟩)],?_,?_⟩
  ·have q:=hz8
   clear hz8
   unfold f104_j3 at q
   obtain ⟨r9,h,q⟩:=bE q
   refine OL (cA H51 (a.1,a.2) h rfl (R2 (K0 (cN q (fun q=>?_) (fun q=>?_)))))
   ·refine gY ?_
    obtain ⟨r10,h,q⟩:=bE q
    refine OL (cA H76 d h rfl (AI rfl (K0 (gY (cF ?_)))))
    cases sE q
    refine E4 I2 (R3 (AI (R2 TV) (R2 TV)))
   refine gN (gN (cT ?_))
   cases sE q
   refine E4 I2 (R3 (AI (R2 TV) (R2 TV)))
  refine AI (cI q (fun q=>?_) (fun q=>?_)) TV
  ·refine OL (OL ?_)
   cases sE q
   refine E4 (iuR [2]) (R2 (AJ (AI rfl TV)))
  cases sE q
  refine E4 I2 (R2 (AI (R2 TV) (R2 TV)))
 rcases z5 with z5a | z5b
 ·dsimp only [Fx] at q
  refine AI (OL (OL (EI (.take 0 (tU 2 3 (.alt 1 (.take 5 .done) .done))) (EI [] (EI [] (AI rfl (AI TV ?_))))))) TV
  obtain ⟨q3_1,h,q⟩:=bE q
  refine OL (cA H50 d h rfl (AI rfl (K0 (cI q (fun q=>?_) (fun q=>?_)))))
  ·refine OL (OL ?_)
   cases sE q
   refine AI rfl (E4 (iuR [0,0]) (R2 (AJ (R2 TV))))
  refine OL ?_
  obtain ⟨g5_0,q⟩:=gE q
  obtain ⟨g5_1,q⟩:=gE q
  refine EI (.take 1 (.take 4 (.take 5 (.alt 0 (.alt 2 (.alt 3 (.alt 6 (.take 7 (.alt 8 (.take 9 .done) .done)) .done) .done) (.alt 3 (.alt 2 (.alt 6 (.take 7 (.alt 8 (.take 9 .done) .done)) .done) .done) .done)) (.alt 3 (.alt 0 (.alt 2 (.alt 6 (.take 7 (.alt 8 (.take 9 .done) .done)) .done) .done) .done) .done))))) (EI [] (EI [] (AI rfl (AI (AI TV ?_) ?_))))
  ·refine OL (AI TV (OL (AI TV (OL (AI g5_0 (AI TV (OL (AI g5_1 (AI TV (OL ?_))))))))))
   cases sE q
   refine AI rfl (E4 (iuR [5,6]) (R2 (AJ (R2 TV))))
  refine OL (AI (AI TV ?_) ?_)
  ·refine OL (AI TV (OL (AI g5_0 (AI TV (OL (AI g5_1 (AI TV (OL ?_))))))))
   cases sE q
   refine AI rfl (E4 (iuR [5,6]) (R2 (AJ (R2 TV))))
  refine OL (AI g5_0 (AI TV (OL (AI TV (OL (AI g5_1 (AI TV (OL ?_))))))))
  cases sE q
  refine AI rfl (E4 (iuR [4,6]) (R2 (AJ (R2 TV))))
 dsimp only [Fx] at q
 refine AI ?_ TV
 cases sE q
 refine AI rfl (E4 (iuR [0,0]) (R2 (AJ (R2 TV))))
theorem H104:HI C104 104:=hI Tryz.f104 rfl fun x=>V104 x.1 x.2
end Go.Proofs
