import Derived.Test.YtoicgngppmpapaaGreatSoloKnownS7
set_option linter.unusedVariables false
set_option maxRecDepth 100000
set_option maxHeartbeats 8000000
namespace Go.Proofs
open Go.AM
open IntKind (i64 u64 i32 u32 i16 u16 i8 u8)
def f124_j3 (g : LI×LI) (a : LI×LI) (step:Int) (w:Int) : Option Bool :=
 bindF (f62 (g.1,g.2)) fun r9 =>
 bif (!r9) then
 some true
 else
 bindF (f62 (a.1,a.2)) fun r10 =>
 bif (!r10) then
 some true
 else
 bif (decide (step < (1:Int))) then
 some true
 else
 bif (decide (step > (64:Int))) then
 some true
 else
 bif (decide (w < (1:Int))) then
 some true
 else
 some (decide (w > (4096:Int)))
def f124_j2 (g : LI×LI) (a : LI×LI) (step:Int) (w:Int) : Option (Sum Unit Unit) :=
 bindF (f124_j3 g a step w) fun z8 =>
 bif z8 then
 some (Sum.inr ())
 else
 some (Sum.inl ())
def f124_j6 (g : LI×LI) (a : LI×LI) (step:Int) (w:Int) : Option Bool :=
 bif ((List.length g.1:Int) != (2:Int)) then
 some true
 else
 bif ((List.length a.1:Int) != (2:Int)) then
 some true
 else
 guardF (0 ≤ (1:Int) ∧ (1:Int) < (List.length a.1:Int)) <|
 bif (decide (w > (rd (0:Int) a.1 (1:Int)))) then
 some true
 else
 guardF (0 ≤ (1:Int) ∧ (1:Int) < (List.length g.1:Int)) <|
 guardF (0 ≤ (1:Int) ∧ (1:Int) < (List.length a.1:Int)) <|
 guardF (step ≠ 0) <|
 some ((rd (0:Int) g.1 (1:Int)) != (i64.wrap ((i64.wrap (Int.tdiv (i64.wrap ((rd (0:Int) a.1 (1:Int)) - w)) step)) + (1:Int))))
def f124_j5 (g : LI×LI) (a : LI×LI) (step:Int) (w:Int) : Option (Sum Unit Unit) :=
 bindF (f124_j6 g a step w) fun z13 =>
 bif z13 then
 some (Sum.inr ())
 else
 some (Sum.inl ())
def f124_l46 (g : LI×LI) (a : LI×LI) (step:Int) (i:Int) (x_:Int) (y_:Int) (go : (Int×Bool×Int×Int×Int×Int) → Option (Bool×Int×Int×Int×Int)) (j:Int) (c4_0 : Bool) (c4_1:Int) (c4_2:Int) (c4_3:Int) (c4_4:Int) : Option (Bool×Int×Int×Int×Int) :=
 bif (decide (j < (rd (0:Int) g.1 (1:Int)))) then
 guardF (0 ≤ (i64.wrap ((i64.wrap (i * (rd (0:Int) g.1 (1:Int)))) + j)) ∧ (i64.wrap ((i64.wrap (i * (rd (0:Int) g.1 (1:Int)))) + j)) < (List.length g.2:Int)) <|
 guardF (0 ≤ (i64.wrap ((i64.wrap ((i64.wrap (x_ * (rd (0:Int) a.1 (1:Int)))) + (i64.wrap (j * step)))) + y_)) ∧ (i64.wrap ((i64.wrap ((i64.wrap (x_ * (rd (0:Int) a.1 (1:Int)))) + (i64.wrap (j * step)))) + y_)) < (List.length a.2:Int)) <|
 bindF (f179 (rd (0:Int) g.2 (i64.wrap ((i64.wrap (i * (rd (0:Int) g.1 (1:Int)))) + j))) (rd (0:Int) a.2 (i64.wrap ((i64.wrap ((i64.wrap (x_ * (rd (0:Int) a.1 (1:Int)))) + (i64.wrap (j * step)))) + y_)))) fun q22_23 =>
 bindF (f139 c4_0 c4_1 c4_2 c4_3 c4_4 q22_23.1 q22_23.2.1 q22_23.2.2.1 q22_23.2.2.2.1 q22_23.2.2.2.2) fun q22_24 =>
 go ((i64.wrap (j + (1:Int))),q22_24.1,q22_24.2.1,q22_24.2.2.1,q22_24.2.2.2.1,q22_24.2.2.2.2)
 else
 some (c4_0,c4_1,c4_2,c4_3,c4_4)
def f124_l45 (g : LI×LI) (a : LI×LI) (step:Int) (w:Int) (i:Int) (x_:Int) (go : (Int×LI) → Option LI) (y_:Int) (l5_3 : LI) : Option LI :=
 bif (decide (y_ < w)) then
 bindF (loopF (fun go x=>f124_l46 g a step i x_ y_ go x.1 x.2.1 x.2.2.1 x.2.2.2.1 x.2.2.2.2.1 x.2.2.2.2.2) fuelN ((0:Int),false,(0:Int),(0:Int),(0:Int),(0:Int))) fun z54 =>
 bindF (f180 z54.1 z54.2.1 z54.2.2.1 z54.2.2.2.1 z54.2.2.2.2 (32:Int)) fun q23_12 =>
 bindF (f120 q23_12.1 q23_12.2.1 q23_12.2.2.1 q23_12.2.2.2.1 q23_12.2.2.2.2) fun q23_13 =>
 guardF (0 ≤ (i64.wrap ((i64.wrap ((i64.wrap ((i64.wrap (i * (rd (0:Int) a.1 (0:Int)))) + x_)) * w)) + y_)) ∧ (i64.wrap ((i64.wrap ((i64.wrap ((i64.wrap (i * (rd (0:Int) a.1 (0:Int)))) + x_)) * w)) + y_)) < (List.length l5_3:Int)) <|
 go ((i64.wrap (y_ + (1:Int))),(List.set l5_3 (Int.toNat (i64.wrap ((i64.wrap ((i64.wrap ((i64.wrap (i * (rd (0:Int) a.1 (0:Int)))) + x_)) * w)) + y_))) q23_13))
 else
 some l5_3
def f124_l42 (g : LI×LI) (a : LI×LI) (step:Int) (w:Int) (i:Int) (go : (Int×LI) → Option LI) (x_:Int) (l5_2 : LI) : Option LI :=
 bif (decide (x_ < (rd (0:Int) a.1 (0:Int)))) then
 bindF (loopF (fun go x=>f124_l45 g a step w i x_ go x.1 x.2) fuelN ((0:Int),l5_2)) fun z53 =>
 go ((i64.wrap (x_ + (1:Int))),z53)
 else
 some l5_2
def f124_l33 (g : LI×LI) (a : LI×LI) (step:Int) (w:Int) (go : (Int×LI) → Option LI) (i:Int) (l5 : LI) : Option LI :=
 bif (decide (i < (rd (0:Int) g.1 (0:Int)))) then
 bindF (loopF (fun go x=>f124_l42 g a step w i go x.1 x.2) fuelN ((0:Int),l5)) fun z50 =>
 go ((i64.wrap (i + (1:Int))),z50)
 else
 some l5
def f124 (g : LI×LI) (a : LI×LI) (step:Int) (w:Int) : Option (Int×LI×LI) :=
 bindF (f124_j2 g a step w) fun z5 =>
 sumF z5 (fun z5a =>
 bindF (f124_j5 g a step w) fun z12 =>
 sumF z12 (fun z12a =>
 guardF (0 ≤ (0:Int) ∧ (0:Int) < (List.length g.1:Int)) <|
 guardF (0 ≤ (1:Int) ∧ (1:Int) < (List.length g.1:Int)) <|
 guardF (0 ≤ (0:Int) ∧ (0:Int) < (List.length a.1:Int)) <|
 guardF (0 ≤ (1:Int) ∧ (1:Int) < (List.length a.1:Int)) <|
 bindF (f102 ([(rd (0:Int) g.1 (0:Int)),(rd (0:Int) a.1 (0:Int)),w])) fun q5_19 =>
 bif (!q5_19) then
 some ((2:Int),[],[])
 else
 bindF (f71 ([(rd (0:Int) g.1 (0:Int)),(rd (0:Int) a.1 (0:Int)),w]) (0:Int)) fun r14 =>
 bindF (loopF (fun go x=>f124_l33 g a step w go x.1 x.2) fuelN ((0:Int),r14.2)) fun z41 =>
 some ((0:Int),r14.1,z41)) (fun z12b =>
 some ((4:Int),[],[]))) (fun z5b =>
 some ((1:Int),[],[]))
def C124 : Con where
 X := (LI×LI)×(LI×LI)×Int×Int
 Y := Int×LI×LI
 e := 0
 args x := [.dat T3 x.1,.dat T3 x.2.1,.dat T2 x.2.2.1,.dat T2 x.2.2.2]
 hin x := []
 F x := f124 x.1 x.2.1 x.2.2.1 x.2.2.2
 ret y := [.raw true [(.osl 0),(.osl 1)],.dat T2 y.1]
 hout y := [(0,.arr 3 T2 y.2.1),(1,.arr 40 T2 y.2.2)]
 nout := 2
theorem C124_vc (g : LI×LI) (a : LI×LI) (step:Int) (w:Int) (y : Int×LI×LI) (q : f124 g a step w = some y) : VC Tryz.f124 C124 (g,a,step,w) y := by
 unfold f124 at q
 refine OL ?_
 obtain ⟨z5,hz5,q⟩ := bE q
 refine OQ ⟨Sum.elim (fun z5a=>[(0,⟨[(2,.dat T2 step),(3,.dat T2 w),(4,P0 0 0),(5,P0 1 0),(8,P0 2 0)],[(0,.cells [(.d T1 g.1),(.d T1 g.2)]),(1,.cells [(.d T1 a.1),(.d T1 a.2)]),(2,.cells [N0,N0])],3⟩)]) (fun z5b=>[(1,⟨[(8,P0 0 0),(9,D0 1)],[(0,.cells [N0,N0])],1⟩)]) z5,?_,?_⟩
 ·have q := hz5
  clear hz5
  unfold f124_j2 at q
  obtain ⟨z8,hz8,q⟩ := bE q
  refine OQ ⟨[(0,⟨[(2,.dat T2 step),(3,.dat T2 w),(4,P0 0 0),(5,P0 1 0),(8,P0 2 0),(43,.dat .bool z8)],[(0,.cells [(.d T1 g.1),(.d T1 g.2)]),(1,.cells [(.d T1 a.1),(.d T1 a.2)]),(2,.cells [N0,N0])],3⟩)],?_,?_⟩
  ·have q := hz8
   clear hz8
   unfold f124_j3 at q
   obtain ⟨r9,hr9,q⟩ := bE q
   refine OL (AI f62_in (cV (cQ C62 (g.1,g.2) r9 [] false C62_holds hr9 rfl rfl (R2 (K0 (cN q (fun q=>?_) (fun q=>?_)))))))
   ·refine gY ?_
    obtain ⟨r10,hr10,q⟩ := bE q
    refine OL (AI f62_in (cV (cQ C62 (a.1,a.2) r10 [] false C62_holds hr10 rfl rfl (R2 (K0 (gY (cF (cN q (fun q=>?_) (fun q=>?_)))))))))
    ·refine gY (cF (cN q (fun q=>?_) (fun q=>?_)))
     ·refine gY (cF (cN q (fun q=>?_) (fun q=>?_)))
      ·refine gY (cF (cN q (fun q=>?_) (fun q=>?_)))
       ·refine gY (cF ?_)
        cases sE q
        refine E4 I3 (R4 (AI (R3 TV) (R3 TV)))
       refine gN (cT ?_)
       cases sE q
       refine E4 I3 (R4 (AI (R3 TV) (R3 TV)))
      refine gN (cT (gN (gN (cT ?_))))
      cases sE q
      refine E4 I3 (R4 (AI (R3 TV) (R3 TV)))
     refine gN (cT (gN (gN (cT (gN (gN (cT ?_)))))))
     cases sE q
     refine E4 I3 (R4 (AI (R3 TV) (R3 TV)))
    refine gN (cT (gN (gN (cT (gN (gN (cT (gN (gN (cT ?_))))))))))
    cases sE q
    refine E4 I3 (R4 (AI (R3 TV) (R3 TV)))
   refine gN (gN (cT (gN (gN (cT (gN (gN (cT (gN (gN (cT (gN (gN (cT ?_))))))))))))))
   cases sE q
   refine E4 I3 (R4 (AI (R3 TV) (R3 TV)))
  refine AI (cI q (fun q=>?_) (fun q=>?_)) TV
  ·refine OL (OL ?_)
   cases sE q
   refine E4 [(0,some 2)] (R2 (AJ (AI rfl TV)))
  cases sE q
  refine E4 I3 (R3 (AI (R3 TV) (R3 TV)))
 rcases z5 with z5a | z5b
 ·dsimp only [sumF] at q
  refine AI ?_ TV
  obtain ⟨z12,hz12,q⟩ := bE q
  refine OQ ⟨Sum.elim (fun z12a=>[(0,⟨[(2,.dat T2 step),(3,.dat T2 w),(4,P0 0 0),(5,P0 1 0),(8,P0 2 0)],[(0,.cells [(.d T1 g.1),(.d T1 g.2)]),(1,.cells [(.d T1 a.1),(.d T1 a.2)]),(2,.cells [N0,N0])],3⟩)]) (fun z12b=>[(1,⟨[(8,P0 0 0),(9,D0 4)],[(0,.cells [N0,N0])],1⟩)]) z12,?_,?_⟩
  ·have q := hz12
   clear hz12
   unfold f124_j5 at q
   obtain ⟨z13,hz13,q⟩ := bE q
   refine OQ ⟨[(0,⟨[(2,.dat T2 step),(3,.dat T2 w),(4,P0 0 0),(5,P0 1 0),(8,P0 2 0),(78,.dat .bool z13)],[(0,.cells [(.d T1 g.1),(.d T1 g.2)]),(1,.cells [(.d T1 a.1),(.d T1 a.2)]),(2,.cells [N0,N0])],3⟩)],?_,?_⟩
   ·have q := hz13
    clear hz13
    unfold f124_j6 at q
    refine EI (.take 0 (.take 1 (.take 2 (.take 3 (.take 4 (.take 5 (.take 6 (.take 7 (.take 8 (.take 9 (.take 10 (.take 11 (.take 12 (.take 13 (.take 14 (.take 15 (.take 16 (.take 17 (.take 18 (.take 19 (.take 20 (.take 21 (.take 22 (.take 23 (.take 24 (.take 25 (.take 26 (.take 27 (.take 28 (.take 29 (.take 30 (.take 31 (.take 32 (.take 33 .done)))))))))))))))))))))))))))))))))) (EI [] (EI [] (AI rfl (cN q (fun q=>?_) (fun q=>?_)))))
    ·refine gY (gY (gY (cF (cN q (fun q=>?_) (fun q=>?_)))))
     ·refine gY (gY (gY (gI q (fun q=>?_))))
      refine gY (gY (cF (cN q (fun q=>?_) (fun q=>?_))))
      ·refine gY (gY (gI q (fun q=>?_)))
       refine gY (gY (gY (gY (gI q (fun q=>?_)))))
       refine gY (gY (gY (gY (gY (gI q (fun q=>?_))))))
       refine gY (gY (cF ?_))
       cases sE q
       refine E4 I3 (R4 (AI (R3 TV) (R3 TV)))
      refine gN (gN (gN (gN (gN (gN (gN (gN (gN (gN (gN (gN (gN (cT ?_)))))))))))))
      cases sE q
      refine E4 I3 (R4 (AI (R3 TV) (R3 TV)))
     refine gN (gN (gN (gN (gN (cT (gN (gN (gN (gN (gN (gN (gN (gN (gN (gN (gN (gN (gN (gN (cT ?_))))))))))))))))))))
     cases sE q
     refine E4 I3 (R4 (AI (R3 TV) (R3 TV)))
    refine gN (gN (gN (cT (gN (gN (gN (gN (gN (gN (cT (gN (gN (gN (gN (gN (gN (gN (gN (gN (gN (gN (gN (gN (gN (cT ?_)))))))))))))))))))))))))
    cases sE q
    refine E4 I3 (R4 (AI (R3 TV) (R3 TV)))
   refine AI (cI q (fun q=>?_) (fun q=>?_)) TV
   ·refine OL (OL ?_)
    cases sE q
    refine E4 [(0,some 2)] (R2 (AJ (AI rfl TV)))
   cases sE q
   refine E4 I3 (R3 (AI (R3 TV) (R3 TV)))
  rcases z12 with z12a | z12b
  ·dsimp only [sumF] at q
   refine AI (OL (EI (.take 0 (.take 1 (.take 2 (.take 3 (.take 4 (.take 5 (.take 6 (.take 7 (.take 8 (.take 9 (.take 10 (.take 11 (.take 12 (.take 13 (.take 14 (.take 15 (.take 16 (.take 17 (.take 18 (.take 19 .done)))))))))))))))))))) (EI [] (EI [] (AI rfl (gI q (fun q=>?_))))))) TV
   refine gI q (fun q=>?_)
   refine gI q (fun q=>?_)
   refine gI q (fun q=>?_)
   refine OL (OL (OL ?_))
   obtain ⟨q5_19,hq5_19,q⟩ := bE q
   refine OL (AI f102_in (cV (cQ C102 [(rd (0:Int) g.1 (0:Int)),(rd (0:Int) a.1 (0:Int)),w] q5_19 [] true C102_holds hq5_19 rfl rfl (AI rfl (AI (fun _=>rfl) (R2 (AI TV (AI TV (cI q (fun q=>?_) (fun q=>?_))))))))))
   ·refine OL (OL ?_)
    cases sE q
    refine AI rfl (E4 [(0,none),(1,none)] (R2 (AJ (R2 TV))))
   refine OL (OL ?_)
   obtain ⟨r14,hr14,q⟩ := bE q
   refine OL (AI f71_in (cV (cQ C71 ([(rd (0:Int) g.1 (0:Int)),(rd (0:Int) a.1 (0:Int)),w],(0:Int)) r14 [] true C71_holds hr14 rfl rfl (R2 (AI (fun _=>rfl) (R2 (AI TV (AI TV (OL (OL (OL ?_)))))))))))
   obtain ⟨z41,hz41,q⟩ := bE q
   refine lI (Int×LI) LI (fun x=>⟨[(2,.dat T2 step),(3,.dat T2 w),(4,P0 0 0),(5,P0 1 0),(8,P0 2 0),(10,.dat T2 (rd (0:Int) g.1 (0:Int))),(11,.dat T2 (rd (0:Int) g.1 (1:Int))),(12,.dat T2 (rd (0:Int) a.1 (0:Int))),(13,.dat T2 (rd (0:Int) a.1 (1:Int))),(14,P0 3 0),(15,.dat T2 x.1)],[(0,.cells [(.d T1 g.1),(.d T1 g.2)]),(1,.cells [(.d T1 a.1),(.d T1 a.2)]),(2,.cells [N0,N0]),(3,.cells [(.osl 4),(.osl 5)]),(4,.arr 3 T2 r14.1),(5,.arr 40 T2 x.2)],6⟩) (fun z=>[(2,⟨[(8,P0 0 0),(14,P0 1 0)],[(0,.cells [N0,N0]),(1,.cells [(.osl 2),(.osl 3)]),(2,.arr 3 T2 r14.1),(3,.arr 40 T2 z)],4⟩)]) (loopF (fun go x=>f124_l33 g a step w go x.1 x.2)) fuelN ((0:Int),r14.2) z41 (AI hz41 (AI (E4 [(0,some 0),(1,some 1),(2,some 2),(3,some 7),(4,some 5),(5,some 6)] (R8 (AI (R4 TV) (R6 TV)))) (AI (fun _ _ h=>lZ h) (AI (fun m=>curI (fun i=>fun l5 z q=>?_)) ?_))))
   ·have q : f124_l33 g a step w (loopF (fun go x=>f124_l33 g a step w go x.1 x.2) m) i l5 = some z := q
    unfold f124_l33 at q
    refine OL (OL (cI q (fun q=>?_) (fun q=>?_)))
    ·refine OL (OL ?_)
     obtain ⟨z50,hz50,q⟩ := bE q
     refine lI (Int×LI) LI (fun x=>⟨[(2,.dat T2 step),(3,.dat T2 w),(4,P0 0 0),(5,P0 1 0),(8,P0 2 0),(10,.dat T2 (rd (0:Int) g.1 (0:Int))),(11,.dat T2 (rd (0:Int) g.1 (1:Int))),(12,.dat T2 (rd (0:Int) a.1 (0:Int))),(13,.dat T2 (rd (0:Int) a.1 (1:Int))),(14,P0 3 0),(15,.dat T2 i),(16,.dat T2 x.1)],[(0,.cells [(.d T1 g.1),(.d T1 g.2)]),(1,.cells [(.d T1 a.1),(.d T1 a.2)]),(2,.cells [N0,N0]),(3,.cells [(.osl 4),(.osl 5)]),(4,.arr 3 T2 r14.1),(5,.arr 40 T2 x.2)],6⟩) (fun z=>[(4,⟨[(2,.dat T2 step),(3,.dat T2 w),(4,P0 0 0),(5,P0 1 0),(8,P0 2 0),(10,.dat T2 (rd (0:Int) g.1 (0:Int))),(11,.dat T2 (rd (0:Int) g.1 (1:Int))),(12,.dat T2 (rd (0:Int) a.1 (0:Int))),(13,.dat T2 (rd (0:Int) a.1 (1:Int))),(14,P0 3 0),(15,.dat T2 i)],[(0,.cells [(.d T1 g.1),(.d T1 g.2)]),(1,.cells [(.d T1 a.1),(.d T1 a.2)]),(2,.cells [N0,N0]),(3,.cells [(.osl 4),(.osl 5)]),(4,.arr 3 T2 r14.1),(5,.arr 40 T2 z)],6⟩)]) (loopF (fun go x=>f124_l42 g a step w i go x.1 x.2)) fuelN ((0:Int),l5) z50 (AI hz50 (AI (E4 I6 (R9 (AI (R4 TV) (R6 TV)))) (AI (fun _ _ h=>lZ h) (AI (fun m=>curI (fun x_=>fun l5_2 z q=>?_)) ?_))))
     ·have q : f124_l42 g a step w i (loopF (fun go x=>f124_l42 g a step w i go x.1 x.2) m) x_ l5_2 = some z := q
      unfold f124_l42 at q
      refine OL (OL (cI q (fun q=>?_) (fun q=>?_)))
      ·refine OL (OL ?_)
       obtain ⟨z53,hz53,q⟩ := bE q
       refine lI (Int×LI) LI (fun x=>⟨[(2,.dat T2 step),(3,.dat T2 w),(4,P0 0 0),(5,P0 1 0),(8,P0 2 0),(10,.dat T2 (rd (0:Int) g.1 (0:Int))),(11,.dat T2 (rd (0:Int) g.1 (1:Int))),(12,.dat T2 (rd (0:Int) a.1 (0:Int))),(13,.dat T2 (rd (0:Int) a.1 (1:Int))),(14,P0 3 0),(15,.dat T2 i),(16,.dat T2 x_),(17,.dat T2 x.1)],[(0,.cells [(.d T1 g.1),(.d T1 g.2)]),(1,.cells [(.d T1 a.1),(.d T1 a.2)]),(2,.cells [N0,N0]),(3,.cells [(.osl 4),(.osl 5)]),(4,.arr 3 T2 r14.1),(5,.arr 40 T2 x.2)],6⟩) (fun z=>[(6,⟨[(2,.dat T2 step),(3,.dat T2 w),(4,P0 0 0),(5,P0 1 0),(8,P0 2 0),(10,.dat T2 (rd (0:Int) g.1 (0:Int))),(11,.dat T2 (rd (0:Int) g.1 (1:Int))),(12,.dat T2 (rd (0:Int) a.1 (0:Int))),(13,.dat T2 (rd (0:Int) a.1 (1:Int))),(14,P0 3 0),(15,.dat T2 i),(16,.dat T2 x_)],[(0,.cells [(.d T1 g.1),(.d T1 g.2)]),(1,.cells [(.d T1 a.1),(.d T1 a.2)]),(2,.cells [N0,N0]),(3,.cells [(.osl 4),(.osl 5)]),(4,.arr 3 T2 r14.1),(5,.arr 40 T2 z)],6⟩)]) (loopF (fun go x=>f124_l45 g a step w i x_ go x.1 x.2)) fuelN ((0:Int),l5_2) z53 (AI hz53 (AI (E4 I6 (R10 (AI (R4 TV) (R6 TV)))) (AI (fun _ _ h=>lZ h) (AI (fun m=>curI (fun y_=>fun l5_3 z q=>?_)) ?_))))
       ·have q : f124_l45 g a step w i x_ (loopF (fun go x=>f124_l45 g a step w i x_ go x.1 x.2) m) y_ l5_3 = some z := q
        unfold f124_l45 at q
        refine OL (OL (cI q (fun q=>?_) (fun q=>?_)))
        ·refine OL (OL (OL (OL (OL ?_))))
         obtain ⟨z54,hz54,q⟩ := bE q
         refine lI (Int×Bool×Int×Int×Int×Int) (Bool×Int×Int×Int×Int) (fun x=>⟨[(2,.dat T2 step),(3,.dat T2 w),(4,P0 0 0),(5,P0 1 0),(8,P0 2 0),(10,.dat T2 (rd (0:Int) g.1 (0:Int))),(11,.dat T2 (rd (0:Int) g.1 (1:Int))),(12,.dat T2 (rd (0:Int) a.1 (0:Int))),(13,.dat T2 (rd (0:Int) a.1 (1:Int))),(14,P0 3 0),(15,.dat T2 i),(16,.dat T2 x_),(17,.dat T2 y_),(18,P0 4 0),(19,.dat T2 x.1)],[(0,.cells [(.d T1 g.1),(.d T1 g.2)]),(1,.cells [(.d T1 a.1),(.d T1 a.2)]),(2,.cells [N0,N0]),(3,.cells [(.osl 5),(.osl 6)]),(4,.cells [(.d .bool x.2.1),(.d T4 x.2.2.1),(.d T4 x.2.2.2.1),(.d T4 x.2.2.2.2.1),(.d T4 x.2.2.2.2.2)]),(5,.arr 3 T2 r14.1),(6,.arr 40 T2 l5_3)],7⟩) (fun z=>[(8,⟨[(2,.dat T2 step),(3,.dat T2 w),(4,P0 0 0),(5,P0 1 0),(8,P0 2 0),(10,.dat T2 (rd (0:Int) g.1 (0:Int))),(11,.dat T2 (rd (0:Int) g.1 (1:Int))),(12,.dat T2 (rd (0:Int) a.1 (0:Int))),(13,.dat T2 (rd (0:Int) a.1 (1:Int))),(14,P0 3 0),(15,.dat T2 i),(16,.dat T2 x_),(17,.dat T2 y_),(18,P0 4 0)],[(0,.cells [(.d T1 g.1),(.d T1 g.2)]),(1,.cells [(.d T1 a.1),(.d T1 a.2)]),(2,.cells [N0,N0]),(3,.cells [(.osl 5),(.osl 6)]),(4,.cells [(.d .bool z.1),(.d T4 z.2.1),(.d T4 z.2.2.1),(.d T4 z.2.2.2.1),(.d T4 z.2.2.2.2)]),(5,.arr 3 T2 r14.1),(6,.arr 40 T2 l5_3)],7⟩)]) (loopF (fun go x=>f124_l46 g a step i x_ y_ go x.1 x.2.1 x.2.2.1 x.2.2.2.1 x.2.2.2.2.1 x.2.2.2.2.2)) fuelN ((0:Int),false,(0:Int),(0:Int),(0:Int),(0:Int)) z54 (AI hz54 (AI (E4 [(0,some 0),(1,some 1),(2,some 2),(3,some 3),(4,some 6),(5,some 4),(6,some 5)] (R11 (AI (R5 TV) (R7 TV)))) (AI (fun _ _ h=>lZ h) (AI (fun m=>curI (fun j=>curI (fun c4_0=>curI (fun c4_1=>curI (fun c4_2=>curI (fun c4_3=>fun c4_4 z q=>?_)))))) ?_))))
         ·have q : f124_l46 g a step i x_ y_ (loopF (fun go x=>f124_l46 g a step i x_ y_ go x.1 x.2.1 x.2.2.1 x.2.2.2.1 x.2.2.2.2.1 x.2.2.2.2.2) m) j c4_0 c4_1 c4_2 c4_3 c4_4 = some z := q
          unfold f124_l46 at q
          refine OL (OL (cI q (fun q=>?_) (fun q=>?_)))
          ·refine OL (EI (.take 0 (.take 1 (.take 2 (.take 3 (.take 4 (.take 5 (.take 6 (.take 7 (.take 8 (.take 9 (.take 10 (.take 11 (.take 12 (.take 13 (.take 14 (.take 15 (.take 16 (.take 17 (.take 18 (.take 19 (.take 20 (.take 21 (.take 22 (.alt 23 (.alt 24 (.alt 25 .done .done) .done) .done)))))))))))))))))))))))) (EI [(25,[4])] (EI [] (AI rfl (gI q (fun q=>?_))))))
           refine gI q (fun q=>?_)
           refine AI TV ?_
           obtain ⟨q22_23,hq22_23,q⟩ := bE q
           refine OL (AI f179_in (cV (cQ C179 ((rd (0:Int) g.2 (i64.wrap ((i64.wrap (i * (rd (0:Int) g.1 (1:Int)))) + j))),(rd (0:Int) a.2 (i64.wrap ((i64.wrap ((i64.wrap (x_ * (rd (0:Int) a.1 (1:Int)))) + (i64.wrap (j * step)))) + y_)))) q22_23 [] false C179_holds hq22_23 rfl rfl (R2 (K0 (AI TV ?_))))))
           obtain ⟨q22_24,hq22_24,q⟩ := bE q
           refine OL (AI f139_in (cV (cQ C139 (c4_0,c4_1,c4_2,c4_3,c4_4,q22_23.1,q22_23.2.1,q22_23.2.2.1,q22_23.2.2.2.1,q22_23.2.2.2.2) q22_24 [] false C139_holds hq22_24 rfl rfl (AI NH (R2 (AI (R2 TV) (AI TV (AI TV (OL (EI ((i64.wrap (j + (1:Int))),q22_24.1,q22_24.2.1,q22_24.2.2.1,q22_24.2.2.2.1,q22_24.2.2.2.2) (AI q (E4 I7 (R11 (AI (R5 TV) (R7 TV)))))))))))))))
          cases sE q
          refine E4 I7 (R10 (AI (R5 TV) (R7 TV)))
         refine AI (EI (.take 0 (.take 1 (.take 2 (.take 3 (.take 4 (.take 5 (.take 6 (.take 7 (.take 8 (.take 9 (.take 10 (.take 11 (.alt 12 (.alt 13 (.take 14 (.alt 15 .done .done)) .done) .done))))))))))))) (EI [] (EI [] (AI rfl (AI TV ?_))))) TV
         obtain ⟨q23_12,hq23_12,q⟩ := bE q
         refine OL (AI f180_in (cV (cQ C180 (z54.1,z54.2.1,z54.2.2.1,z54.2.2.2.1,z54.2.2.2.2,(32:Int)) q23_12 [] false C180_holds hq23_12 rfl rfl (AI rfl (AI NH (R2 (AJ (AI TV (AI TV ?_)))))))))
         obtain ⟨q23_13,hq23_13,q⟩ := bE q
         refine OL (AI f120_in (cV (cQ C120 (q23_12.1,q23_12.2.1,q23_12.2.2.1,q23_12.2.2.2.1,q23_12.2.2.2.2) q23_13 [] false C120_holds hq23_13 rfl rfl (AI NH (R2 (AJ (AI TV (gI q (fun q=>?_)))))))))
         refine AI TV (OL (EI ((i64.wrap (y_ + (1:Int))),(List.set l5_3 (Int.toNat (i64.wrap ((i64.wrap ((i64.wrap ((i64.wrap (i * (rd (0:Int) a.1 (0:Int)))) + x_)) * w)) + y_))) q23_13)) (AI q (E4 [(0,some 0),(1,some 1),(2,some 2),(3,some 3),(4,some 5),(5,some 6)] (R10 (AI (R4 TV) (R6 TV)))))))
        cases sE q
        refine E4 I6 (R9 (AI (R4 TV) (R6 TV)))
       refine AI (EI ((i64.wrap (x_ + (1:Int))),z53) (AI q (E4 I6 (R9 (AI (R4 TV) (R6 TV)))))) TV
      cases sE q
      refine E4 I6 (R8 (AI (R4 TV) (R6 TV)))
     refine AI (EI ((i64.wrap (i + (1:Int))),z50) (AI q (E4 I6 (R8 (AI (R4 TV) (R6 TV)))))) TV
    cases sE q
    refine E4 [(0,some 2),(1,some 3),(2,some 4),(3,some 5)] (AI rfl (AI (R2 TV) (R4 TV)))
   refine AI (OL (OL ?_)) TV
   cases sE q
   refine AI rfl (E4 [(0,some 2),(1,some 3)] (R2 (AJ (R2 TV))))
  dsimp only [sumF] at q
  refine AI ?_ TV
  cases sE q
  refine AI rfl (E4 [(0,none),(1,none)] (R2 (AJ (R2 TV))))
 dsimp only [sumF] at q
 refine AI ?_ TV
 cases sE q
 refine AI rfl (E4 [(0,none),(1,none)] (R2 (AJ (R2 TV))))
theorem C124_holds : HP C124 124 := hH Tryz.f124 (by kernel_rfl) rfl (fun x y q=>C124_vc x.1 x.2.1 x.2.2.1 x.2.2.2 y q)
theorem f124_in : InP 124 := inP (by kernel_rfl)
def f76_j3 (t_L : NL) (n:Int) (g : LI×LI) : Option Bool :=
 bif (decide (n < (0:Int))) then
 some true
 else
 bif (decide (n ≥ (List.length t_L:Int))) then
 some true
 else
 bindF (f62 (g.1,g.2)) fun q2_13 =>
 bif (!q2_13) then
 some true
 else
 guardF (0 ≤ n ∧ n < (List.length t_L:Int)) <|
 bindF (f73 g.1 ((((((rd (Ty.z T0) t_L n).2).2).2).2).1)) fun q2_28 =>
 some (!q2_28)
def f76_j2 (t_L : NL) (n:Int) (g : LI×LI) : Option (Sum Unit Unit) :=
 bindF (f76_j3 t_L n g) fun z3 =>
 bif z3 then
 some (Sum.inr ())
 else
 some (Sum.inl ())
def f76_j4 (t_L : NL) (n:Int) : Option (LI×LI) :=
 bif (decide (((((rd (Ty.z T0) t_L n).2).2).1) ≥ (0:Int))) then
 guardF (0 ≤ (((rd (Ty.z T0) t_L n).2).2).1 ∧ (((rd (Ty.z T0) t_L n).2).2).1 < (List.length t_L:Int)) <|
 some ((((((rd (Ty.z T0) t_L ((((rd (Ty.z T0) t_L n).2).2).1)).2).2).2).2).1,(((((rd (Ty.z T0) t_L ((((rd (Ty.z T0) t_L n).2).2).1)).2).2).2).2).2)
 else
 some ([],[])
def f76_l5 (t_L : NL) (n:Int) (g : LI×LI) (go : (Int×LI) → Option LI) (i:Int) (l9 : LI) : Option LI :=
 bif (decide (i < (List.length l9:Int))) then
 bindF (f118 ((((((rd (Ty.z T0) t_L (((rd (Ty.z T0) t_L n).2).1)).2).2).2).2).1) i) fun r12 =>
 guardF (0 ≤ ((((rd (Ty.z T0) t_L n).2).2).2).1 ∧ ((((rd (Ty.z T0) t_L n).2).2).2).1 ≤ (List.length r12.2:Int)) <|
 guardF (0 ≤ (i64.wrap ((((((rd (Ty.z T0) t_L n).2).2).2).1) + (1:Int))) ∧ (i64.wrap ((((((rd (Ty.z T0) t_L n).2).2).2).1) + (1:Int))) ≤ (List.length r12.2:Int)) <|
 guardF ((List.length ([] : LI) + List.length (List.take (Int.toNat (((((rd (Ty.z T0) t_L n).2).2).2).1)) r12.2)) * 8 ≤ 140737488355328) <|
 guardF ((List.length (([] : LI) ++ (List.take (Int.toNat (((((rd (Ty.z T0) t_L n).2).2).2).1)) r12.2)) + List.length (List.drop (Int.toNat (i64.wrap ((((((rd (Ty.z T0) t_L n).2).2).2).1) + (1:Int)))) r12.2)) * 8 ≤ 140737488355328) <|
 bindF (f119 g.1 ((([] : LI) ++ (List.take (Int.toNat (((((rd (Ty.z T0) t_L n).2).2).2).1)) r12.2)) ++ (List.drop (Int.toNat (i64.wrap ((((((rd (Ty.z T0) t_L n).2).2).2).1) + (1:Int)))) r12.2))) fun q40_10 =>
 guardF (0 ≤ q40_10.1 ∧ q40_10.1 < (List.length g.2:Int)) <|
 guardF (0 ≤ i ∧ i < (List.length l9:Int)) <|
 go ((i64.wrap (i + (1:Int))),(List.set l9 (Int.toNat i) (rd (0:Int) g.2 q40_10.1)))
 else
 some l9
def f76_j6 (t_L : NL) (n:Int) (g : LI×LI) (z4 : LI×LI) : Option (LI×LI) :=
 guardF (0 ≤ (1:Int) ∧ (1:Int) < (List.length ((((((rd (Ty.z T0) t_L (((rd (Ty.z T0) t_L n).2).1)).2).2).2).2).1):Int)) <|
 bindF (f123 (g.1,g.2) (z4.1,z4.2) (((((rd (Ty.z T0) t_L n).2).2).2).1) (rd (0:Int) ((((((rd (Ty.z T0) t_L (((rd (Ty.z T0) t_L n).2).1)).2).2).2).2).1) (1:Int))) fun q53_8 =>
 some (q53_8.2.1,q53_8.2.2)
def f76_j7 (t_L : NL) (n:Int) (g : LI×LI) (z4 : LI×LI) : Option (LI×LI) :=
 guardF (0 ≤ (2:Int) ∧ (2:Int) < (List.length z4.1:Int)) <|
 bindF (f124 (g.1,g.2) ((((((rd (Ty.z T0) t_L (((rd (Ty.z T0) t_L n).2).1)).2).2).2).2).1,(((((rd (Ty.z T0) t_L (((rd (Ty.z T0) t_L n).2).1)).2).2).2).2).2) (((((rd (Ty.z T0) t_L n).2).2).2).1) (rd (0:Int) z4.1 (2:Int))) fun q54_8 =>
 some (q54_8.2.1,q54_8.2.2)
def f76_l8 (g : LI×LI) (r15 : Int×LI×LI×LI) (go : (Int×LI) → Option LI) (i:Int) (l9 : LI) : Option LI :=
 bif (decide (i < (List.length r15.2.2.2:Int))) then
 guardF (0 ≤ i ∧ i < (List.length r15.2.2.2:Int)) <|
 guardF (0 ≤ i ∧ i < (List.length g.2:Int)) <|
 guardF (0 ≤ (rd (0:Int) r15.2.2.2 i) ∧ (rd (0:Int) r15.2.2.2 i) < (List.length l9:Int)) <|
 go ((i64.wrap (i + (1:Int))),(List.set l9 (Int.toNat (rd (0:Int) r15.2.2.2 i)) (rd (0:Int) g.2 i)))
 else
 some l9
def f76 (t_L : NL) (n:Int) (g : LI×LI) : Option (Int×LI×LI×LI×LI×NL) :=
 bindF (f76_j2 t_L n g) fun z2 =>
 sumF z2 (fun z2a =>
 guardF (0 ≤ n ∧ n < (List.length t_L:Int)) <|
 bif (((rd (Ty.z T0) t_L n).1) == (1:Int)) then
 some ((0:Int),[],[],[],[],t_L)
 else
 guardF (0 ≤ ((rd (Ty.z T0) t_L n).2).1 ∧ ((rd (Ty.z T0) t_L n).2).1 < (List.length t_L:Int)) <|
 bindF (f76_j4 t_L n) fun z4 =>
 bif (((rd (Ty.z T0) t_L n).1) == (2:Int)) then
 bindF (f114 (g.1,g.2) ((((((rd (Ty.z T0) t_L (((rd (Ty.z T0) t_L n).2).1)).2).2).2).2).1)) fun q13_3 =>
 bindF (f114 (g.1,g.2) z4.1) fun q13_7 =>
 some ((0:Int),q13_3.1,q13_3.2,q13_7.1,q13_7.2,t_L)
 else
 bif (((rd (Ty.z T0) t_L n).1) == (3:Int)) then
 bindF (f115 (g.1,g.2) (-4294967296:Int)) fun q13_10 =>
 bindF (f114 (g.1,g.2) ((((((rd (Ty.z T0) t_L (((rd (Ty.z T0) t_L n).2).1)).2).2).2).2).1)) fun q16_3 =>
 bindF (f114 (q13_10.2.1,q13_10.2.2) z4.1) fun q16_7 =>
 some ((0:Int),q16_3.1,q16_3.2,q16_7.1,q16_7.2,t_L)
 else
 bif (((rd (Ty.z T0) t_L n).1) == (4:Int)) then
 bindF (f77 (2:Int) (g.1,g.2) (z4.1,z4.2)) fun q16_10 =>
 bindF (f77 (2:Int) (g.1,g.2) ((((((rd (Ty.z T0) t_L (((rd (Ty.z T0) t_L n).2).1)).2).2).2).2).1,(((((rd (Ty.z T0) t_L (((rd (Ty.z T0) t_L n).2).1)).2).2).2).2).2)) fun r5 =>
 bindF (f114 (q16_10.2.1,q16_10.2.2) ((((((rd (Ty.z T0) t_L (((rd (Ty.z T0) t_L n).2).1)).2).2).2).2).1)) fun q20_3 =>
 bindF (f114 (r5.2.1,r5.2.2) z4.1) fun q20_7 =>
 some ((0:Int),q20_3.1,q20_3.2,q20_7.1,q20_7.2,t_L)
 else
 bif (((rd (Ty.z T0) t_L n).1) == (5:Int)) then
 bindF (f115 (g.1,g.2) (((((rd (Ty.z T0) t_L n).2).2).2).1)) fun q20_10 =>
 some ((0:Int),q20_10.2.1,q20_10.2.2,[],[],t_L)
 else
 bif (((rd (Ty.z T0) t_L n).1) == (6:Int)) then
 bindF (f116 (z4.1,z4.2)) fun q23_4 =>
 bindF (f116 ((((((rd (Ty.z T0) t_L (((rd (Ty.z T0) t_L n).2).1)).2).2).2).2).1,(((((rd (Ty.z T0) t_L (((rd (Ty.z T0) t_L n).2).1)).2).2).2).2).2)) fun r6 =>
 bindF (f117 (g.1,g.2) (q23_4.2.1,q23_4.2.2)) fun r7 =>
 bindF (f117 (r6.2.1,r6.2.2) (g.1,g.2)) fun r8 =>
 some ((0:Int),r7.2.1,r7.2.2,r8.2.1,r8.2.2,t_L)
 else
 bif (((rd (Ty.z T0) t_L n).1) == (7:Int)) then
 bindF (f116 (g.1,g.2)) fun q29_4 =>
 some ((0:Int),q29_4.2.1,q29_4.2.2,[],[],t_L)
 else
 bif (((rd (Ty.z T0) t_L n).1) == (8:Int)) then
 bindF (f71 ((((((rd (Ty.z T0) t_L (((rd (Ty.z T0) t_L n).2).1)).2).2).2).2).1) (0:Int)) fun q32_4 =>
 bindF (loopF (fun go x=>f76_l5 t_L n g go x.1 x.2) fuelN ((0:Int),q32_4.2)) fun z11 =>
 some ((0:Int),q32_4.1,z11,[],[],t_L)
 else
 bif (((rd (Ty.z T0) t_L n).1) == (9:Int)) then
 guardF (0 ≤ (0:Int) ∧ (0:Int) < (List.length g.2:Int)) <|
 bindF (f71 ((((((rd (Ty.z T0) t_L (((rd (Ty.z T0) t_L n).2).1)).2).2).2).2).1) (rd (0:Int) g.2 (0:Int))) fun q45_6 =>
 some ((0:Int),q45_6.1,q45_6.2,[],[],t_L)
 else
 bif (((rd (Ty.z T0) t_L n).1) == (10:Int)) then
 guardF (0 ≤ (0:Int) ∧ (0:Int) < (List.length g.2:Int)) <|
 bindF (f87 (rd (0:Int) g.2 (0:Int))) fun q47_4 =>
 bindF (f121 q47_4.1 q47_4.2 (0:Int) (0:Int) (0:Int) (List.length ((((((rd (Ty.z T0) t_L (((rd (Ty.z T0) t_L n).2).1)).2).2).2).2).2):Int)) fun q47_8 =>
 bindF (f120 q47_8.1 q47_8.2.1 q47_8.2.2.1 q47_8.2.2.2.1 q47_8.2.2.2.2) fun q47_9 =>
 bindF (f71 ((((((rd (Ty.z T0) t_L (((rd (Ty.z T0) t_L n).2).1)).2).2).2).2).1) q47_9) fun q48_3 =>
 some ((0:Int),q48_3.1,q48_3.2,[],[],t_L)
 else
 bif (((rd (Ty.z T0) t_L n).1) == (11:Int)) then
 bindF (f122 (((((rd (Ty.z T0) t_L n).2).2).2).1) ((((((rd (Ty.z T0) t_L (((rd (Ty.z T0) t_L n).2).1)).2).2).2).2).1,(((((rd (Ty.z T0) t_L (((rd (Ty.z T0) t_L n).2).1)).2).2).2).2).2) (g.1,g.2)) fun q48_7 =>
 some ((0:Int),q48_7.2.1,q48_7.2.2,[],[],t_L)
 else
 bif (((rd (Ty.z T0) t_L n).1) == (12:Int)) then
 bindF (f76_j6 t_L n g z4) fun z13 =>
 bindF (f76_j7 t_L n g z4) fun z14 =>
 some ((0:Int),z13.1,z13.2,z14.1,z14.2,t_L)
 else
 bif (((rd (Ty.z T0) t_L n).1) == (13:Int)) then
 bindF (f71 ((((((rd (Ty.z T0) t_L (((rd (Ty.z T0) t_L n).2).1)).2).2).2).2).1) (0:Int)) fun q55_4 =>
 bindF (f125 ((((((rd (Ty.z T0) t_L (((rd (Ty.z T0) t_L n).2).1)).2).2).2).2).1,(((((rd (Ty.z T0) t_L (((rd (Ty.z T0) t_L n).2).1)).2).2).2).2).2) (((((rd (Ty.z T0) t_L n).2).2).2).1)) fun r15 =>
 bindF (loopF (fun go x=>f76_l8 g r15 go x.1 x.2) fuelN ((0:Int),q55_4.2)) fun z16 =>
 some ((0:Int),q55_4.1,z16,[],[],t_L)
 else
 bindF (f126 (g.1,g.2) ((((((rd (Ty.z T0) t_L (((rd (Ty.z T0) t_L n).2).1)).2).2).2).2).1)) fun q63_4 =>
 some ((0:Int),q63_4.2.1,q63_4.2.2,[],[],t_L)) (fun z2b =>
 some ((1:Int),[],[],[],[],t_L))
def C76 : Con where
 X := NL×Int×(LI×LI)
 Y := Int×LI×LI×LI×LI×NL
 e := 2
 args x := [P0 0 0,.dat T2 x.2.1,.dat T3 x.2.2]
 hin x := [(0,.cells [(.osl 1)]),(1,.arr 45 T0 x.1)]
 F x := f76 x.1 x.2.1 x.2.2
 ret y := [.raw true [(.osl 2),(.osl 3)],.raw true [(.osl 4),(.osl 5)],.dat T2 y.1]
 hout y := [(0,.cells [(.osl 1)]),(1,.arr 45 T0 y.2.2.2.2.2),(2,.arr 3 T2 y.2.1),(3,.arr 40 T2 y.2.2.1),(4,.arr 3 T2 y.2.2.2.1),(5,.arr 40 T2 y.2.2.2.2.1)]
 nout := 6
theorem C76_vc (t_L : NL) (n:Int) (g : LI×LI) (y : Int×LI×LI×LI×LI×NL) (q : f76 t_L n g = some y) : VE Tryz.f76 2 C76 (t_L,n,g) y := by
 unfold f76 at q
 refine OL (OL (OL ?_))
 obtain ⟨z2,hz2,q⟩ := bE q
 refine OQ ⟨Sum.elim (fun z2a=>[(0,⟨[(0,P0 0 0),(1,.dat T2 n),(5,P0 2 0),(6,P0 3 0),(7,P0 4 0),(9,P0 5 0)],[(0,.cells [(.osl 1)]),(1,.arr 45 T0 t_L),(2,.cells [(.d T1 g.1),(.d T1 g.2)]),(3,.cells [N0,N0]),(4,.cells [N0,N0]),(5,.cells [N0,N0])],6⟩)]) (fun z2b=>[(1,⟨[(6,P0 2 0),(7,P0 3 0),(8,D0 1)],[(0,.cells [(.osl 1)]),(1,.arr 45 T0 t_L),(2,.cells [N0,N0]),(3,.cells [N0,N0])],4⟩)]) z2,?_,?_⟩
 ·have q := hz2
  clear hz2
  unfold f76_j2 at q
  obtain ⟨z3,hz3,q⟩ := bE q
  refine OQ ⟨[(0,⟨[(0,P0 0 0),(1,.dat T2 n),(5,P0 2 0),(6,P0 3 0),(7,P0 4 0),(9,P0 5 0),(84,.dat .bool z3)],[(0,.cells [(.osl 1)]),(1,.arr 45 T0 t_L),(2,.cells [(.d T1 g.1),(.d T1 g.2)]),(3,.cells [N0,N0]),(4,.cells [N0,N0]),(5,.cells [N0,N0])],6⟩)],?_,?_⟩
  ·have q := hz3
   clear hz3
   unfold f76_j3 at q
   refine EI (.take 0 (.take 1 (.take 2 (.take 3 (.take 4 (.take 5 (.take 6 (.take 7 (.take 8 (.take 9 (.take 10 (.take 11 (.take 12 (.alt 13 (.take 14 (.take 15 (.take 16 (.take 17 (.take 18 (.take 19 (.take 20 (.take 21 (.take 22 (.take 23 (.take 24 (.take 25 (.take 26 (.take 27 (.alt 28 (.take 29 (.take 30 .done)) .done))))))))))))))) .done)))))))))))))) (EI [] (EI [] (AI rfl (cN q (fun q=>?_) (fun q=>?_)))))
   ·refine gY (gY (gY (gY (gY (gY (cF (cN q (fun q=>?_) (fun q=>?_))))))))
    ·refine AI TV (gY ?_)
     obtain ⟨q2_13,hq2_13,q⟩ := bE q
     refine OL (AI f62_in (cV (cQ C62 (g.1,g.2) q2_13 [] false C62_holds hq2_13 rfl rfl (R2 (K0 (gY (cF (cN q (fun q=>?_) (fun q=>?_)))))))))
     ·refine gY (gY (gY (gY (gY (gY (gY (gI q (fun q=>?_))))))))
      refine gY (gY (gY (AI TV (gY ?_))))
      obtain ⟨q2_28,hq2_28,q⟩ := bE q
      refine OL (AI f73_in (cV (cQ C73 (g.1,(((((rd (Ty.z T0) t_L n).2).2).2).2).1) q2_28 [] false C73_holds hq2_28 rfl rfl (R2 (K0 (gY (cF ?_)))))))
      cases sE q
      refine E4 I6 (R3 (AI (R5 TV) (R6 TV)))
     refine gN (gN (gN (gN (gN (gN (gN (gN (gN (gN (AI TV (gN (gN (cT ?_)))))))))))))
     cases sE q
     refine E4 I6 (R3 (AI (R5 TV) (R6 TV)))
    refine AI TV (gN (gN (cT (gN (gN (gN (gN (gN (gN (gN (gN (gN (gN (gN (AI TV (gN (gN (cT ?_))))))))))))))))))
    cases sE q
    refine E4 I6 (R3 (AI (R5 TV) (R6 TV)))
   refine gN (gN (gN (gN (gN (gN (cT (gN (AI TV (gN (gN (cT (gN (gN (gN (gN (gN (gN (gN (gN (gN (gN (gN (AI TV (gN (gN (cT ?_))))))))))))))))))))))))))
   cases sE q
   refine E4 I6 (R3 (AI (R5 TV) (R6 TV)))
  refine AI (cI q (fun q=>?_) (fun q=>?_)) TV
  ·refine OL (EI (.take 0 (.take 1 (.alt 2 (.alt 3 (.take 4 .done) .done) .done))) (EI [] (EI [] (AI rfl (AI TV (OL (AI TV (OL ?_))))))))
   cases sE q
   refine E4 [(0,some 0),(1,some 1),(2,some 3),(3,some 4)] (R2 (AI (R2 TV) (R4 TV)))
  cases sE q
  refine E4 I6 (R2 (AI (R5 TV) (R6 TV)))
 rcases z2 with z2a | z2b
 ·dsimp only [sumF] at q
  refine AI (OL (gI q (fun q=>?_))) TV
  refine OL (OL (OL (cI q (fun q=>?_) (fun q=>?_))))
  ·refine OL (EI (.take 0 (.take 1 (.alt 2 (.alt 3 (.take 4 .done) .done) .done))) (EI [] (EI [] (AI rfl (AI TV (OL (AI TV (OL ?_))))))))
   cases sE q
   refine AI rfl (E4 [(0,some 0),(1,some 1),(2,none),(3,none),(4,none),(5,none)] (R2 (AI (R2 TV) (R6 TV))))
  refine OL (EI (.take 0 (.take 1 (.take 2 (.take 3 (.take 4 (.take 5 (.take 6 (.take 7 (.take 8 (.alt 9 (.alt 10 .done .done) .done)))))))))) (EI [] (EI [] (AI rfl (gI q (fun q=>?_))))))
  refine AI TV (AI TV (OL (OL (OL ?_))))
  obtain ⟨z4,hz4,q⟩ := bE q
  refine OQ ⟨[(0,⟨[(5,P0 2 0),(6,P0 3 0),(7,P0 4 0),(9,P0 5 0),(10,P0 6 0),(11,P0 7 0),(12,P0 8 0)],[(0,.cells [(.osl 1)]),(1,.arr 45 T0 t_L),(2,.cells [(.d T1 g.1),(.d T1 g.2)]),(3,.cells [N0,N0]),(4,.cells [N0,N0]),(5,.cells [N0,N0]),(6,.cells [(.d T2 ((rd (Ty.z T0) t_L n).1)),(.d T2 (((rd (Ty.z T0) t_L n).2).1)),(.d T2 ((((rd (Ty.z T0) t_L n).2).2).1)),(.d T2 (((((rd (Ty.z T0) t_L n).2).2).2).1)),(.d T1 ((((((rd (Ty.z T0) t_L n).2).2).2).2).1)),(.d T1 ((((((rd (Ty.z T0) t_L n).2).2).2).2).2))]),(7,.cells [(.d T1 ((((((rd (Ty.z T0) t_L (((rd (Ty.z T0) t_L n).2).1)).2).2).2).2).1)),(.d T1 ((((((rd (Ty.z T0) t_L (((rd (Ty.z T0) t_L n).2).1)).2).2).2).2).2))]),(8,.cells [(.d T1 z4.1),(.d T1 z4.2)])],9⟩)],?_,?_⟩
  ·have q := hz4
   clear hz4
   unfold f76_j4 at q
   refine OL (cI q (fun q=>?_) (fun q=>?_))
   ·refine EI (.take 0 (.take 1 (.take 2 (.take 3 (.take 4 (.take 5 (.take 6 (.take 7 (.take 8 (.alt 9 .done .done)))))))))) (EI [] (EI [] (AI rfl (gI q (fun q=>?_)))))
    refine AI TV (OL ?_)
    cases sE q
    refine E4 I9 (AI rfl (AI (R7 TV) (R9 TV)))
   cases sE q
   refine EI [] (EI [] (EI [(8,0,T2),(8,1,T2)] (EI [] (EI I9 (AI rfl (AI (R7 TV) (R9 TV)))))))
  refine AI (OL (OL (OL (cI q (fun q=>?_) (fun q=>?_))))) TV
  ·refine OL (EI (.take 0 (.take 1 (.take 2 (.take 4 (.take 5 (.take 6 (.alt 3 (.alt 7 (.alt 8 (.alt 9 (.take 10 .done) .done) .done) .done) .done))))))) (EI [] (EI [] (AI rfl (AI TV ?_)))))
   obtain ⟨q13_3,hq13_3,q⟩ := bE q
   refine OL (AI f114_in (cV (cQ C114 ((g.1,g.2),(((((rd (Ty.z T0) t_L (((rd (Ty.z T0) t_L n).2).1)).2).2).2).2).1) q13_3 [] false C114_holds hq13_3 rfl rfl (R3 (K0 (AI TV ?_))))))
   obtain ⟨q13_7,hq13_7,q⟩ := bE q
   refine OL (AI f114_in (cV (cQ C114 ((g.1,g.2),z4.1) q13_7 [] false C114_holds hq13_7 rfl rfl (R3 (K0 (AI TV (OL (AI TV (OL ?_)))))))))
   cases sE q
   refine AI rfl (E4 [(0,some 0),(1,some 1),(2,some 9),(3,some 10),(4,some 11),(5,some 12)] (R2 (AI (R2 TV) (R6 TV))))
  refine OL (cI q (fun q=>?_) (fun q=>?_))
  ·refine OL ?_
   obtain ⟨q13_10,hq13_10,q⟩ := bE q
   have hq13_10 : C115.F ((g.1,g.2),(-4294967296:Int)) = some q13_10 := hq13_10
   refine OL (AI f115_in (cV (cQ C115 _ q13_10 [] false C115_holds hq13_10 rfl rfl (R3 (K0 (OL (OL (EI (.take 0 (.take 1 (.take 2 (.take 4 (.take 5 (.take 6 (.alt 3 (.alt 7 (.alt 8 (.alt 9 (.take 10 .done) .done) .done) .done) .done))))))) (EI [] (EI [] (AI rfl (AI TV ?_))))))))))))
   obtain ⟨q16_3,hq16_3,q⟩ := bE q
   refine OL (AI f114_in (cV (cQ C114 ((g.1,g.2),(((((rd (Ty.z T0) t_L (((rd (Ty.z T0) t_L n).2).1)).2).2).2).2).1) q16_3 [] false C114_holds hq16_3 rfl rfl (R3 (K0 (AI TV ?_))))))
   obtain ⟨q16_7,hq16_7,q⟩ := bE q
   refine OL (AI f114_in (cV (cQ C114 ((q13_10.2.1,q13_10.2.2),z4.1) q16_7 [] true C114_holds hq16_7 rfl rfl (R3 (AI (fun _=>rfl) (R2 (AI TV (AI TV (AI TV (OL (AI TV (OL ?_))))))))))))
   cases sE q
   refine AI rfl (E4 [(0,some 0),(1,some 1),(2,some 12),(3,some 13),(4,some 14),(5,some 15)] (R2 (AI (R2 TV) (R6 TV))))
  refine OL (cI q (fun q=>?_) (fun q=>?_))
  ·refine OL ?_
   obtain ⟨q16_10,hq16_10,q⟩ := bE q
   refine OL (AI f77_in (cV (cQ C77 ((2:Int),(g.1,g.2),(z4.1,z4.2)) q16_10 [] false C77_holds hq16_10 rfl rfl (R5 (K0 (OL (OL ?_)))))))
   obtain ⟨r5,hr5,q⟩ := bE q
   refine OL (AI f77_in (cV (cQ C77 ((2:Int),(g.1,g.2),((((((rd (Ty.z T0) t_L (((rd (Ty.z T0) t_L n).2).1)).2).2).2).2).1,(((((rd (Ty.z T0) t_L (((rd (Ty.z T0) t_L n).2).1)).2).2).2).2).2)) r5 [] false C77_holds hr5 rfl rfl (R5 (K0 (OL (OL (EI (.take 0 (.take 1 (.take 2 (.take 4 (.take 5 (.take 6 (.alt 3 (.alt 7 (.alt 8 (.alt 9 (.take 10 .done) .done) .done) .done) .done))))))) (EI [] (EI [] (AI rfl (AI TV ?_))))))))))))
   obtain ⟨q20_3,hq20_3,q⟩ := bE q
   refine OL (AI f114_in (cV (cQ C114 ((q16_10.2.1,q16_10.2.2),(((((rd (Ty.z T0) t_L (((rd (Ty.z T0) t_L n).2).1)).2).2).2).2).1) q20_3 [] true C114_holds hq20_3 rfl rfl (R3 (AI (fun _=>rfl) (R2 (AI TV (AI TV (AI TV ?_)))))))))
   obtain ⟨q20_7,hq20_7,q⟩ := bE q
   refine OL (AI f114_in (cV (cQ C114 ((r5.2.1,r5.2.2),z4.1) q20_7 [] true C114_holds hq20_7 rfl rfl (R3 (AI (fun _=>rfl) (R2 (AI TV (AI TV (AI TV (OL (AI TV (OL ?_))))))))))))
   cases sE q
   refine AI rfl (E4 [(0,some 0),(1,some 1),(2,some 15),(3,some 16),(4,some 17),(5,some 18)] (R2 (AI (R2 TV) (R6 TV))))
  refine OL (cI q (fun q=>?_) (fun q=>?_))
  ·refine OL ?_
   obtain ⟨q20_10,hq20_10,q⟩ := bE q
   refine OL (AI f115_in (cV (cQ C115 ((g.1,g.2),((((rd (Ty.z T0) t_L n).2).2).2).1) q20_10 [] false C115_holds hq20_10 rfl rfl (R3 (K0 (OL (OL (EI (.take 0 (.take 1 (.alt 2 (.alt 3 (.take 4 .done) .done) .done))) (EI [] (EI [] (AI rfl (AI TV (OL (AI TV (OL ?_)))))))))))))))
   cases sE q
   refine AI rfl (E4 [(0,some 0),(1,some 1),(2,some 9),(3,some 10),(4,none),(5,none)] (R2 (AI (R2 TV) (R6 TV))))
  refine OL (cI q (fun q=>?_) (fun q=>?_))
  ·refine OL ?_
   obtain ⟨q23_4,hq23_4,q⟩ := bE q
   refine OL (AI f116_in (cV (cQ C116 (z4.1,z4.2) q23_4 [] false C116_holds hq23_4 rfl rfl (R2 (K0 (OL (OL ?_)))))))
   obtain ⟨r6,hr6,q⟩ := bE q
   refine OL (AI f116_in (cV (cQ C116 ((((((rd (Ty.z T0) t_L (((rd (Ty.z T0) t_L n).2).1)).2).2).2).2).1,(((((rd (Ty.z T0) t_L (((rd (Ty.z T0) t_L n).2).1)).2).2).2).2).2) r6 [] false C116_holds hr6 rfl rfl (R2 (K0 (OL (OL ?_)))))))
   obtain ⟨r7,hr7,q⟩ := bE q
   refine OL (AI f117_in (cV (cQ C117 ((g.1,g.2),(q23_4.2.1,q23_4.2.2)) r7 [] true C117_holds hr7 rfl rfl (R4 (AI (fun _=>rfl) (R2 (AI TV (AI TV (OL (OL ?_))))))))))
   obtain ⟨r8,hr8,q⟩ := bE q
   refine OL (AI f117_in (cV (cQ C117 ((r6.2.1,r6.2.2),(g.1,g.2)) r8 [] true C117_holds hr8 rfl rfl (R4 (AI (fun _=>rfl) (R2 (AI TV (AI TV (OL (OL (EI (.take 0 (.take 1 (.alt 2 (.alt 3 (.take 4 .done) .done) .done))) (EI [] (EI [] (AI rfl (AI TV (OL (AI TV (OL ?_))))))))))))))))))
   cases sE q
   refine AI rfl (E4 [(0,some 0),(1,some 1),(2,some 15),(3,some 16),(4,some 18),(5,some 19)] (R2 (AI (R2 TV) (R6 TV))))
  refine OL (cI q (fun q=>?_) (fun q=>?_))
  ·refine OL ?_
   obtain ⟨q29_4,hq29_4,q⟩ := bE q
   refine OL (AI f116_in (cV (cQ C116 (g.1,g.2) q29_4 [] false C116_holds hq29_4 rfl rfl (R2 (K0 (OL (OL (EI (.take 0 (.take 1 (.alt 2 (.alt 3 (.take 4 .done) .done) .done))) (EI [] (EI [] (AI rfl (AI TV (OL (AI TV (OL ?_)))))))))))))))
   cases sE q
   refine AI rfl (E4 [(0,some 0),(1,some 1),(2,some 9),(3,some 10),(4,none),(5,none)] (R2 (AI (R2 TV) (R6 TV))))
  refine OL (cI q (fun q=>?_) (fun q=>?_))
  ·refine OL ?_
   obtain ⟨q32_4,hq32_4,q⟩ := bE q
   refine OL (AI f71_in (cV (cQ C71 ((((((rd (Ty.z T0) t_L (((rd (Ty.z T0) t_L n).2).1)).2).2).2).2).1,(0:Int)) q32_4 [] false C71_holds hq32_4 rfl rfl (R2 (K0 (OL (OL (OL (OL ?_)))))))))
   obtain ⟨z11,hz11,q⟩ := bE q
   refine lI (Int×LI) LI (fun x=>⟨[(5,P0 2 0),(6,P0 3 0),(7,P0 4 0),(9,P0 5 0),(11,P0 6 0),(31,P0 7 0),(32,.dat T2 (((((rd (Ty.z T0) t_L n).2).2).2).1)),(33,.dat T2 x.1)],[(0,.cells [(.osl 1)]),(1,.arr 45 T0 t_L),(2,.cells [(.d T1 g.1),(.d T1 g.2)]),(3,.cells [N0,N0]),(4,.cells [N0,N0]),(5,.cells [N0,N0]),(6,.cells [(.d T1 ((((((rd (Ty.z T0) t_L (((rd (Ty.z T0) t_L n).2).1)).2).2).2).2).1)),(.d T1 ((((((rd (Ty.z T0) t_L (((rd (Ty.z T0) t_L n).2).1)).2).2).2).2).2))]),(7,.cells [(.osl 8),(.osl 9)]),(8,.arr 3 T2 q32_4.1),(9,.arr 40 T2 x.2)],10⟩) (fun z=>[(3,⟨[(6,P0 2 0),(7,P0 3 0),(9,P0 4 0),(31,P0 5 0)],[(0,.cells [(.osl 1)]),(1,.arr 45 T0 t_L),(2,.cells [N0,N0]),(3,.cells [N0,N0]),(4,.cells [N0,N0]),(5,.cells [(.osl 6),(.osl 7)]),(6,.arr 3 T2 q32_4.1),(7,.arr 40 T2 z)],8⟩)]) (loopF (fun go x=>f76_l5 t_L n g go x.1 x.2)) fuelN ((0:Int),q32_4.2) z11 (AI hz11 (AI (E4 [(0,some 0),(1,some 1),(2,some 2),(3,some 3),(4,some 4),(5,some 5),(6,some 7),(7,some 11),(8,some 9),(9,some 10)] (R3 (AI (R6 TV) (R10 TV)))) (AI (fun _ _ h=>lZ h) (AI (fun m=>curI (fun i=>fun l9 z q=>?_)) ?_))))
   ·have q : f76_l5 t_L n g (loopF (fun go x=>f76_l5 t_L n g go x.1 x.2) m) i l9 = some z := q
    unfold f76_l5 at q
    refine OL (OL (cI q (fun q=>?_) (fun q=>?_)))
    ·refine OL (OL ?_)
     obtain ⟨r12,hr12,q⟩ := bE q
     refine OL (AI f118_in (cV (cQ C118 ((((((rd (Ty.z T0) t_L (((rd (Ty.z T0) t_L n).2).1)).2).2).2).2).1,i) r12 [] false C118_holds hr12 rfl rfl (R2 (K0 (OL (EI (.take 1 (.take 2 (.take 3 (.take 5 (.take 6 (.take 7 (.take 8 (.alt 0 (.alt 4 (.alt 9 (.take 10 .done) .done) .done) .done)))))))) (EI [] (EI [10] (AI rfl (gI q (fun q=>?_))))))))))))
     refine gI q (fun q=>?_)
     refine AI TV (OL (AI TV (OL (gI q (fun q=>?_)))))
     refine AI TV (OL (gI q (fun q=>?_)))
     refine OL ?_
     obtain ⟨q40_10,hq40_10,q⟩ := bE q
     refine OL (AI f119_in (cV (cQ C119 (g.1,((([] : LI) ++ (List.take (Int.toNat (((((rd (Ty.z T0) t_L n).2).2).2).1)) r12.2)) ++ (List.drop (Int.toNat (i64.wrap ((((((rd (Ty.z T0) t_L n).2).2).2).1) + (1:Int)))) r12.2))) q40_10 [] true C119_holds hq40_10 rfl rfl (R2 (AI (fun _=>rfl) (R2 (AI TV (AI TV (EI (.take 0 (.take 1 (.take 2 (.take 3 (.take 4 (.take 5 (.take 6 (.take 7 (.take 8 (.alt 9 .done .done)))))))))) (EI [] (EI [] (AI rfl (gI q (fun q=>?_))))))))))))))
     refine gI q (fun q=>?_)
     refine AI TV (OL (EI ((i64.wrap (i + (1:Int))),(List.set l9 (Int.toNat i) (rd (0:Int) g.2 q40_10.1))) (AI q (E4 I10 (R3 (AI (R6 TV) (R10 TV)))))))
    cases sE q
    refine E4 [(0,some 0),(1,some 1),(2,some 3),(3,some 4),(4,some 5),(5,some 7),(6,some 8),(7,some 9)] (AI rfl (AI (R4 TV) (R8 TV)))
   refine AI (OL (EI (.take 0 (.take 1 (.alt 2 (.alt 3 (.take 4 .done) .done) .done))) (EI [] (EI [] (AI rfl (AI TV (OL (AI TV (OL ?_))))))))) TV
   cases sE q
   refine AI rfl (E4 [(0,some 0),(1,some 1),(2,some 6),(3,some 7),(4,none),(5,none)] (R2 (AI (R2 TV) (R6 TV))))
  refine OL (cI q (fun q=>?_) (fun q=>?_))
  ·refine OL (EI (.take 0 (.take 1 (.take 2 (.take 3 (.take 4 (.take 5 (.take 7 (.alt 6 (.alt 8 (.alt 9 (.take 10 .done) .done) .done) .done)))))))) (EI [] (EI [] (AI rfl (gI q (fun q=>?_))))))
   refine AI TV ?_
   obtain ⟨q45_6,hq45_6,q⟩ := bE q
   refine OL (AI f71_in (cV (cQ C71 ((((((rd (Ty.z T0) t_L (((rd (Ty.z T0) t_L n).2).1)).2).2).2).2).1,(rd (0:Int) g.2 (0:Int))) q45_6 [] false C71_holds hq45_6 rfl rfl (R2 (K0 (AI TV (OL (AI TV (OL ?_)))))))))
   cases sE q
   refine AI rfl (E4 [(0,some 0),(1,some 1),(2,some 9),(3,some 10),(4,none),(5,none)] (R2 (AI (R2 TV) (R6 TV))))
  refine OL (cI q (fun q=>?_) (fun q=>?_))
  ·refine OL (EI (.take 0 (.take 1 (.take 2 (.take 3 (.take 5 (.take 6 (.take 7 (.alt 4 (.alt 8 (.alt 9 (.take 10 .done) .done) .done) .done)))))))) (EI [] (EI [] (AI rfl (gI q (fun q=>?_))))))
   refine AI TV ?_
   obtain ⟨q47_4,hq47_4,q⟩ := bE q
   refine OL (AI f87_in (cV (cQ C87 (rd (0:Int) g.2 (0:Int)) q47_4 [] false C87_holds hq47_4 rfl rfl (AI rfl (K0 (AI TV ?_))))))
   obtain ⟨q47_8,hq47_8,q⟩ := bE q
   refine OL (AI f121_in (cV (cQ C121 (q47_4.1,q47_4.2,(0:Int),(0:Int),(0:Int),(List.length ((((((rd (Ty.z T0) t_L (((rd (Ty.z T0) t_L n).2).1)).2).2).2).2).2):Int)) q47_8 [] false C121_holds hq47_8 rfl rfl (AI rfl (AI NH (R2 (AJ (AI TV (AI TV ?_)))))))))
   obtain ⟨q47_9,hq47_9,q⟩ := bE q
   refine OL (AI f120_in (cV (cQ C120 (q47_8.1,q47_8.2.1,q47_8.2.2.1,q47_8.2.2.2.1,q47_8.2.2.2.2) q47_9 [] false C120_holds hq47_9 rfl rfl (AI NH (R2 (AJ (AI TV (OL (EI (.take 0 (.take 1 (.take 2 (.take 4 (.alt 3 (.alt 5 (.alt 6 (.take 7 .done) .done) .done) .done))))) (EI [] (EI [] (AI rfl (AI TV ?_)))))))))))))
   obtain ⟨q48_3,hq48_3,q⟩ := bE q
   refine OL (AI f71_in (cV (cQ C71 ((((((rd (Ty.z T0) t_L (((rd (Ty.z T0) t_L n).2).1)).2).2).2).2).1,q47_9) q48_3 [] false C71_holds hq48_3 rfl rfl (R2 (K0 (AI TV (OL (AI TV (OL ?_)))))))))
   cases sE q
   refine AI rfl (E4 [(0,some 0),(1,some 1),(2,some 9),(3,some 10),(4,none),(5,none)] (R2 (AI (R2 TV) (R6 TV))))
  refine OL (cI q (fun q=>?_) (fun q=>?_))
  ·refine OL ?_
   obtain ⟨q48_7,hq48_7,q⟩ := bE q
   refine OL (AI f122_in (cV (cQ C122 (((((rd (Ty.z T0) t_L n).2).2).2).1,((((((rd (Ty.z T0) t_L (((rd (Ty.z T0) t_L n).2).1)).2).2).2).2).1,(((((rd (Ty.z T0) t_L (((rd (Ty.z T0) t_L n).2).1)).2).2).2).2).2),(g.1,g.2)) q48_7 [] false C122_holds hq48_7 rfl rfl (R5 (K0 (OL (OL (EI (.take 0 (.take 1 (.alt 2 (.alt 3 (.take 4 .done) .done) .done))) (EI [] (EI [] (AI rfl (AI TV (OL (AI TV (OL ?_)))))))))))))))
   cases sE q
   refine AI rfl (E4 [(0,some 0),(1,some 1),(2,some 9),(3,some 10),(4,none),(5,none)] (R2 (AI (R2 TV) (R6 TV))))
  refine OL (cI q (fun q=>?_) (fun q=>?_))
  ·obtain ⟨z13,hz13,q⟩ := bE q
   refine OQ ⟨[(0,⟨[(5,P0 2 0),(6,P0 3 0),(7,P0 4 0),(10,P0 5 0),(11,P0 6 0),(12,P0 7 0),(42,P0 8 0)],[(0,.cells [(.osl 1)]),(1,.arr 45 T0 t_L),(2,.cells [(.d T1 g.1),(.d T1 g.2)]),(3,.cells [N0,N0]),(4,.cells [N0,N0]),(5,.cells [(.d T2 ((rd (Ty.z T0) t_L n).1)),(.d T2 (((rd (Ty.z T0) t_L n).2).1)),(.d T2 ((((rd (Ty.z T0) t_L n).2).2).1)),(.d T2 (((((rd (Ty.z T0) t_L n).2).2).2).1)),(.d T1 ((((((rd (Ty.z T0) t_L n).2).2).2).2).1)),(.d T1 ((((((rd (Ty.z T0) t_L n).2).2).2).2).2))]),(6,.cells [(.d T1 ((((((rd (Ty.z T0) t_L (((rd (Ty.z T0) t_L n).2).1)).2).2).2).2).1)),(.d T1 ((((((rd (Ty.z T0) t_L (((rd (Ty.z T0) t_L n).2).1)).2).2).2).2).2))]),(7,.cells [(.d T1 z4.1),(.d T1 z4.2)]),(8,.cells [(.osl 9),(.osl 10)]),(9,.arr 3 T2 z13.1),(10,.arr 40 T2 z13.2)],11⟩)],?_,?_⟩
   ·have q := hz13
    clear hz13
    unfold f76_j6 at q
    obtain ⟨g53_0,q⟩ := gE q
    obtain ⟨q53_8,hq53_8,q⟩ := bE q
    refine EI (.take 0 (.take 1 (.take 2 (.take 3 (.take 4 (.take 5 (.take 6 (.take 7 (.alt 8 (.take 9 (.take 10 (.take 11 (.alt 12 (.alt 13 (.take 14 .done) .done) .done)))) (.alt 12 (.alt 8 (.take 9 (.take 10 (.take 11 (.alt 13 (.take 14 .done) .done)))) .done) .done)))))))))) (EI [] (EI [] (AI rfl (AI g53_0 (AI (AI TV ?_) ?_)))))
    ·refine AI TV (OL (AI f123_in (cV (cQ C123 ((g.1,g.2),(z4.1,z4.2),((((rd (Ty.z T0) t_L n).2).2).2).1,(rd (0:Int) ((((((rd (Ty.z T0) t_L (((rd (Ty.z T0) t_L n).2).1)).2).2).2).2).1) (1:Int))) q53_8 [] false C123_holds hq53_8 rfl rfl (R6 (K0 (AI TV (OL ?_))))))))
     cases sE q
     refine E4 [(0,some 0),(1,some 1),(2,some 2),(3,some 3),(4,some 4),(5,some 6),(6,some 7),(7,some 8),(8,some 9),(9,some 10),(10,some 11)] (AI rfl (AI (R7 TV) (R11 TV)))
    refine OL (AI f123_in (cV (cQ C123 ((g.1,g.2),(z4.1,z4.2),((((rd (Ty.z T0) t_L n).2).2).2).1,(rd (0:Int) ((((((rd (Ty.z T0) t_L (((rd (Ty.z T0) t_L n).2).1)).2).2).2).2).1) (1:Int))) q53_8 [] false C123_holds hq53_8 rfl rfl (R6 (K0 (AI TV (AI TV (OL ?_))))))))
    cases sE q
    refine E4 [(0,some 0),(1,some 1),(2,some 2),(3,some 3),(4,some 4),(5,some 6),(6,some 7),(7,some 8),(8,some 11),(9,some 9),(10,some 10)] (AI rfl (AI (R7 TV) (R11 TV)))
   refine AI ?_ TV
   obtain ⟨z14,hz14,q⟩ := bE q
   refine OQ ⟨[(0,⟨[(6,P0 2 0),(7,P0 3 0),(42,P0 4 0),(44,P0 5 0)],[(0,.cells [(.osl 1)]),(1,.arr 45 T0 t_L),(2,.cells [N0,N0]),(3,.cells [N0,N0]),(4,.cells [(.osl 6),(.osl 7)]),(5,.cells [(.osl 8),(.osl 9)]),(6,.arr 3 T2 z13.1),(7,.arr 40 T2 z13.2),(8,.arr 3 T2 z14.1),(9,.arr 40 T2 z14.2)],10⟩)],?_,?_⟩
   ·have q := hz14
    clear hz14
    unfold f76_j7 at q
    obtain ⟨g54_0,q⟩ := gE q
    obtain ⟨q54_8,hq54_8,q⟩ := bE q
    refine EI (.take 0 (.take 1 (.take 2 (.take 3 (.take 4 (.take 5 (.take 6 (.take 7 (.alt 8 (.take 9 (.take 10 (.take 11 (.alt 12 (.alt 13 (.take 14 .done) .done) .done)))) (.alt 12 (.alt 8 (.take 9 (.take 10 (.take 11 (.alt 13 (.take 14 .done) .done)))) .done) .done)))))))))) (EI [] (EI [] (AI rfl (AI g54_0 (AI (AI TV ?_) ?_)))))
    ·refine AI TV (OL (AI f124_in (cV (cQ C124 ((g.1,g.2),((((((rd (Ty.z T0) t_L (((rd (Ty.z T0) t_L n).2).1)).2).2).2).2).1,(((((rd (Ty.z T0) t_L (((rd (Ty.z T0) t_L n).2).1)).2).2).2).2).2),((((rd (Ty.z T0) t_L n).2).2).2).1,(rd (0:Int) z4.1 (2:Int))) q54_8 [] false C124_holds hq54_8 rfl rfl (R6 (K0 (AI TV (OL ?_))))))))
     cases sE q
     refine E4 [(0,some 0),(1,some 1),(2,some 3),(3,some 4),(4,some 8),(5,some 11),(6,some 9),(7,some 10),(8,some 12),(9,some 13)] (AI rfl (AI (R4 TV) (R10 TV)))
    refine OL (AI f124_in (cV (cQ C124 ((g.1,g.2),((((((rd (Ty.z T0) t_L (((rd (Ty.z T0) t_L n).2).1)).2).2).2).2).1,(((((rd (Ty.z T0) t_L (((rd (Ty.z T0) t_L n).2).1)).2).2).2).2).2),((((rd (Ty.z T0) t_L n).2).2).2).1,(rd (0:Int) z4.1 (2:Int))) q54_8 [] false C124_holds hq54_8 rfl rfl (R6 (K0 (AI TV (AI TV (OL ?_))))))))
    cases sE q
    refine E4 [(0,some 0),(1,some 1),(2,some 3),(3,some 4),(4,some 8),(5,some 13),(6,some 9),(7,some 10),(8,some 11),(9,some 12)] (AI rfl (AI (R4 TV) (R10 TV)))
   refine AI (OL (EI (.take 0 (.take 1 (.alt 2 (.alt 3 (.take 4 .done) .done) .done))) (EI [] (EI [] (AI rfl (AI TV (OL (AI TV (OL ?_))))))))) TV
   cases sE q
   refine AI rfl (E4 [(0,some 0),(1,some 1),(2,some 6),(3,some 7),(4,some 8),(5,some 9)] (R2 (AI (R2 TV) (R6 TV))))
  refine OL (cI q (fun q=>?_) (fun q=>?_))
  ·refine OL ?_
   obtain ⟨q55_4,hq55_4,q⟩ := bE q
   refine OL (AI f71_in (cV (cQ C71 ((((((rd (Ty.z T0) t_L (((rd (Ty.z T0) t_L n).2).1)).2).2).2).2).1,(0:Int)) q55_4 [] false C71_holds hq55_4 rfl rfl (R2 (K0 (OL (OL ?_)))))))
   obtain ⟨r15,hr15,q⟩ := bE q
   refine OL (AI f125_in (cV (cQ C125 (((((((rd (Ty.z T0) t_L (((rd (Ty.z T0) t_L n).2).1)).2).2).2).2).1,(((((rd (Ty.z T0) t_L (((rd (Ty.z T0) t_L n).2).1)).2).2).2).2).2),((((rd (Ty.z T0) t_L n).2).2).2).1) r15 [] false C125_holds hr15 rfl rfl (R3 (K0 (OL (OL (OL ?_))))))))
   obtain ⟨z16,hz16,q⟩ := bE q
   refine lI (Int×LI) LI (fun x=>⟨[(5,P0 2 0),(6,P0 3 0),(7,P0 4 0),(9,P0 5 0),(46,P0 6 0),(48,O0 7),(50,.dat T2 x.1)],[(0,.cells [(.osl 1)]),(1,.arr 45 T0 t_L),(2,.cells [(.d T1 g.1),(.d T1 g.2)]),(3,.cells [N0,N0]),(4,.cells [N0,N0]),(5,.cells [N0,N0]),(6,.cells [(.osl 8),(.osl 9)]),(7,.arr 3 T2 r15.2.2.2),(8,.arr 3 T2 q55_4.1),(9,.arr 40 T2 x.2)],10⟩) (fun z=>[(5,⟨[(6,P0 2 0),(7,P0 3 0),(9,P0 4 0),(46,P0 5 0)],[(0,.cells [(.osl 1)]),(1,.arr 45 T0 t_L),(2,.cells [N0,N0]),(3,.cells [N0,N0]),(4,.cells [N0,N0]),(5,.cells [(.osl 6),(.osl 7)]),(6,.arr 3 T2 q55_4.1),(7,.arr 40 T2 z)],8⟩)]) (loopF (fun go x=>f76_l8 g r15 go x.1 x.2)) fuelN ((0:Int),q55_4.2) z16 (AI hz16 (AI (E4 [(0,some 0),(1,some 1),(2,some 2),(3,some 3),(4,some 4),(5,some 5),(6,some 11),(7,some 14),(8,some 9),(9,some 10)] (R2 (AI (R6 TV) (R10 TV)))) (AI (fun _ _ h=>lZ h) (AI (fun m=>curI (fun i=>fun l9 z q=>?_)) ?_))))
   ·have q : f76_l8 g r15 (loopF (fun go x=>f76_l8 g r15 go x.1 x.2) m) i l9 = some z := q
    unfold f76_l8 at q
    refine OL (OL (cI q (fun q=>?_) (fun q=>?_)))
    ·refine OL (EI (.take 0 (.take 1 (.take 2 (.take 3 (.take 4 (.take 5 (.take 6 (.take 7 (.take 8 (.take 9 (.take 10 (.take 11 (.alt 12 .done .done))))))))))))) (EI [] (EI [] (AI rfl (gI q (fun q=>?_))))))
     refine gI q (fun q=>?_)
     refine gI q (fun q=>?_)
     refine AI TV (OL (EI ((i64.wrap (i + (1:Int))),(List.set l9 (Int.toNat (rd (0:Int) r15.2.2.2 i)) (rd (0:Int) g.2 i))) (AI q (E4 I10 (R2 (AI (R6 TV) (R10 TV)))))))
    cases sE q
    refine E4 [(0,some 0),(1,some 1),(2,some 3),(3,some 4),(4,some 5),(5,some 6),(6,some 8),(7,some 9)] (AI rfl (AI (R4 TV) (R8 TV)))
   refine AI (OL (EI (.take 0 (.take 1 (.alt 2 (.alt 3 (.take 4 .done) .done) .done))) (EI [] (EI [] (AI rfl (AI TV (OL (AI TV (OL ?_))))))))) TV
   cases sE q
   refine AI rfl (E4 [(0,some 0),(1,some 1),(2,some 6),(3,some 7),(4,none),(5,none)] (R2 (AI (R2 TV) (R6 TV))))
  refine OL ?_
  obtain ⟨q63_4,hq63_4,q⟩ := bE q
  refine OL (AI f126_in (cV (cQ C126 ((g.1,g.2),(((((rd (Ty.z T0) t_L (((rd (Ty.z T0) t_L n).2).1)).2).2).2).2).1) q63_4 [] false C126_holds hq63_4 rfl rfl (R3 (K0 (OL (OL (EI (.take 0 (.take 1 (.alt 2 (.alt 3 (.take 4 .done) .done) .done))) (EI [] (EI [] (AI rfl (AI TV (OL (AI TV (OL ?_)))))))))))))))
  cases sE q
  refine AI rfl (E4 [(0,some 0),(1,some 1),(2,some 9),(3,some 10),(4,none),(5,none)] (R2 (AI (R2 TV) (R6 TV))))
 dsimp only [sumF] at q
 refine AI ?_ TV
 cases sE q
 refine AI rfl (E4 [(0,some 0),(1,some 1),(2,none),(3,none),(4,none),(5,none)] (R2 (AI (R2 TV) (R6 TV))))
theorem C76_holds : HP C76 76 := hH Tryz.f76 (by kernel_rfl) rfl (fun x y q=>C76_vc x.1 x.2.1 x.2.2 y q)
theorem f76_in : InP 76 := inP (by kernel_rfl)
def f27_j1 (t_L : NL) (root:Int) : Option (Sum Unit Unit) :=
 bif (decide (root < (0:Int))) then
 some (Sum.inr ())
 else
 bif (decide (root ≥ (List.length t_L:Int))) then
 some (Sum.inr ())
 else
 some (Sum.inl ())
def f27_l2 (t_L : NL) (root:Int) (go : (Int×(List (LI×LI))×Int×LI×LI) → Option ((List (LI×LI))×Int×LI×LI)) (i:Int) (l2 : List (LI×LI)) (i2:Int) (l4 : LI) (l5 : LI) : Option ((List (LI×LI))×Int×LI×LI) :=
 bif (decide (i ≤ root)) then
 guardF (0 ≤ i ∧ i < (List.length t_L:Int)) <|
 bindF (f71 ((((((rd (Ty.z T0) t_L i).2).2).2).2).1) (0:Int)) fun r6 =>
 guardF (0 ≤ i ∧ i < (List.length l2:Int)) <|
 go ((i64.wrap (i + (1:Int))),(List.set l2 (Int.toNat i2) (l4,l5)),i,r6.1,r6.2)
 else
 some (l2,i2,l4,l5)
def f27_j6 (i:Int) (l3 : List Bool) (l1 : NL) : Option (Sum Unit Unit) :=
 guardF (0 ≤ i ∧ i < (List.length l3:Int)) <|
 bif (!(rd false l3 i)) then
 some (Sum.inr ())
 else
 bif (((rd (Ty.z T0) l1 i).1) == (1:Int)) then
 some (Sum.inr ())
 else
 some (Sum.inl ())
def f27_l5 (go : (Int×(List (LI×LI))×(List Bool)×NL) → Option ((List (LI×LI))×NL)) (i:Int) (l2 : List (LI×LI)) (l3 : List Bool) (l1 : NL) : Option ((List (LI×LI))×NL) :=
 bif (decide (i ≥ (0:Int))) then
 guardF (0 ≤ i ∧ i < (List.length l1:Int)) <|
 bindF (f27_j6 i l3 l1) fun z11 =>
 sumF z11 (fun z11a =>
 guardF (0 ≤ i ∧ i < (List.length l2:Int)) <|
 bindF (f76 l1 i ((rd (Ty.z T3) l2 i).1,(rd (Ty.z T3) l2 i).2)) fun q22_14 =>
 guardF (0 ≤ ((rd (Ty.z T0) l1 i).2).1 ∧ ((rd (Ty.z T0) l1 i).2).1 < (List.length l2:Int)) <|
 bindF (f77 (0:Int) ((rd (Ty.z T3) l2 (((rd (Ty.z T0) l1 i).2).1)).1,(rd (Ty.z T3) l2 (((rd (Ty.z T0) l1 i).2).1)).2) (q22_14.2.1,q22_14.2.2.1)) fun q19_9 =>
 guardF (0 ≤ ((rd (Ty.z T0) l1 i).2).1 ∧ ((rd (Ty.z T0) l1 i).2).1 < (List.length l2:Int)) <|
 guardF (0 ≤ ((rd (Ty.z T0) l1 i).2).1 ∧ ((rd (Ty.z T0) l1 i).2).1 < (List.length l3:Int)) <|
 bif (decide (((((rd (Ty.z T0) l1 i).2).2).1) ≥ (0:Int))) then
 guardF (0 ≤ (((rd (Ty.z T0) l1 i).2).2).1 ∧ (((rd (Ty.z T0) l1 i).2).2).1 < (List.length (List.set l2 (Int.toNat (((rd (Ty.z T0) l1 i).2).1)) (q19_9.2.1,q19_9.2.2)):Int)) <|
 bindF (f77 (0:Int) ((rd (Ty.z T3) (List.set l2 (Int.toNat (((rd (Ty.z T0) l1 i).2).1)) (q19_9.2.1,q19_9.2.2)) ((((rd (Ty.z T0) l1 i).2).2).1)).1,(rd (Ty.z T3) (List.set l2 (Int.toNat (((rd (Ty.z T0) l1 i).2).1)) (q19_9.2.1,q19_9.2.2)) ((((rd (Ty.z T0) l1 i).2).2).1)).2) (q22_14.2.2.2.1,q22_14.2.2.2.2.1)) fun q22_9 =>
 guardF (0 ≤ (((rd (Ty.z T0) l1 i).2).2).1 ∧ (((rd (Ty.z T0) l1 i).2).2).1 < (List.length (List.set l2 (Int.toNat (((rd (Ty.z T0) l1 i).2).1)) (q19_9.2.1,q19_9.2.2)):Int)) <|
 guardF (0 ≤ (((rd (Ty.z T0) l1 i).2).2).1 ∧ (((rd (Ty.z T0) l1 i).2).2).1 < (List.length (List.set l3 (Int.toNat (((rd (Ty.z T0) l1 i).2).1)) true):Int)) <|
 go ((i64.wrap (i - (1:Int))),(List.set (List.set l2 (Int.toNat (((rd (Ty.z T0) l1 i).2).1)) (q19_9.2.1,q19_9.2.2)) (Int.toNat ((((rd (Ty.z T0) l1 i).2).2).1)) (q22_9.2.1,q22_9.2.2)),(List.set (List.set l3 (Int.toNat (((rd (Ty.z T0) l1 i).2).1)) true) (Int.toNat ((((rd (Ty.z T0) l1 i).2).2).1)) true),q22_14.2.2.2.2.2)
 else
 go ((i64.wrap (i - (1:Int))),(List.set l2 (Int.toNat (((rd (Ty.z T0) l1 i).2).1)) (q19_9.2.1,q19_9.2.2)),(List.set l3 (Int.toNat (((rd (Ty.z T0) l1 i).2).1)) true),q22_14.2.2.2.2.2)) (fun z11b =>
 go ((i64.wrap (i - (1:Int))),l2,l3,l1))
 else
 some (l2,l1)
def f27 (t_L : NL) (root:Int) : Option (Int×(List (LI×LI))×NL) :=
 bindF (f27_j1 t_L root) fun z1 =>
 sumF z1 (fun z1a =>
 guardF (0 ≤ root ∧ root < (List.length t_L:Int)) <|
 bif ((List.length ((((((rd (Ty.z T0) t_L root).2).2).2).2).2):Int) != (1:Int)) then
 some ((4:Int),[],t_L)
 else
 guardF (0 ≤ (i64.wrap (root + (1:Int))) ∧ (i64.wrap (root + (1:Int))) ≤ (i64.wrap (root + (1:Int))) ∧ Int.toNat (i64.wrap (root + (1:Int))) * 48 ≤ 140737488355328) <|
 guardF (0 ≤ (i64.wrap (root + (1:Int))) ∧ (i64.wrap (root + (1:Int))) ≤ (i64.wrap (root + (1:Int))) ∧ Int.toNat (i64.wrap (root + (1:Int))) * 1 ≤ 140737488355328) <|
 bindF (loopF (fun go x=>f27_l2 t_L root go x.1 x.2.1 x.2.2.1 x.2.2.2.1 x.2.2.2.2) fuelN ((0:Int),(List.replicate (Int.toNat (i64.wrap (root + (1:Int)))) (Ty.z T3)),(List.length (List.replicate (Int.toNat (i64.wrap (root + (1:Int)))) (Ty.z T3)):Int),[],[])) fun z5 =>
 guardF (0 ≤ root ∧ root < (List.length z5.1:Int)) <|
 guardF (root = z5.2.1) <|
 guardF (0 ≤ (0:Int) ∧ (0:Int) < (List.length z5.2.2.2:Int)) <|
 guardF (0 ≤ root ∧ root < (List.length (List.replicate (Int.toNat (i64.wrap (root + (1:Int)))) false):Int)) <|
 bindF (loopF (fun go x=>f27_l5 go x.1 x.2.1 x.2.2.1 x.2.2.2) fuelN (root,(List.set z5.1 (Int.toNat z5.2.1) (z5.2.2.1,(List.set z5.2.2.2 (Int.toNat (0:Int)) (4294967296:Int)))),(List.set (List.replicate (Int.toNat (i64.wrap (root + (1:Int)))) false) (Int.toNat root) true),t_L)) fun z10 =>
 some ((0:Int),z10.1,z10.2)) (fun z1b =>
 some ((1:Int),[],t_L))
def C27 : Con where
 X := NL×Int
 Y := Int×(List (LI×LI))×NL
 e := 2
 args x := [P0 0 0,.dat T2 x.2]
 hin x := [(0,.cells [(.osl 1)]),(1,.arr 45 T0 x.1)]
 F x := f27 x.1 x.2
 ret y := [O0 2,.dat T2 y.1]
 hout y := [(0,.cells [(.osl 1)]),(1,.arr 45 T0 y.2.2),(2,.arr 35 T3 y.2.1)]
 nout := 3
theorem C27_vc (t_L : NL) (root:Int) (y : Int×(List (LI×LI))×NL) (q : f27 t_L root = some y) : VE Tryz.f27 2 C27 (t_L,root) y := by
 unfold f27 at q
 refine OL ?_
 obtain ⟨z1,hz1,q⟩ := bE q
 refine OQ ⟨Sum.elim (fun z1a=>[(0,⟨[(0,P0 0 0),(1,.dat T2 root)],[(0,.cells [(.osl 1)]),(1,.arr 45 T0 t_L)],2⟩)]) (fun z1b=>[(1,⟨[(4,.raw false [N0]),(5,D0 1)],[(0,.cells [(.osl 1)]),(1,.arr 45 T0 t_L)],2⟩)]) z1,?_,?_⟩
 ·have q := hz1
  clear hz1
  unfold f27_j1 at q
  refine OL (cN q (fun q=>?_) (fun q=>?_))
  ·refine gY (gY (gY (gY (gY (gY (cF (cI q (fun q=>?_) (fun q=>?_))))))))
   ·cases sE q
    refine OL (E4 I2 (R2 (AJ (R2 TV))))
   cases sE q
   refine E4 I2 (R2 (AJ (R2 TV)))
  refine gN (gN (gN (gN (gN (gN (cT (cT (OL ?_))))))))
  cases sE q
  refine E4 I2 (R2 (AJ (R2 TV)))
 rcases z1 with z1a | z1b
 ·dsimp only [sumF] at q
  refine AI (OL (OL (gI q (fun q=>?_)))) TV
  refine cI q (fun q=>?_) (fun q=>?_)
  ·cases sE q
   refine OL (AI rfl (E4 [(0,some 0),(1,some 1),(2,none)] (R2 (AJ (R3 TV)))))
  refine OL (gI q (fun q=>?_))
  refine OL (gI q (fun q=>?_))
  refine OL (OL ?_)
  obtain ⟨z5,hz5,q⟩ := bE q
  refine lI (Int×(List (LI×LI))×Int×LI×LI) ((List (LI×LI))×Int×LI×LI) (fun x=>⟨[(0,P0 0 0),(1,.dat T2 root),(6,O0 2),(7,O0 3),(8,.dat T2 x.1)],[(0,.cells [(.osl 1)]),(1,.arr 45 T0 t_L),(2,.hol 35 T3 x.2.1 x.2.2.1 [(.osl 4),(.osl 5)]),(3,.arr 4 .bool (List.replicate (Int.toNat (i64.wrap (root + (1:Int)))) false)),(4,.arr 3 T2 x.2.2.2.1),(5,.arr 40 T2 x.2.2.2.2)],6⟩) (fun z=>[(2,⟨[(0,P0 0 0),(1,.dat T2 root),(6,O0 2),(7,O0 3)],[(0,.cells [(.osl 1)]),(1,.arr 45 T0 t_L),(2,.hol 35 T3 z.1 z.2.1 [(.osl 4),(.osl 5)]),(3,.arr 4 .bool (List.replicate (Int.toNat (i64.wrap (root + (1:Int)))) false)),(4,.arr 3 T2 z.2.2.1),(5,.arr 40 T2 z.2.2.2)],6⟩)]) (loopF (fun go x=>f27_l2 t_L root go x.1 x.2.1 x.2.2.1 x.2.2.2.1 x.2.2.2.2)) fuelN ((0:Int),(List.replicate (Int.toNat (i64.wrap (root + (1:Int)))) (Ty.z T3)),(List.length (List.replicate (Int.toNat (i64.wrap (root + (1:Int)))) (Ty.z T3)):Int),[],[]) z5 (AI hz5 (AI (EI [] (EI [(2,(List.length (List.replicate (Int.toNat (i64.wrap (root + (1:Int)))) (Ty.z T3)):Int),[N0,N0])] (AI (Nat.le_refl _) (EI [] (EI [] (EI [(0,some 0),(1,some 1),(2,some 2),(3,some 3),(4,none),(5,none)] (R3 (AI (R3 TV) (R6 TV))))))))) (AI (fun _ _ h=>lZ h) (AI (fun m=>curI (fun i=>curI (fun l2=>curI (fun i2=>curI (fun l4=>fun l5 z q=>?_))))) ?_))))
  ·have q : f27_l2 t_L root (loopF (fun go x=>f27_l2 t_L root go x.1 x.2.1 x.2.2.1 x.2.2.2.1 x.2.2.2.2) m) i l2 i2 l4 l5 = some z := q
   unfold f27_l2 at q
   refine OL (OL (cI q (fun q=>?_) (fun q=>?_)))
   ·refine OL (gI q (fun q=>?_))
    obtain ⟨r6,hr6,q⟩ := bE q
    refine OL (AI f71_in (cV (cQ C71 ((((((rd (Ty.z T0) t_L i).2).2).2).2).1,(0:Int)) r6 [] false C71_holds hr6 rfl rfl (R2 (K0 (gI q (fun q=>?_)))))))
    refine OQ (AI rfl (EI ((i64.wrap (i + (1:Int))),(List.set l2 (Int.toNat i2) (l4,l5)),i,r6.1,r6.2) (AI q (E4 [(0,some 0),(1,some 1),(2,some 2),(3,some 3),(4,some 6),(5,some 7)] (R3 (AI (R3 TV) (R6 TV)))))))
   cases sE q
   refine E4 I6 (R2 (AI (R3 TV) (R6 TV)))
  refine AI (OL (gI q (fun q=>?_))) TV
  refine gI q (fun q=>?_)
  refine gI q (fun q=>?_)
  refine OL (OL (gI q (fun q=>?_)))
  refine OL (OL (OL ?_))
  obtain ⟨z10,hz10,q⟩ := bE q
  refine lI (Int×(List (LI×LI))×(List Bool)×NL) ((List (LI×LI))×NL) (fun x=>⟨[(0,P0 0 0),(6,O0 2),(7,O0 3),(9,.dat T2 x.1)],[(0,.cells [(.osl 1)]),(1,.arr 45 T0 x.2.2.2),(2,.arr 35 T3 x.2.1),(3,.arr 4 .bool x.2.2.1)],4⟩) (fun z=>[(4,⟨[(6,O0 2)],[(0,.cells [(.osl 1)]),(1,.arr 45 T0 z.2),(2,.arr 35 T3 z.1)],3⟩)]) (loopF (fun go x=>f27_l5 go x.1 x.2.1 x.2.2.1 x.2.2.2)) fuelN (root,(List.set z5.1 (Int.toNat z5.2.1) (z5.2.2.1,(List.set z5.2.2.2 (Int.toNat (0:Int)) (4294967296:Int)))),(List.set (List.replicate (Int.toNat (i64.wrap (root + (1:Int)))) false) (Int.toNat root) true),t_L) z10 (AI hz10 (AI (EI [2] (AI rfl (EI [] (EI [] (EI [] (EI I4 (R2 (AI (R3 TV) (R4 TV))))))))) (AI (fun _ _ h=>lZ h) (AI (fun m=>curI (fun i=>curI (fun l2=>curI (fun l3=>fun l1 z q=>?_)))) ?_))))
  ·have q : f27_l5 (loopF (fun go x=>f27_l5 go x.1 x.2.1 x.2.2.1 x.2.2.2) m) i l2 l3 l1 = some z := q
   unfold f27_l5 at q
   refine OL (OL (cI q (fun q=>?_) (fun q=>?_)))
   ·refine OL (OL (gI q (fun q=>?_)))
    refine OL ?_
    obtain ⟨z11,hz11,q⟩ := bE q
    refine OQ ⟨Sum.elim (fun z11a=>[(0,⟨[(0,P0 0 0),(6,O0 2),(7,O0 3),(9,.dat T2 i),(10,P0 4 0)],[(0,.cells [(.osl 1)]),(1,.arr 45 T0 l1),(2,.arr 35 T3 l2),(3,.arr 4 .bool l3),(4,.cells [(.d T2 ((rd (Ty.z T0) l1 i).1)),(.d T2 (((rd (Ty.z T0) l1 i).2).1)),(.d T2 ((((rd (Ty.z T0) l1 i).2).2).1)),(.d T2 (((((rd (Ty.z T0) l1 i).2).2).2).1)),(.d T1 ((((((rd (Ty.z T0) l1 i).2).2).2).2).1)),(.d T1 ((((((rd (Ty.z T0) l1 i).2).2).2).2).2))])],5⟩)]) (fun z11b=>[(5,⟨[(0,P0 0 0),(6,O0 2),(7,O0 3),(9,.dat T2 i)],[(0,.cells [(.osl 1)]),(1,.arr 45 T0 l1),(2,.arr 35 T3 l2),(3,.arr 4 .bool l3)],4⟩)]) z11,?_,?_⟩
    ·have q := hz11
     clear hz11
     unfold f27_j6 at q
     refine OL (gI q (fun q=>?_))
     refine cN q (fun q=>?_) (fun q=>?_)
     ·refine gY (gY (cF (cI q (fun q=>?_) (fun q=>?_))))
      ·cases sE q
       refine E4 I4 (R2 (AI (R3 TV) (R4 TV)))
      cases sE q
      refine E4 I5 (R2 (AI (R4 TV) (R5 TV)))
     refine gN (gN (cT (cT ?_)))
     cases sE q
     refine E4 I4 (R2 (AI (R3 TV) (R4 TV)))
    rcases z11 with z11a | z11b
    ·dsimp only [sumF] at q
     refine AI (OL (gI q (fun q=>?_))) TV
     obtain ⟨q22_14,hq22_14,q⟩ := bE q
     refine OL (AI f76_in (cV (cQ C76 (l1,i,((rd (Ty.z T3) l2 i).1,(rd (Ty.z T3) l2 i).2)) q22_14 I2 false C76_holds hq22_14 rfl rfl (R3 (AI NH (R2 (AJ (AI (R2 TV) (OL (OL (OL (EI (.take 0 (.take 1 (.take 2 (.take 3 (.take 4 (.take 5 (.take 6 (.take 7 (.take 8 (.alt 9 (.take 10 (.take 11 (.take 12 (.take 13 (.alt 14 .done .done))))) .done)))))))))) (EI [(14,[2])] (EI [] (AI rfl (gI q (fun q=>?_)))))))))))))))))
     refine AI TV ?_
     obtain ⟨q19_9,hq19_9,q⟩ := bE q
     refine OL (AI f77_in (cV (cQ C77 ((0:Int),((rd (Ty.z T3) l2 (((rd (Ty.z T0) l1 i).2).1)).1,(rd (Ty.z T3) l2 (((rd (Ty.z T0) l1 i).2).1)).2),(q22_14.2.1,q22_14.2.2.1)) q19_9 [] true C77_holds hq19_9 rfl rfl (R5 (AI (fun _=>rfl) (R2 (AI TV (AI TV (gI q (fun q=>?_))))))))))
     refine AI TV (OL (OL (gI q (fun q=>?_))))
     refine OL (OL (cI q (fun q=>?_) (fun q=>?_)))
     ·refine OL (EI (.take 0 (.take 1 (.take 2 (.take 3 (.take 4 (.take 5 (.take 6 (.take 7 (.take 8 (.alt 9 (.take 10 (.take 11 (.take 12 (.take 13 (.alt 14 .done .done))))) .done)))))))))) (EI [(14,[2])] (EI [] (AI rfl (gI q (fun q=>?_))))))
      refine AI TV ?_
      obtain ⟨q22_9,hq22_9,q⟩ := bE q
      refine OL (AI f77_in (cV (cQ C77 ((0:Int),((rd (Ty.z T3) (List.set l2 (Int.toNat (((rd (Ty.z T0) l1 i).2).1)) (q19_9.2.1,q19_9.2.2)) ((((rd (Ty.z T0) l1 i).2).2).1)).1,(rd (Ty.z T3) (List.set l2 (Int.toNat (((rd (Ty.z T0) l1 i).2).1)) (q19_9.2.1,q19_9.2.2)) ((((rd (Ty.z T0) l1 i).2).2).1)).2),(q22_14.2.2.2.1,q22_14.2.2.2.2.1)) q22_9 [] true C77_holds hq22_9 rfl rfl (R5 (AI (fun _=>rfl) (R2 (AI TV (AI TV (gI q (fun q=>?_))))))))))
      refine AI TV (OL (gI q (fun q=>?_)))
      refine OL (EI ((i64.wrap (i - (1:Int))),(List.set (List.set l2 (Int.toNat (((rd (Ty.z T0) l1 i).2).1)) (q19_9.2.1,q19_9.2.2)) (Int.toNat ((((rd (Ty.z T0) l1 i).2).2).1)) (q22_9.2.1,q22_9.2.2)),(List.set (List.set l3 (Int.toNat (((rd (Ty.z T0) l1 i).2).1)) true) (Int.toNat ((((rd (Ty.z T0) l1 i).2).2).1)) true),q22_14.2.2.2.2.2) (AI q (E4 I4 (R2 (AI (R3 TV) (R4 TV))))))
     refine EI ((i64.wrap (i - (1:Int))),(List.set l2 (Int.toNat (((rd (Ty.z T0) l1 i).2).1)) (q19_9.2.1,q19_9.2.2)),(List.set l3 (Int.toNat (((rd (Ty.z T0) l1 i).2).1)) true),q22_14.2.2.2.2.2) (AI q (E4 I4 (R2 (AI (R3 TV) (R4 TV)))))
    dsimp only [sumF] at q
    refine AI (EI ((i64.wrap (i - (1:Int))),l2,l3,l1) (AI q (E4 I4 (R2 (AI (R3 TV) (R4 TV)))))) TV
   cases sE q
   refine E4 I3 (AI rfl (AJ (R3 TV)))
  refine AI (OL ?_) TV
  cases sE q
  refine AI rfl (E4 I3 (R2 (AJ (R3 TV))))
 dsimp only [sumF] at q
 refine AI ?_ TV
 cases sE q
 refine AI rfl (E4 [(0,some 0),(1,some 1),(2,none)] (R2 (AJ (R3 TV))))
theorem C27_holds : HP C27 27 := hH Tryz.f27 (by kernel_rfl) rfl (fun x y q=>C27_vc x.1 x.2 y q)
theorem f27_in : InP 27 := inP (by kernel_rfl)
def f249_j1 (kind : ByteArray) : Option Bool :=
 bif (ByteArray.toList kind == ByteArray.toList (ByteArray.mk #[100,101,110,115,101])) then
 some (ByteArray.toList kind == ByteArray.toList (ByteArray.mk #[100,101,110,115,101]))
 else
 bif (ByteArray.toList kind == ByteArray.toList (ByteArray.mk #[112,111,111,108])) then
 some (ByteArray.toList kind == ByteArray.toList (ByteArray.mk #[112,111,111,108]))
 else
 some (ByteArray.toList kind == ByteArray.toList (ByteArray.mk #[98,101,110,100]))
def f249 (kind : ByteArray) : Option Int :=
 bindF (f249_j1 kind) fun z1 =>
 bif z1 then
 some (1:Int)
 else
 bif (ByteArray.toList kind == ByteArray.toList (ByteArray.mk #[99,111,110,118])) then
 some (2:Int)
 else
 bif (ByteArray.toList kind == ByteArray.toList (ByteArray.mk #[115,107,105,112])) then
 some (0:Int)
 else
 some (-1:Int)
def C249 : Con where
 X := ByteArray
 Y := Int
 e := 0
 args x := [.dat .str x]
 hin x := []
 F x := f249 x
 ret y := [.dat T2 y]
 hout y := []
 nout := 0
theorem C249_vc (kind : ByteArray) (y:Int) (q : f249 kind = some y) : VC Tryz.f249 C249 kind y := by
 unfold f249 at q
 refine OL (OL (OL ?_))
 obtain ⟨z1,hz1,q⟩ := bE q
 refine OQ ⟨[(0,⟨[(3,.dat .str kind),(4,.dat .bool z1)],[],0⟩)],?_,?_⟩
 ·have q := hz1
  clear hz1
  unfold f249_j1 at q
  refine OL (cI q (fun q=>?_) (fun q=>?_))
  ·cases sE q
   refine E4 [] (R3 (AI TV TV))
  refine OL (cI q (fun q=>?_) (fun q=>?_))
  ·cases sE q
   refine E4 [] (R3 (AI TV TV))
  cases sE q
  refine E4 [] (R3 (AI TV TV))
 refine AI (cI q (fun q=>?_) (fun q=>?_)) TV
 ·cases sE q
  refine OL (AI rfl (E4 [] (R2 (AI TV TV))))
 refine OL (cI q (fun q=>?_) (fun q=>?_))
 ·cases sE q
  refine OL (AI rfl (E4 [] (R2 (AI TV TV))))
 refine OL (cI q (fun q=>?_) (fun q=>?_))
 ·cases sE q
  refine OL (AI rfl (E4 [] (R2 (AI TV TV))))
 cases sE q
 refine OL (AI rfl (E4 [] (R2 (AI TV TV))))
theorem C249_holds : HP C249 249 := hH Tryz.f249 (by kernel_rfl) rfl (fun x y q=>C249_vc x y q)
theorem f249_in : InP 249 := inP (by kernel_rfl)
def f231 (v:Int) (most:Int) : Option Bool :=
 bif (decide (v ≥ (1:Int))) then
 some (decide (v ≤ most))
 else
 some false
def C231 : Con where
 X := Int×Int
 Y := Bool
 e := 0
 args x := [.dat T2 x.1,.dat T2 x.2]
 hin x := []
 F x := f231 x.1 x.2
 ret y := [.dat .bool y]
 hout y := []
 nout := 0
theorem C231_vc (v:Int) (most:Int) (y : Bool) (q : f231 v most = some y) : VC Tryz.f231 C231 (v,most) y := by
 unfold f231 at q
 refine OL (OL (cI q (fun q=>?_) (fun q=>?_)))
 ·refine gX (gX (cT ?_))
  cases sE q
  refine AI rfl (E4 [] (R2 (AI TV TV)))
 refine gM (gM (cF ?_))
 cases sE q
 refine AI rfl (E4 [] (R2 (AI TV TV)))
theorem C231_holds : HP C231 231 := hH Tryz.f231 (by kernel_rfl) rfl (fun x y q=>C231_vc x.1 x.2 y q)
theorem f231_in : InP 231 := inP (by kernel_rfl)
def f230_j1 (l : ByteArray×Int×Int) : Option (Sum Unit Unit) :=
 bindF (f249 l.1) fun r3 =>
 bif (decide (r3 < (2:Int))) then
 bif (l.2.2 != (0:Int)) then
 some (Sum.inr ())
 else
 some (Sum.inl ())
 else
 some (Sum.inl ())
def f230 (l : ByteArray×Int×Int) : Option Bool :=
 bindF (f230_j1 l) fun z2 =>
 sumF z2 (fun z2a =>
 bif (ByteArray.toList l.1 == ByteArray.toList (ByteArray.mk #[100,101,110,115,101])) then
 bindF (f231 l.2.1 (256:Int)) fun r4 =>
 some r4
 else
 bif (ByteArray.toList l.1 == ByteArray.toList (ByteArray.mk #[99,111,110,118])) then
 bindF (f231 l.2.1 (16:Int)) fun r5 =>
 bif r5 then
 bindF (f231 l.2.2 (16:Int)) fun r6 =>
 some r6
 else
 some false
 else
 bif (ByteArray.toList l.1 == ByteArray.toList (ByteArray.mk #[112,111,111,108])) then
 bindF (f231 l.2.1 (16:Int)) fun r7 =>
 some r7
 else
 bif (ByteArray.toList l.1 == ByteArray.toList (ByteArray.mk #[98,101,110,100])) then
 bindF (f231 l.2.1 (5:Int)) fun r8 =>
 some r8
 else
 bif (ByteArray.toList l.1 == ByteArray.toList (ByteArray.mk #[115,107,105,112])) then
 some (l.2.1 == (0:Int))
 else
 some false) (fun z2b =>
 some false)
def C230 : Con where
 X := ByteArray×Int×Int
 Y := Bool
 e := 0
 args x := [.dat T6 x]
 hin x := []
 F x := f230 x
 ret y := [.dat .bool y]
 hout y := []
 nout := 0
theorem C230_vc (l : ByteArray×Int×Int) (y : Bool) (q : f230 l = some y) : VC Tryz.f230 C230 l y := by
 unfold f230 at q
 refine OL ?_
 obtain ⟨z2,hz2,q⟩ := bE q
 refine OQ ⟨Sum.elim (fun z2a=>[(0,⟨[(1,P0 0 0)],[(0,.cells [(.d .str l.1),(.d T2 l.2.1),(.d T2 l.2.2)])],1⟩)]) (fun z2b=>[(1,⟨[(2,.dat .bool false)],[],0⟩)]) z2,?_,?_⟩
 ·have q := hz2
  clear hz2
  unfold f230_j1 at q
  refine OL ?_
  obtain ⟨r3,hr3,q⟩ := bE q
  refine OL (AI f249_in (cV (cQ C249 l.1 r3 [] false C249_holds hr3 rfl rfl (AI rfl (K0 (cI q (fun q=>?_) (fun q=>?_)))))))
  ·refine gX (gX (cT (cI q (fun q=>?_) (fun q=>?_))))
   ·cases sE q
    refine OL (E4 [] (R2 (AI TV TV)))
   cases sE q
   refine E4 [(0,some 0)] (AI rfl (AJ (AI rfl TV)))
  refine gM (gM (cF (cF ?_)))
  cases sE q
  refine E4 [(0,some 0)] (AI rfl (AJ (AI rfl TV)))
 rcases z2 with z2a | z2b
 ·dsimp only [sumF] at q
  refine AI (OL (OL (OL (cI q (fun q=>?_) (fun q=>?_))))) TV
  ·refine OL ?_
   obtain ⟨r4,hr4,q⟩ := bE q
   refine OL (AI f231_in (cV (cQ C231 (l.2.1,(256:Int)) r4 [] false C231_holds hr4 rfl rfl (R2 (K0 ?_)))))
   cases sE q
   refine AI rfl (E4 [] (R2 (AI TV TV)))
  refine OL (cI q (fun q=>?_) (fun q=>?_))
  ·refine OL ?_
   obtain ⟨r5,hr5,q⟩ := bE q
   refine OL (AI f231_in (cV (cQ C231 (l.2.1,(16:Int)) r5 [] false C231_holds hr5 rfl rfl (R2 (K0 (cI q (fun q=>?_) (fun q=>?_)))))))
   ·refine gX (gX ?_)
    obtain ⟨r6,hr6,q⟩ := bE q
    refine OL (AI f231_in (cV (cQ C231 (l.2.2,(16:Int)) r6 [] false C231_holds hr6 rfl rfl (R2 (K0 (cT ?_))))))
    cases sE q
    refine AI rfl (E4 [] (R2 (AI TV TV)))
   refine gM (gM (cF ?_))
   cases sE q
   refine AI rfl (E4 [] (R2 (AI TV TV)))
  refine OL (cI q (fun q=>?_) (fun q=>?_))
  ·refine OL ?_
   obtain ⟨r7,hr7,q⟩ := bE q
   refine OL (AI f231_in (cV (cQ C231 (l.2.1,(16:Int)) r7 [] false C231_holds hr7 rfl rfl (R2 (K0 ?_)))))
   cases sE q
   refine AI rfl (E4 [] (R2 (AI TV TV)))
  refine OL (cI q (fun q=>?_) (fun q=>?_))
  ·refine OL ?_
   obtain ⟨r8,hr8,q⟩ := bE q
   refine OL (AI f231_in (cV (cQ C231 (l.2.1,(5:Int)) r8 [] false C231_holds hr8 rfl rfl (R2 (K0 ?_)))))
   cases sE q
   refine AI rfl (E4 [] (R2 (AI TV TV)))
  refine OL (cI q (fun q=>?_) (fun q=>?_))
  ·refine gX (gX (cT ?_))
   cases sE q
   refine AI rfl (E4 [] (R2 (AI TV TV)))
  refine gM (gM (cF ?_))
  cases sE q
  refine AI rfl (E4 [] (R2 (AI TV TV)))
 dsimp only [sumF] at q
 refine AI ?_ TV
 cases sE q
 refine AI rfl (E4 [] (R2 (AI TV TV)))
theorem C230_holds : HP C230 230 := hH Tryz.f230 (by kernel_rfl) rfl (fun x y q=>C230_vc x y q)
theorem f230_in : InP 230 := inP (by kernel_rfl)
def f186_l1 (n : LI×(List (ByteArray×Int×Int))) (go : Int → Option (Sum Unit Unit)) (v8:Int) : Option (Sum Unit Unit) :=
 bif (decide (v8 < (List.length n.2:Int))) then
 guardF (0 ≤ v8 ∧ v8 < (List.length n.2:Int)) <|
 bindF (f230 ((rd (Ty.z T6) n.2 v8).1,((rd (Ty.z T6) n.2 v8).2).1,((rd (Ty.z T6) n.2 v8).2).2)) fun r4 =>
 bif (!r4) then
 some (Sum.inl ())
 else
 go (i64.wrap (v8 + (1:Int)))
 else
 some (Sum.inr ())
def f186 (n : LI×(List (ByteArray×Int×Int))) : Option Bool :=
 bindF (loopF (fun go x=>f186_l1 n go x) fuelN (0:Int)) fun z3 =>
 sumF z3 (fun z3a =>
 some false) (fun z3b =>
 bif ((List.length n.1:Int) == (1:Int)) then
 guardF (0 ≤ (0:Int) ∧ (0:Int) < (List.length n.1:Int)) <|
 bindF (f231 (rd (0:Int) n.1 (0:Int)) (1024:Int)) fun r5 =>
 some r5
 else
 bif ((List.length n.1:Int) == (2:Int)) then
 guardF (0 ≤ (0:Int) ∧ (0:Int) < (List.length n.1:Int)) <|
 bindF (f231 (rd (0:Int) n.1 (0:Int)) (64:Int)) fun r6 =>
 bif r6 then
 guardF (0 ≤ (1:Int) ∧ (1:Int) < (List.length n.1:Int)) <|
 bindF (f231 (rd (0:Int) n.1 (1:Int)) (64:Int)) fun r7 =>
 some r7
 else
 some false
 else
 some false)
def C186 : Con where
 X := LI×(List (ByteArray×Int×Int))
 Y := Bool
 e := 0
 args x := [.dat T7 x]
 hin x := []
 F x := f186 x
 ret y := [.dat .bool y]
 hout y := []
 nout := 0
theorem C186_vc (n : LI×(List (ByteArray×Int×Int))) (y : Bool) (q : f186 n = some y) : VC Tryz.f186 C186 n y := by
 unfold f186 at q
 refine OL (OL (OL ?_))
 obtain ⟨z3,hz3,q⟩ := bE q
 refine lI Int (Sum Unit Unit) (fun x=>⟨[(1,P0 0 0),(6,.dat T8 n.2),(7,.dat T2 (List.length n.2:Int)),(8,.dat T2 x)],[(0,.cells [(.d T1 n.1),(.d T8 n.2)])],1⟩) (fun z=>Sum.elim (fun za=>[(1,⟨[(2,.dat .bool false)],[],0⟩)]) (fun zb=>[(2,⟨[(1,P0 0 0)],[(0,.cells [(.d T1 n.1),(.d T8 n.2)])],1⟩)]) z) (loopF (fun go x=>f186_l1 n go x)) fuelN (0:Int) z3 (AI hz3 (AI (E4 [(0,some 0)] (R4 (AJ (AI rfl TV)))) (AI (fun _ _ h=>lZ h) (AI (fun m=>fun v8 z q=>?_) ?_))))
 ·have q : f186_l1 n (loopF (fun go x=>f186_l1 n go x) m) v8 = some z := q
  unfold f186_l1 at q
  refine OL (OL (cI q (fun q=>?_) (fun q=>?_)))
  ·refine OL (OL (gI q (fun q=>?_)))
   refine OL (OL ?_)
   obtain ⟨r4,hr4,q⟩ := bE q
   refine OL (AI f230_in (cV (cQ C230 ((rd (Ty.z T6) n.2 v8).1,((rd (Ty.z T6) n.2 v8).2).1,((rd (Ty.z T6) n.2 v8).2).2) r4 [] false C230_holds hr4 rfl rfl (R2 (K0 (cI q (fun q=>?_) (fun q=>?_)))))))
   ·cases sE q
    refine OL (E4 [] (R2 (AI TV TV)))
   refine EI (i64.wrap (v8 + (1:Int))) (AI q (E4 [(0,some 0)] (R4 (AJ (AI rfl TV)))))
  cases sE q
  refine E4 [(0,some 0)] (AI rfl (AJ (AI rfl TV)))
 rcases z3 with z3a | z3b
 ·dsimp only [sumF] at q
  refine AI ?_ TV
  cases sE q
  refine AI rfl (E4 [] (R2 (AI TV TV)))
 dsimp only [sumF] at q
 refine AI (OL (OL (OL (cI q (fun q=>?_) (fun q=>?_))))) TV
 ·refine OL (gI q (fun q=>?_))
  obtain ⟨r5,hr5,q⟩ := bE q
  refine OL (AI f231_in (cV (cQ C231 ((rd (0:Int) n.1 (0:Int)),(1024:Int)) r5 [] false C231_holds hr5 rfl rfl (R2 (K0 ?_)))))
  cases sE q
  refine AI rfl (E4 [] (R2 (AI TV TV)))
 refine OL (cI q (fun q=>?_) (fun q=>?_))
 ·refine OL (gI q (fun q=>?_))
  obtain ⟨r6,hr6,q⟩ := bE q
  refine OL (AI f231_in (cV (cQ C231 ((rd (0:Int) n.1 (0:Int)),(64:Int)) r6 [] false C231_holds hr6 rfl rfl (R2 (K0 (cI q (fun q=>?_) (fun q=>?_)))))))
  ·refine gX (gX (gI q (fun q=>?_)))
   refine gX (gX ?_)
   obtain ⟨r7,hr7,q⟩ := bE q
   refine OL (AI f231_in (cV (cQ C231 ((rd (0:Int) n.1 (1:Int)),(64:Int)) r7 [] false C231_holds hr7 rfl rfl (R2 (K0 (cT ?_))))))
   cases sE q
   refine AI rfl (E4 [] (R2 (AI TV TV)))
  refine gM (gM (gM (gM (cF ?_))))
  cases sE q
  refine AI rfl (E4 [] (R2 (AI TV TV)))
 cases sE q
 refine OL (AI rfl (E4 [] (R2 (AI TV TV))))
theorem C186_holds : HP C186 186 := hH Tryz.f186 (by kernel_rfl) rfl (fun x y q=>C186_vc x y q)
theorem f186_in : InP 186 := inP (by kernel_rfl)
end Go.Proofs
