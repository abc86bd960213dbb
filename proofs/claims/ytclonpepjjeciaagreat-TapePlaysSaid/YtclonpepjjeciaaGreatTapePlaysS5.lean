import Derived.Test.YtclonpepjjeciaaGreatTapePlaysS4
set_option linter.unusedVariables false
set_option maxRecDepth 100000
set_option maxHeartbeats 8000000
namespace Go.Proofs
open Go.AM
open IntKind (i64 u64 i32 u32 i16 u16 i8 u8)
def f60_j3 (kind:Int) (t : LI×LI) : Option Bool :=
 bif (decide (kind < (1:Int))) then
 some true
 else
 bif (decide (kind > (5:Int))) then
 some true
 else
 bindF (f27 (t.1,t.2)) fun r6 =>
 some (!r6)
def f60_j2 (kind:Int) (t : LI×LI) : Option (Sum Unit Unit) :=
 bindF (f60_j3 kind t) fun z5 =>
 bif z5 then
 some (Sum.inr ())
 else
 some (Sum.inl ())
def f60_l4 (kind:Int) (t : LI×LI) (go : (Int×LI) → Option LI) (i:Int) (l4 : LI) : Option LI :=
 bif (decide (i < (List.length l4:Int))) then
 guardF (0 ≤ i ∧ i < (List.length t.2:Int)) <|
 bindF (f102 kind (rd (0:Int) t.2 i)) fun q7_9 =>
 guardF (0 ≤ i ∧ i < (List.length l4:Int)) <|
 go ((i64.wrap (i + (1:Int))),(List.set l4 (Int.toNat i) q7_9))
 else
 some l4
def f60 (kind:Int) (t : LI×LI) : Option (Int×LI×LI) :=
 bindF (f60_j2 kind t) fun z3 =>
 sumF z3 (fun z3a =>
 bindF (f87 t.1 (0:Int)) fun r7 =>
 bindF (loopF (fun go x=>f60_l4 kind t go x.1 x.2) fuelN ((0:Int),r7.2)) fun z8 =>
 some ((0:Int),r7.1,z8)) (fun z3b =>
 some ((1:Int),[],[]))
def C60 : Con where
 X := Int×(LI×LI)
 Y := Int×LI×LI
 e := 0
 args x := [.dat T2 x.1,.dat T3 x.2]
 hin x := []
 F x := f60 x.1 x.2
 ret y := [.raw true [(.osl 0),(.osl 1)],.dat T2 y.1]
 hout y := [(0,.arr 3 T2 y.2.1),(1,.arr 33 T2 y.2.2)]
 nout := 2
theorem C60_vc (kind:Int) (t : LI×LI) (y : Int×LI×LI) (q : f60 kind t = some y) : VC Tryz.f60 C60 (kind,t) y := by
 unfold f60 at q
 refine OL ?_
 obtain ⟨z3,hz3,q⟩ := bE q
 refine OQ ⟨Sum.elim (fun z3a=>[(0,⟨[(0,.dat T2 kind),(3,P0 0 0),(4,P0 1 0)],[(0,.cells [(.d T1 t.1),(.d T1 t.2)]),(1,.cells [N0,N0])],2⟩)]) (fun z3b=>[(1,⟨[(4,P0 0 0),(5,D0 1)],[(0,.cells [N0,N0])],1⟩)]) z3,?_,?_⟩
 ·have q := hz3
  clear hz3
  unfold f60_j2 at q
  obtain ⟨z5,hz5,q⟩ := bE q
  refine OQ ⟨[(0,⟨[(0,.dat T2 kind),(3,P0 0 0),(4,P0 1 0),(18,.dat .bool z5)],[(0,.cells [(.d T1 t.1),(.d T1 t.2)]),(1,.cells [N0,N0])],2⟩)],?_,?_⟩
  ·have q := hz5
   clear hz5
   unfold f60_j3 at q
   refine cN q (fun q=>?_) (fun q=>?_)
   ·refine gY (cF (cN q (fun q=>?_) (fun q=>?_)))
    ·refine gY ?_
     obtain ⟨r6,hr6,q⟩ := bE q
     refine OL (AI f27_in (cV (cQ C27 (t.1,t.2) r6 [] false C27_holds hr6 rfl rfl (R2 (K0 (gY (cF ?_)))))))
     cases sE q
     refine E4 I2 (R3 (AI (R2 TV) (R2 TV)))
    refine gN (gN (cT ?_))
    cases sE q
    refine E4 I2 (R3 (AI (R2 TV) (R2 TV)))
   refine gN (cT (gN (gN (gN (cT ?_)))))
   cases sE q
   refine E4 I2 (R3 (AI (R2 TV) (R2 TV)))
  refine AI (cI q (fun q=>?_) (fun q=>?_)) TV
  ·refine OL (OL ?_)
   cases sE q
   refine E4 [(0,some 1)] (R2 (AJ (AI rfl TV)))
  cases sE q
  refine E4 I2 (R2 (AI (R2 TV) (R2 TV)))
 rcases z3 with z3a | z3b
 ·dsimp only [sumF] at q
  refine AI (OL ?_) TV
  obtain ⟨r7,hr7,q⟩ := bE q
  refine OL (AI f87_in (cV (cQ C87 (t.1,(0:Int)) r7 [] false C87_holds hr7 rfl rfl (R2 (K0 (OL (OL (OL ?_))))))))
  obtain ⟨z8,hz8,q⟩ := bE q
  refine lI (Int×LI) LI (fun x=>⟨[(0,.dat T2 kind),(3,P0 0 0),(4,P0 1 0),(6,P0 2 0),(7,.dat T2 x.1)],[(0,.cells [(.d T1 t.1),(.d T1 t.2)]),(1,.cells [N0,N0]),(2,.cells [(.osl 3),(.osl 4)]),(3,.arr 3 T2 r7.1),(4,.arr 33 T2 x.2)],5⟩) (fun z=>[(2,⟨[(4,P0 0 0),(6,P0 1 0)],[(0,.cells [N0,N0]),(1,.cells [(.osl 2),(.osl 3)]),(2,.arr 3 T2 r7.1),(3,.arr 33 T2 z)],4⟩)]) (loopF (fun go x=>f60_l4 kind t go x.1 x.2)) fuelN ((0:Int),r7.2) z8 (AI hz8 (AI (E4 [(0,some 0),(1,some 1),(2,some 4),(3,some 2),(4,some 3)] (R3 (AI (R3 TV) (R5 TV)))) (AI (fun _ _ h=>lZ h) (AI (fun m=>curI (fun i=>fun l4 z q=>?_)) ?_))))
  ·have q : f60_l4 kind t (loopF (fun go x=>f60_l4 kind t go x.1 x.2) m) i l4 = some z := q
   unfold f60_l4 at q
   refine OL (OL (cI q (fun q=>?_) (fun q=>?_)))
   ·refine OL (EI (.take 0 (.take 1 (.take 2 (.take 3 (.take 4 (.take 5 (.take 6 (.take 7 (.take 8 (.alt 9 (.take 10 (.alt 11 .done .done)) .done)))))))))) (EI [] (EI [] (AI rfl (gI q (fun q=>?_))))))
    refine AI TV ?_
    obtain ⟨q7_9,hq7_9,q⟩ := bE q
    refine OL (AI f102_in (cV (cQ C102 (kind,(rd (0:Int) t.2 i)) q7_9 [] false C102_holds hq7_9 rfl rfl (R2 (K0 (gI q (fun q=>?_)))))))
    refine AI TV (OL (EI ((i64.wrap (i + (1:Int))),(List.set l4 (Int.toNat i) q7_9)) (AI q (E4 I5 (R3 (AI (R3 TV) (R5 TV)))))))
   cases sE q
   refine E4 [(0,some 1),(1,some 2),(2,some 3),(3,some 4)] (AI rfl (AI (R2 TV) (R4 TV)))
  refine AI (OL (OL ?_)) TV
  cases sE q
  refine AI rfl (E4 [(0,some 2),(1,some 3)] (R2 (AJ (R2 TV))))
 dsimp only [sumF] at q
 refine AI ?_ TV
 cases sE q
 refine AI rfl (E4 [(0,none),(1,none)] (R2 (AJ (R2 TV))))
theorem C60_holds : HP C60 60 := hH Tryz.f60 (by kernel_rfl) rfl (fun x y q=>C60_vc x.1 x.2 y q)
theorem f60_in : InP 60 := inP (by kernel_rfl)
def f61_j3 (a : LI×LI) (k : LI×LI) (step:Int) : Option Bool :=
 bindF (f27 (a.1,a.2)) fun r9 =>
 bif (!r9) then
 some true
 else
 bindF (f27 (k.1,k.2)) fun r10 =>
 bif (!r10) then
 some true
 else
 bif (decide (step < (1:Int))) then
 some true
 else
 some (decide (step > (64:Int)))
def f61_j2 (a : LI×LI) (k : LI×LI) (step:Int) : Option (Sum Unit Unit) :=
 bindF (f61_j3 a k step) fun z8 =>
 bif z8 then
 some (Sum.inr ())
 else
 some (Sum.inl ())
def f61_j6 (a : LI×LI) (k : LI×LI) : Option Bool :=
 bif ((List.length a.1:Int) != (2:Int)) then
 some true
 else
 bif ((List.length k.1:Int) != (3:Int)) then
 some true
 else
 guardF (0 ≤ (0:Int) ∧ (0:Int) < (List.length a.1:Int)) <|
 guardF (0 ≤ (1:Int) ∧ (1:Int) < (List.length k.1:Int)) <|
 bif ((rd (0:Int) a.1 (0:Int)) != (rd (0:Int) k.1 (1:Int))) then
 some true
 else
 guardF (0 ≤ (2:Int) ∧ (2:Int) < (List.length k.1:Int)) <|
 guardF (0 ≤ (1:Int) ∧ (1:Int) < (List.length a.1:Int)) <|
 some (decide ((rd (0:Int) k.1 (2:Int)) > (rd (0:Int) a.1 (1:Int))))
def f61_j5 (a : LI×LI) (k : LI×LI) : Option (Sum Unit Unit) :=
 bindF (f61_j6 a k) fun z13 =>
 bif z13 then
 some (Sum.inr ())
 else
 some (Sum.inl ())
def f61_l46 (a : LI×LI) (k : LI×LI) (step:Int) (i:Int) (j:Int) (x_:Int) (go : (Int×Bool×Int×Int×Int×Int) → Option (Bool×Int×Int×Int×Int)) (y_:Int) (c4_0_2 : Bool) (c4_1_2:Int) (c4_2_2:Int) (c4_3_2:Int) (c4_4_2:Int) : Option (Bool×Int×Int×Int×Int) :=
 bif (decide (y_ < (rd (0:Int) k.1 (2:Int)))) then
 guardF (0 ≤ (i64.wrap ((i64.wrap ((i64.wrap (x_ * (rd (0:Int) a.1 (1:Int)))) + (i64.wrap (j * step)))) + y_)) ∧ (i64.wrap ((i64.wrap ((i64.wrap (x_ * (rd (0:Int) a.1 (1:Int)))) + (i64.wrap (j * step)))) + y_)) < (List.length a.2:Int)) <|
 guardF (0 ≤ (i64.wrap ((i64.wrap ((i64.wrap ((i64.wrap (i * (rd (0:Int) a.1 (0:Int)))) + x_)) * (rd (0:Int) k.1 (2:Int)))) + y_)) ∧ (i64.wrap ((i64.wrap ((i64.wrap ((i64.wrap (i * (rd (0:Int) a.1 (0:Int)))) + x_)) * (rd (0:Int) k.1 (2:Int)))) + y_)) < (List.length k.2:Int)) <|
 bindF (f93 (rd (0:Int) a.2 (i64.wrap ((i64.wrap ((i64.wrap (x_ * (rd (0:Int) a.1 (1:Int)))) + (i64.wrap (j * step)))) + y_))) (rd (0:Int) k.2 (i64.wrap ((i64.wrap ((i64.wrap ((i64.wrap (i * (rd (0:Int) a.1 (0:Int)))) + x_)) * (rd (0:Int) k.1 (2:Int)))) + y_)))) fun q23_27 =>
 bindF (f92 c4_0_2 c4_1_2 c4_2_2 c4_3_2 c4_4_2 q23_27.1 q23_27.2.1 q23_27.2.2.1 q23_27.2.2.2.1 q23_27.2.2.2.2) fun q23_28 =>
 go ((i64.wrap (y_ + (1:Int))),q23_28.1,q23_28.2.1,q23_28.2.2.1,q23_28.2.2.2.1,q23_28.2.2.2.2)
 else
 some (c4_0_2,c4_1_2,c4_2_2,c4_3_2,c4_4_2)
def f61_l45 (a : LI×LI) (k : LI×LI) (step:Int) (i:Int) (j:Int) (go : (Int×Bool×Int×Int×Int×Int) → Option (Bool×Int×Int×Int×Int)) (x_:Int) (c4_0 : Bool) (c4_1:Int) (c4_2:Int) (c4_3:Int) (c4_4:Int) : Option (Bool×Int×Int×Int×Int) :=
 bif (decide (x_ < (rd (0:Int) a.1 (0:Int)))) then
 bindF (loopF (fun go x=>f61_l46 a k step i j x_ go x.1 x.2.1 x.2.2.1 x.2.2.2.1 x.2.2.2.2.1 x.2.2.2.2.2) fuelN ((0:Int),c4_0,c4_1,c4_2,c4_3,c4_4)) fun z54 =>
 go ((i64.wrap (x_ + (1:Int))),z54.1,z54.2.1,z54.2.2.1,z54.2.2.2.1,z54.2.2.2.2)
 else
 some (c4_0,c4_1,c4_2,c4_3,c4_4)
def f61_l42 (a : LI×LI) (k : LI×LI) (step:Int) (i:Int) (go : (Int×LI) → Option LI) (j:Int) (l5_2 : LI) : Option LI :=
 bif (decide (j < (i64.wrap ((i64.wrap (Int.tdiv (i64.wrap ((rd (0:Int) a.1 (1:Int)) - (rd (0:Int) k.1 (2:Int)))) step)) + (1:Int))))) then
 bindF (loopF (fun go x=>f61_l45 a k step i j go x.1 x.2.1 x.2.2.1 x.2.2.2.1 x.2.2.2.2.1 x.2.2.2.2.2) fuelN ((0:Int),false,(0:Int),(0:Int),(0:Int),(0:Int))) fun z53 =>
 bindF (f95 z53.1 z53.2.1 z53.2.2.1 z53.2.2.2.1 z53.2.2.2.2 (32:Int)) fun q24_8 =>
 bindF (f94 q24_8.1 q24_8.2.1 q24_8.2.2.1 q24_8.2.2.2.1 q24_8.2.2.2.2) fun q24_9 =>
 guardF (0 ≤ (i64.wrap ((i64.wrap (i * (i64.wrap ((i64.wrap (Int.tdiv (i64.wrap ((rd (0:Int) a.1 (1:Int)) - (rd (0:Int) k.1 (2:Int)))) step)) + (1:Int))))) + j)) ∧ (i64.wrap ((i64.wrap (i * (i64.wrap ((i64.wrap (Int.tdiv (i64.wrap ((rd (0:Int) a.1 (1:Int)) - (rd (0:Int) k.1 (2:Int)))) step)) + (1:Int))))) + j)) < (List.length l5_2:Int)) <|
 go ((i64.wrap (j + (1:Int))),(List.set l5_2 (Int.toNat (i64.wrap ((i64.wrap (i * (i64.wrap ((i64.wrap (Int.tdiv (i64.wrap ((rd (0:Int) a.1 (1:Int)) - (rd (0:Int) k.1 (2:Int)))) step)) + (1:Int))))) + j))) q24_9))
 else
 some l5_2
def f61_l33 (a : LI×LI) (k : LI×LI) (step:Int) (go : (Int×LI) → Option LI) (i:Int) (l5 : LI) : Option LI :=
 bif (decide (i < (rd (0:Int) k.1 (0:Int)))) then
 bindF (loopF (fun go x=>f61_l42 a k step i go x.1 x.2) fuelN ((0:Int),l5)) fun z50 =>
 go ((i64.wrap (i + (1:Int))),z50)
 else
 some l5
def f61 (a : LI×LI) (k : LI×LI) (step:Int) : Option (Int×LI×LI) :=
 bindF (f61_j2 a k step) fun z5 =>
 sumF z5 (fun z5a =>
 bindF (f61_j5 a k) fun z12 =>
 sumF z12 (fun z12a =>
 guardF (0 ≤ (0:Int) ∧ (0:Int) < (List.length a.1:Int)) <|
 guardF (0 ≤ (1:Int) ∧ (1:Int) < (List.length a.1:Int)) <|
 guardF (0 ≤ (0:Int) ∧ (0:Int) < (List.length k.1:Int)) <|
 guardF (0 ≤ (2:Int) ∧ (2:Int) < (List.length k.1:Int)) <|
 guardF (step ≠ 0) <|
 bindF (f49 ([(rd (0:Int) k.1 (0:Int)),(i64.wrap ((i64.wrap (Int.tdiv (i64.wrap ((rd (0:Int) a.1 (1:Int)) - (rd (0:Int) k.1 (2:Int)))) step)) + (1:Int)))])) fun q5_19 =>
 bif (!q5_19) then
 some ((2:Int),[],[])
 else
 bindF (f87 ([(rd (0:Int) k.1 (0:Int)),(i64.wrap ((i64.wrap (Int.tdiv (i64.wrap ((rd (0:Int) a.1 (1:Int)) - (rd (0:Int) k.1 (2:Int)))) step)) + (1:Int)))]) (0:Int)) fun r14 =>
 bindF (loopF (fun go x=>f61_l33 a k step go x.1 x.2) fuelN ((0:Int),r14.2)) fun z41 =>
 some ((0:Int),r14.1,z41)) (fun z12b =>
 some ((4:Int),[],[]))) (fun z5b =>
 some ((1:Int),[],[]))
def C61 : Con where
 X := (LI×LI)×(LI×LI)×Int
 Y := Int×LI×LI
 e := 0
 args x := [.dat T3 x.1,.dat T3 x.2.1,.dat T2 x.2.2]
 hin x := []
 F x := f61 x.1 x.2.1 x.2.2
 ret y := [.raw true [(.osl 0),(.osl 1)],.dat T2 y.1]
 hout y := [(0,.arr 3 T2 y.2.1),(1,.arr 33 T2 y.2.2)]
 nout := 2
theorem C61_vc (a : LI×LI) (k : LI×LI) (step:Int) (y : Int×LI×LI) (q : f61 a k step = some y) : VC Tryz.f61 C61 (a,k,step) y := by
 unfold f61 at q
 refine OL ?_
 obtain ⟨z5,hz5,q⟩ := bE q
 refine OQ ⟨Sum.elim (fun z5a=>[(0,⟨[(2,.dat T2 step),(3,P0 0 0),(4,P0 1 0),(6,P0 2 0)],[(0,.cells [(.d T1 a.1),(.d T1 a.2)]),(1,.cells [(.d T1 k.1),(.d T1 k.2)]),(2,.cells [N0,N0])],3⟩)]) (fun z5b=>[(1,⟨[(6,P0 0 0),(7,D0 1)],[(0,.cells [N0,N0])],1⟩)]) z5,?_,?_⟩
 ·have q := hz5
  clear hz5
  unfold f61_j2 at q
  obtain ⟨z8,hz8,q⟩ := bE q
  refine OQ ⟨[(0,⟨[(2,.dat T2 step),(3,P0 0 0),(4,P0 1 0),(6,P0 2 0),(34,.dat .bool z8)],[(0,.cells [(.d T1 a.1),(.d T1 a.2)]),(1,.cells [(.d T1 k.1),(.d T1 k.2)]),(2,.cells [N0,N0])],3⟩)],?_,?_⟩
  ·have q := hz8
   clear hz8
   unfold f61_j3 at q
   obtain ⟨r9,hr9,q⟩ := bE q
   refine OL (AI f27_in (cV (cQ C27 (a.1,a.2) r9 [] false C27_holds hr9 rfl rfl (R2 (K0 (cN q (fun q=>?_) (fun q=>?_)))))))
   ·refine gY ?_
    obtain ⟨r10,hr10,q⟩ := bE q
    refine OL (AI f27_in (cV (cQ C27 (k.1,k.2) r10 [] false C27_holds hr10 rfl rfl (R2 (K0 (gY (cF (cN q (fun q=>?_) (fun q=>?_)))))))))
    ·refine gY (cF (cN q (fun q=>?_) (fun q=>?_)))
     ·refine gY (cF ?_)
      cases sE q
      refine E4 I3 (R3 (AI (R3 TV) (R3 TV)))
     refine gN (cT ?_)
     cases sE q
     refine E4 I3 (R3 (AI (R3 TV) (R3 TV)))
    refine gN (cT (gN (gN (cT ?_))))
    cases sE q
    refine E4 I3 (R3 (AI (R3 TV) (R3 TV)))
   refine gN (gN (cT (gN (gN (cT (gN (gN (cT ?_))))))))
   cases sE q
   refine E4 I3 (R3 (AI (R3 TV) (R3 TV)))
  refine AI (cI q (fun q=>?_) (fun q=>?_)) TV
  ·refine OL (OL ?_)
   cases sE q
   refine E4 [(0,some 2)] (R2 (AJ (AI rfl TV)))
  cases sE q
  refine E4 I3 (R2 (AI (R3 TV) (R3 TV)))
 rcases z5 with z5a | z5b
 ·dsimp only [sumF] at q
  refine AI ?_ TV
  obtain ⟨z12,hz12,q⟩ := bE q
  refine OQ ⟨Sum.elim (fun z12a=>[(0,⟨[(2,.dat T2 step),(3,P0 0 0),(4,P0 1 0),(6,P0 2 0)],[(0,.cells [(.d T1 a.1),(.d T1 a.2)]),(1,.cells [(.d T1 k.1),(.d T1 k.2)]),(2,.cells [N0,N0])],3⟩)]) (fun z12b=>[(1,⟨[(6,P0 0 0),(7,D0 4)],[(0,.cells [N0,N0])],1⟩)]) z12,?_,?_⟩
  ·have q := hz12
   clear hz12
   unfold f61_j5 at q
   obtain ⟨z13,hz13,q⟩ := bE q
   refine OQ ⟨[(0,⟨[(2,.dat T2 step),(3,P0 0 0),(4,P0 1 0),(6,P0 2 0),(67,.dat .bool z13)],[(0,.cells [(.d T1 a.1),(.d T1 a.2)]),(1,.cells [(.d T1 k.1),(.d T1 k.2)]),(2,.cells [N0,N0])],3⟩)],?_,?_⟩
   ·have q := hz13
    clear hz13
    unfold f61_j6 at q
    refine EI (.take 0 (.take 1 (.take 2 (.take 3 (.take 4 (.take 5 (.take 6 (.take 7 (.take 8 (.take 9 (.take 10 (.take 11 (.take 12 (.take 13 (.take 14 (.take 15 (.take 16 (.take 17 (.take 18 (.take 19 (.take 20 (.take 21 (.take 22 (.take 23 (.take 24 (.take 25 (.take 26 (.take 27 (.take 28 (.take 29 (.take 30 (.take 31 .done)))))))))))))))))))))))))))))))) (EI [] (EI [] (AI rfl (cN q (fun q=>?_) (fun q=>?_)))))
    ·refine gY (gY (gY (cF (cN q (fun q=>?_) (fun q=>?_)))))
     ·refine gY (gY (gI q (fun q=>?_)))
      refine gY (gY (gY (gY (gI q (fun q=>?_)))))
      refine gY (gY (cF (cN q (fun q=>?_) (fun q=>?_))))
      ·refine gY (gY (gI q (fun q=>?_)))
       refine gY (gY (gY (gY (gI q (fun q=>?_)))))
       refine gY (gY (cF ?_))
       cases sE q
       refine E4 I3 (R3 (AI (R3 TV) (R3 TV)))
      refine gN (gN (gN (gN (gN (gN (gN (gN (cT ?_))))))))
      cases sE q
      refine E4 I3 (R3 (AI (R3 TV) (R3 TV)))
     refine gN (gN (gN (gN (gN (gN (gN (gN (cT (gN (gN (gN (gN (gN (gN (gN (gN (gN (cT ?_))))))))))))))))))
     cases sE q
     refine E4 I3 (R3 (AI (R3 TV) (R3 TV)))
    refine gN (gN (gN (cT (gN (gN (gN (gN (gN (gN (gN (gN (gN (cT (gN (gN (gN (gN (gN (gN (gN (gN (gN (cT ?_)))))))))))))))))))))))
    cases sE q
    refine E4 I3 (R3 (AI (R3 TV) (R3 TV)))
   refine AI (cI q (fun q=>?_) (fun q=>?_)) TV
   ·refine OL (OL ?_)
    cases sE q
    refine E4 [(0,some 2)] (R2 (AJ (AI rfl TV)))
   cases sE q
   refine E4 I3 (R2 (AI (R3 TV) (R3 TV)))
  rcases z12 with z12a | z12b
  ·dsimp only [sumF] at q
   refine AI (OL (EI (.take 0 (.take 1 (.take 2 (.take 3 (.take 4 (.take 5 (.take 6 (.take 7 (.take 8 (.take 9 (.take 10 (.take 11 (.take 12 (.take 13 (.take 14 (.take 15 (.take 16 (.take 17 (.take 18 (.take 19 .done)))))))))))))))))))) (EI [] (EI [] (AI rfl (gI q (fun q=>?_))))))) TV
   refine gI q (fun q=>?_)
   refine gI q (fun q=>?_)
   refine gI q (fun q=>?_)
   refine OL (gI q (fun q=>?_))
   refine OL (OL (OL ?_))
   obtain ⟨q5_19,hq5_19,q⟩ := bE q
   refine OL (AI f49_in (cV (cQ C49 [(rd (0:Int) k.1 (0:Int)),(i64.wrap ((i64.wrap (Int.tdiv (i64.wrap ((rd (0:Int) a.1 (1:Int)) - (rd (0:Int) k.1 (2:Int)))) step)) + (1:Int)))] q5_19 [] true C49_holds hq5_19 rfl rfl (AI rfl (AI (fun _=>rfl) (R2 (AI TV (AI TV (cI q (fun q=>?_) (fun q=>?_))))))))))
   ·refine OL (OL ?_)
    cases sE q
    refine AI rfl (E4 [(0,none),(1,none)] (R2 (AJ (R2 TV))))
   refine OL (OL ?_)
   obtain ⟨r14,hr14,q⟩ := bE q
   refine OL (AI f87_in (cV (cQ C87 ([(rd (0:Int) k.1 (0:Int)),(i64.wrap ((i64.wrap (Int.tdiv (i64.wrap ((rd (0:Int) a.1 (1:Int)) - (rd (0:Int) k.1 (2:Int)))) step)) + (1:Int)))],(0:Int)) r14 [] true C87_holds hr14 rfl rfl (R2 (AI (fun _=>rfl) (R2 (AI TV (AI TV (OL (OL (OL ?_)))))))))))
   obtain ⟨z41,hz41,q⟩ := bE q
   refine lI (Int×LI) LI (fun x=>⟨[(2,.dat T2 step),(3,P0 0 0),(4,P0 1 0),(6,P0 2 0),(8,.dat T2 (rd (0:Int) a.1 (0:Int))),(9,.dat T2 (rd (0:Int) a.1 (1:Int))),(10,.dat T2 (rd (0:Int) k.1 (0:Int))),(11,.dat T2 (rd (0:Int) k.1 (2:Int))),(12,.dat T2 (i64.wrap ((i64.wrap (Int.tdiv (i64.wrap ((rd (0:Int) a.1 (1:Int)) - (rd (0:Int) k.1 (2:Int)))) step)) + (1:Int)))),(13,P0 3 0),(14,.dat T2 x.1)],[(0,.cells [(.d T1 a.1),(.d T1 a.2)]),(1,.cells [(.d T1 k.1),(.d T1 k.2)]),(2,.cells [N0,N0]),(3,.cells [(.osl 4),(.osl 5)]),(4,.arr 3 T2 r14.1),(5,.arr 33 T2 x.2)],6⟩) (fun z=>[(2,⟨[(6,P0 0 0),(13,P0 1 0)],[(0,.cells [N0,N0]),(1,.cells [(.osl 2),(.osl 3)]),(2,.arr 3 T2 r14.1),(3,.arr 33 T2 z)],4⟩)]) (loopF (fun go x=>f61_l33 a k step go x.1 x.2)) fuelN ((0:Int),r14.2) z41 (AI hz41 (AI (E4 [(0,some 0),(1,some 1),(2,some 2),(3,some 7),(4,some 5),(5,some 6)] (R8 (AI (R4 TV) (R6 TV)))) (AI (fun _ _ h=>lZ h) (AI (fun m=>curI (fun i=>fun l5 z q=>?_)) ?_))))
   ·have q : f61_l33 a k step (loopF (fun go x=>f61_l33 a k step go x.1 x.2) m) i l5 = some z := q
    unfold f61_l33 at q
    refine OL (OL (cI q (fun q=>?_) (fun q=>?_)))
    ·refine OL (OL ?_)
     obtain ⟨z50,hz50,q⟩ := bE q
     refine lI (Int×LI) LI (fun x=>⟨[(2,.dat T2 step),(3,P0 0 0),(4,P0 1 0),(6,P0 2 0),(8,.dat T2 (rd (0:Int) a.1 (0:Int))),(9,.dat T2 (rd (0:Int) a.1 (1:Int))),(10,.dat T2 (rd (0:Int) k.1 (0:Int))),(11,.dat T2 (rd (0:Int) k.1 (2:Int))),(12,.dat T2 (i64.wrap ((i64.wrap (Int.tdiv (i64.wrap ((rd (0:Int) a.1 (1:Int)) - (rd (0:Int) k.1 (2:Int)))) step)) + (1:Int)))),(13,P0 3 0),(14,.dat T2 i),(15,.dat T2 x.1)],[(0,.cells [(.d T1 a.1),(.d T1 a.2)]),(1,.cells [(.d T1 k.1),(.d T1 k.2)]),(2,.cells [N0,N0]),(3,.cells [(.osl 4),(.osl 5)]),(4,.arr 3 T2 r14.1),(5,.arr 33 T2 x.2)],6⟩) (fun z=>[(4,⟨[(2,.dat T2 step),(3,P0 0 0),(4,P0 1 0),(6,P0 2 0),(8,.dat T2 (rd (0:Int) a.1 (0:Int))),(9,.dat T2 (rd (0:Int) a.1 (1:Int))),(10,.dat T2 (rd (0:Int) k.1 (0:Int))),(11,.dat T2 (rd (0:Int) k.1 (2:Int))),(12,.dat T2 (i64.wrap ((i64.wrap (Int.tdiv (i64.wrap ((rd (0:Int) a.1 (1:Int)) - (rd (0:Int) k.1 (2:Int)))) step)) + (1:Int)))),(13,P0 3 0),(14,.dat T2 i)],[(0,.cells [(.d T1 a.1),(.d T1 a.2)]),(1,.cells [(.d T1 k.1),(.d T1 k.2)]),(2,.cells [N0,N0]),(3,.cells [(.osl 4),(.osl 5)]),(4,.arr 3 T2 r14.1),(5,.arr 33 T2 z)],6⟩)]) (loopF (fun go x=>f61_l42 a k step i go x.1 x.2)) fuelN ((0:Int),l5) z50 (AI hz50 (AI (E4 I6 (R9 (AI (R4 TV) (R6 TV)))) (AI (fun _ _ h=>lZ h) (AI (fun m=>curI (fun j=>fun l5_2 z q=>?_)) ?_))))
     ·have q : f61_l42 a k step i (loopF (fun go x=>f61_l42 a k step i go x.1 x.2) m) j l5_2 = some z := q
      unfold f61_l42 at q
      refine OL (OL (cI q (fun q=>?_) (fun q=>?_)))
      ·refine OL (OL (OL (OL (OL ?_))))
       obtain ⟨z53,hz53,q⟩ := bE q
       refine lI (Int×Bool×Int×Int×Int×Int) (Bool×Int×Int×Int×Int) (fun x=>⟨[(2,.dat T2 step),(3,P0 0 0),(4,P0 1 0),(6,P0 2 0),(8,.dat T2 (rd (0:Int) a.1 (0:Int))),(9,.dat T2 (rd (0:Int) a.1 (1:Int))),(10,.dat T2 (rd (0:Int) k.1 (0:Int))),(11,.dat T2 (rd (0:Int) k.1 (2:Int))),(12,.dat T2 (i64.wrap ((i64.wrap (Int.tdiv (i64.wrap ((rd (0:Int) a.1 (1:Int)) - (rd (0:Int) k.1 (2:Int)))) step)) + (1:Int)))),(13,P0 3 0),(14,.dat T2 i),(15,.dat T2 j),(16,P0 4 0),(17,.dat T2 x.1)],[(0,.cells [(.d T1 a.1),(.d T1 a.2)]),(1,.cells [(.d T1 k.1),(.d T1 k.2)]),(2,.cells [N0,N0]),(3,.cells [(.osl 5),(.osl 6)]),(4,.cells [(.d .bool x.2.1),(.d T4 x.2.2.1),(.d T4 x.2.2.2.1),(.d T4 x.2.2.2.2.1),(.d T4 x.2.2.2.2.2)]),(5,.arr 3 T2 r14.1),(6,.arr 33 T2 l5_2)],7⟩) (fun z=>[(6,⟨[(2,.dat T2 step),(3,P0 0 0),(4,P0 1 0),(6,P0 2 0),(8,.dat T2 (rd (0:Int) a.1 (0:Int))),(9,.dat T2 (rd (0:Int) a.1 (1:Int))),(10,.dat T2 (rd (0:Int) k.1 (0:Int))),(11,.dat T2 (rd (0:Int) k.1 (2:Int))),(12,.dat T2 (i64.wrap ((i64.wrap (Int.tdiv (i64.wrap ((rd (0:Int) a.1 (1:Int)) - (rd (0:Int) k.1 (2:Int)))) step)) + (1:Int)))),(13,P0 3 0),(14,.dat T2 i),(15,.dat T2 j),(16,P0 4 0)],[(0,.cells [(.d T1 a.1),(.d T1 a.2)]),(1,.cells [(.d T1 k.1),(.d T1 k.2)]),(2,.cells [N0,N0]),(3,.cells [(.osl 5),(.osl 6)]),(4,.cells [(.d .bool z.1),(.d T4 z.2.1),(.d T4 z.2.2.1),(.d T4 z.2.2.2.1),(.d T4 z.2.2.2.2)]),(5,.arr 3 T2 r14.1),(6,.arr 33 T2 l5_2)],7⟩)]) (loopF (fun go x=>f61_l45 a k step i j go x.1 x.2.1 x.2.2.1 x.2.2.2.1 x.2.2.2.2.1 x.2.2.2.2.2)) fuelN ((0:Int),false,(0:Int),(0:Int),(0:Int),(0:Int)) z53 (AI hz53 (AI (E4 [(0,some 0),(1,some 1),(2,some 2),(3,some 3),(4,some 6),(5,some 4),(6,some 5)] (R10 (AI (R5 TV) (R7 TV)))) (AI (fun _ _ h=>lZ h) (AI (fun m=>curI (fun x_=>curI (fun c4_0=>curI (fun c4_1=>curI (fun c4_2=>curI (fun c4_3=>fun c4_4 z q=>?_)))))) ?_))))
       ·have q : f61_l45 a k step i j (loopF (fun go x=>f61_l45 a k step i j go x.1 x.2.1 x.2.2.1 x.2.2.2.1 x.2.2.2.2.1 x.2.2.2.2.2) m) x_ c4_0 c4_1 c4_2 c4_3 c4_4 = some z := q
        unfold f61_l45 at q
        refine OL (OL (cI q (fun q=>?_) (fun q=>?_)))
        ·refine OL (OL ?_)
         obtain ⟨z54,hz54,q⟩ := bE q
         refine lI (Int×Bool×Int×Int×Int×Int) (Bool×Int×Int×Int×Int) (fun x=>⟨[(2,.dat T2 step),(3,P0 0 0),(4,P0 1 0),(6,P0 2 0),(8,.dat T2 (rd (0:Int) a.1 (0:Int))),(9,.dat T2 (rd (0:Int) a.1 (1:Int))),(10,.dat T2 (rd (0:Int) k.1 (0:Int))),(11,.dat T2 (rd (0:Int) k.1 (2:Int))),(12,.dat T2 (i64.wrap ((i64.wrap (Int.tdiv (i64.wrap ((rd (0:Int) a.1 (1:Int)) - (rd (0:Int) k.1 (2:Int)))) step)) + (1:Int)))),(13,P0 3 0),(14,.dat T2 i),(15,.dat T2 j),(16,P0 4 0),(17,.dat T2 x_),(18,.dat T2 x.1)],[(0,.cells [(.d T1 a.1),(.d T1 a.2)]),(1,.cells [(.d T1 k.1),(.d T1 k.2)]),(2,.cells [N0,N0]),(3,.cells [(.osl 5),(.osl 6)]),(4,.cells [(.d .bool x.2.1),(.d T4 x.2.2.1),(.d T4 x.2.2.2.1),(.d T4 x.2.2.2.2.1),(.d T4 x.2.2.2.2.2)]),(5,.arr 3 T2 r14.1),(6,.arr 33 T2 l5_2)],7⟩) (fun z=>[(8,⟨[(2,.dat T2 step),(3,P0 0 0),(4,P0 1 0),(6,P0 2 0),(8,.dat T2 (rd (0:Int) a.1 (0:Int))),(9,.dat T2 (rd (0:Int) a.1 (1:Int))),(10,.dat T2 (rd (0:Int) k.1 (0:Int))),(11,.dat T2 (rd (0:Int) k.1 (2:Int))),(12,.dat T2 (i64.wrap ((i64.wrap (Int.tdiv (i64.wrap ((rd (0:Int) a.1 (1:Int)) - (rd (0:Int) k.1 (2:Int)))) step)) + (1:Int)))),(13,P0 3 0),(14,.dat T2 i),(15,.dat T2 j),(16,P0 4 0),(17,.dat T2 x_)],[(0,.cells [(.d T1 a.1),(.d T1 a.2)]),(1,.cells [(.d T1 k.1),(.d T1 k.2)]),(2,.cells [N0,N0]),(3,.cells [(.osl 5),(.osl 6)]),(4,.cells [(.d .bool z.1),(.d T4 z.2.1),(.d T4 z.2.2.1),(.d T4 z.2.2.2.1),(.d T4 z.2.2.2.2)]),(5,.arr 3 T2 r14.1),(6,.arr 33 T2 l5_2)],7⟩)]) (loopF (fun go x=>f61_l46 a k step i j x_ go x.1 x.2.1 x.2.2.1 x.2.2.2.1 x.2.2.2.2.1 x.2.2.2.2.2)) fuelN ((0:Int),c4_0,c4_1,c4_2,c4_3,c4_4) z54 (AI hz54 (AI (E4 I7 (R11 (AI (R5 TV) (R7 TV)))) (AI (fun _ _ h=>lZ h) (AI (fun m=>curI (fun y_=>curI (fun c4_0_2=>curI (fun c4_1_2=>curI (fun c4_2_2=>curI (fun c4_3_2=>fun c4_4_2 z q=>?_)))))) ?_))))
         ·have q : f61_l46 a k step i j x_ (loopF (fun go x=>f61_l46 a k step i j x_ go x.1 x.2.1 x.2.2.1 x.2.2.2.1 x.2.2.2.2.1 x.2.2.2.2.2) m) y_ c4_0_2 c4_1_2 c4_2_2 c4_3_2 c4_4_2 = some z := q
          unfold f61_l46 at q
          refine OL (OL (cI q (fun q=>?_) (fun q=>?_)))
          ·refine OL (EI (.take 0 (.take 1 (.take 2 (.take 3 (.take 4 (.take 5 (.take 6 (.take 7 (.take 8 (.take 9 (.take 10 (.take 11 (.take 12 (.take 13 (.take 14 (.take 15 (.take 16 (.take 17 (.take 18 (.take 19 (.take 20 (.take 21 (.take 22 (.take 23 (.take 24 (.take 25 (.take 26 (.alt 27 (.alt 28 (.alt 29 .done .done) .done) .done)))))))))))))))))))))))))))) (EI [(29,[4])] (EI [] (AI rfl (gI q (fun q=>?_))))))
           refine gI q (fun q=>?_)
           refine AI TV ?_
           obtain ⟨q23_27,hq23_27,q⟩ := bE q
           refine OL (AI f93_in (cV (cQ C93 ((rd (0:Int) a.2 (i64.wrap ((i64.wrap ((i64.wrap (x_ * (rd (0:Int) a.1 (1:Int)))) + (i64.wrap (j * step)))) + y_))),(rd (0:Int) k.2 (i64.wrap ((i64.wrap ((i64.wrap ((i64.wrap (i * (rd (0:Int) a.1 (0:Int)))) + x_)) * (rd (0:Int) k.1 (2:Int)))) + y_)))) q23_27 [] false C93_holds hq23_27 rfl rfl (R2 (K0 (AI TV ?_))))))
           obtain ⟨q23_28,hq23_28,q⟩ := bE q
           refine OL (AI f92_in (cV (cQ C92 (c4_0_2,c4_1_2,c4_2_2,c4_3_2,c4_4_2,q23_27.1,q23_27.2.1,q23_27.2.2.1,q23_27.2.2.2.1,q23_27.2.2.2.2) q23_28 [] false C92_holds hq23_28 rfl rfl (AI NH (R2 (AI (R2 TV) (AI TV (AI TV (OL (EI ((i64.wrap (y_ + (1:Int))),q23_28.1,q23_28.2.1,q23_28.2.2.1,q23_28.2.2.2.1,q23_28.2.2.2.2) (AI q (E4 I7 (R11 (AI (R5 TV) (R7 TV)))))))))))))))
          cases sE q
          refine E4 I7 (R10 (AI (R5 TV) (R7 TV)))
         refine AI (EI ((i64.wrap (x_ + (1:Int))),z54.1,z54.2.1,z54.2.2.1,z54.2.2.2.1,z54.2.2.2.2) (AI q (E4 I7 (R10 (AI (R5 TV) (R7 TV)))))) TV
        cases sE q
        refine E4 I7 (R9 (AI (R5 TV) (R7 TV)))
       refine AI (EI (.take 0 (.take 1 (.take 2 (.take 3 (.take 4 (.take 5 (.take 6 (.take 7 (.alt 8 (.alt 9 (.take 10 (.alt 11 .done .done)) .done) .done))))))))) (EI [] (EI [] (AI rfl (AI TV ?_))))) TV
       obtain ⟨q24_8,hq24_8,q⟩ := bE q
       refine OL (AI f95_in (cV (cQ C95 (z53.1,z53.2.1,z53.2.2.1,z53.2.2.2.1,z53.2.2.2.2,(32:Int)) q24_8 [] false C95_holds hq24_8 rfl rfl (AI rfl (AI NH (R2 (AJ (AI TV (AI TV ?_)))))))))
       obtain ⟨q24_9,hq24_9,q⟩ := bE q
       refine OL (AI f94_in (cV (cQ C94 (q24_8.1,q24_8.2.1,q24_8.2.2.1,q24_8.2.2.2.1,q24_8.2.2.2.2) q24_9 [] false C94_holds hq24_9 rfl rfl (AI NH (R2 (AJ (AI TV (gI q (fun q=>?_)))))))))
       refine AI TV (OL (EI ((i64.wrap (j + (1:Int))),(List.set l5_2 (Int.toNat (i64.wrap ((i64.wrap (i * (i64.wrap ((i64.wrap (Int.tdiv (i64.wrap ((rd (0:Int) a.1 (1:Int)) - (rd (0:Int) k.1 (2:Int)))) step)) + (1:Int))))) + j))) q24_9)) (AI q (E4 [(0,some 0),(1,some 1),(2,some 2),(3,some 3),(4,some 5),(5,some 6)] (R9 (AI (R4 TV) (R6 TV)))))))
      cases sE q
      refine E4 I6 (R8 (AI (R4 TV) (R6 TV)))
     refine AI (EI ((i64.wrap (i + (1:Int))),z50) (AI q (E4 I6 (R8 (AI (R4 TV) (R6 TV)))))) TV
    cases sE q
    refine E4 [(0,some 2),(1,some 3),(2,some 4),(3,some 5)] (AI rfl (AI (R2 TV) (R4 TV)))
   refine AI (OL (OL ?_)) TV
   cases sE q
   refine AI rfl (E4 [(0,some 2),(1,some 3)] (R2 (AJ (R2 TV))))
  dsimp only [sumF] at q
  refine AI ?_ TV
  cases sE q
  refine AI rfl (E4 [(0,none),(1,none)] (R2 (AJ (R2 TV))))
 dsimp only [sumF] at q
 refine AI ?_ TV
 cases sE q
 refine AI rfl (E4 [(0,none),(1,none)] (R2 (AJ (R2 TV))))
theorem C61_holds : HP C61 61 := hH Tryz.f61 (by kernel_rfl) rfl (fun x y q=>C61_vc x.1 x.2.1 x.2.2 y q)
theorem f61_in : InP 61 := inP (by kernel_rfl)
def f62_j3 (a : LI×LI) (w:Int) : Option Bool :=
 bif (decide (w < (1:Int))) then
 some true
 else
 guardF (0 ≤ (1:Int) ∧ (1:Int) < (List.length a.1:Int)) <|
 some (decide (w > (rd (0:Int) a.1 (1:Int))))
def f62_j2 (a : LI×LI) (w:Int) : Option (Sum Unit Unit) :=
 bindF (f62_j3 a w) fun z4 =>
 bif z4 then
 some (Sum.inr ())
 else
 some (Sum.inl ())
def f62_l16 (a : LI×LI) (w:Int) (x_:Int) (j:Int) (go : (Int×Int) → Option Int) (best:Int) (y_:Int) : Option Int :=
 bif (decide (y_ < w)) then
 guardF (0 ≤ (i64.wrap ((i64.wrap ((i64.wrap (x_ * (rd (0:Int) a.1 (1:Int)))) + (i64.wrap (j * w)))) + y_)) ∧ (i64.wrap ((i64.wrap ((i64.wrap (x_ * (rd (0:Int) a.1 (1:Int)))) + (i64.wrap (j * w)))) + y_)) < (List.length a.2:Int)) <|
 guardF (0 ≤ best ∧ best < (List.length a.2:Int)) <|
 bif (decide ((rd (0:Int) a.2 (i64.wrap ((i64.wrap ((i64.wrap (x_ * (rd (0:Int) a.1 (1:Int)))) + (i64.wrap (j * w)))) + y_))) > (rd (0:Int) a.2 best))) then
 go ((i64.wrap ((i64.wrap ((i64.wrap (x_ * (rd (0:Int) a.1 (1:Int)))) + (i64.wrap (j * w)))) + y_)),(i64.wrap (y_ + (1:Int))))
 else
 go (best,(i64.wrap (y_ + (1:Int))))
 else
 some best
def f62_l15 (a : LI×LI) (w:Int) (x_:Int) (go : (Int×LI×LI) → Option (LI×LI)) (j:Int) (l3_2 : LI) (l5_2 : LI) : Option (LI×LI) :=
 bif (decide (j < (i64.wrap (Int.tdiv (rd (0:Int) a.1 (1:Int)) w)))) then
 bindF (loopF (fun go x=>f62_l16 a w x_ j go x.1 x.2) fuelN ((i64.wrap ((i64.wrap (x_ * (rd (0:Int) a.1 (1:Int)))) + (i64.wrap (j * w)))),(1:Int))) fun z17 =>
 guardF (0 ≤ z17 ∧ z17 < (List.length a.2:Int)) <|
 guardF (0 ≤ (i64.wrap ((i64.wrap (x_ * (i64.wrap (Int.tdiv (rd (0:Int) a.1 (1:Int)) w)))) + j)) ∧ (i64.wrap ((i64.wrap (x_ * (i64.wrap (Int.tdiv (rd (0:Int) a.1 (1:Int)) w)))) + j)) < (List.length l5_2:Int)) <|
 guardF ((List.length l3_2 + List.length ([z17])) * 8 ≤ 140737488355328) <|
 go ((i64.wrap (j + (1:Int))),(l3_2 ++ ([z17])),(List.set l5_2 (Int.toNat (i64.wrap ((i64.wrap (x_ * (i64.wrap (Int.tdiv (rd (0:Int) a.1 (1:Int)) w)))) + j))) (rd (0:Int) a.2 z17)))
 else
 some (l3_2,l5_2)
def f62_l12 (a : LI×LI) (w:Int) (go : (Int×LI×LI) → Option (LI×LI)) (x_:Int) (l3 : LI) (l5 : LI) : Option (LI×LI) :=
 bif (decide (x_ < (rd (0:Int) a.1 (0:Int)))) then
 bindF (loopF (fun go x=>f62_l15 a w x_ go x.1 x.2.1 x.2.2) fuelN ((0:Int),l3,l5)) fun z16 =>
 go ((i64.wrap (x_ + (1:Int))),z16.1,z16.2)
 else
 some (l3,l5)
def f62 (a : LI×LI) (w:Int) : Option (Int×LI×LI×LI) :=
 bindF (f27 (a.1,a.2)) fun r1 =>
 bif (!r1) then
 some ((1:Int),[],[],[])
 else
 bif ((List.length a.1:Int) != (2:Int)) then
 some ((4:Int),[],[],[])
 else
 bindF (f62_j2 a w) fun z3 =>
 sumF z3 (fun z3a =>
 guardF (0 ≤ (0:Int) ∧ (0:Int) < (List.length a.1:Int)) <|
 guardF (0 ≤ (1:Int) ∧ (1:Int) < (List.length a.1:Int)) <|
 guardF (w ≠ 0) <|
 bindF (f87 ([(rd (0:Int) a.1 (0:Int)),(i64.wrap (Int.tdiv (rd (0:Int) a.1 (1:Int)) w))]) (0:Int)) fun q7_9 =>
 bindF (loopF (fun go x=>f62_l12 a w go x.1 x.2.1 x.2.2) fuelN ((0:Int),[],q7_9.2)) fun z13 =>
 some ((0:Int),q7_9.1,z13.2,z13.1)) (fun z3b =>
 some ((1:Int),[],[],[]))
def C62 : Con where
 X := (LI×LI)×Int
 Y := Int×LI×LI×LI
 e := 0
 args x := [.dat T3 x.1,.dat T2 x.2]
 hin x := []
 F x := f62 x.1 x.2
 ret y := [.raw true [(.osl 0),(.osl 1)],O0 2,.dat T2 y.1]
 hout y := [(0,.arr 3 T2 y.2.1),(1,.arr 33 T2 y.2.2.1),(2,.arr 3 T2 y.2.2.2)]
 nout := 3
theorem C62_vc (a : LI×LI) (w:Int) (y : Int×LI×LI×LI) (q : f62 a w = some y) : VC Tryz.f62 C62 (a,w) y := by
 unfold f62 at q
 refine OL (OL (OL ?_))
 obtain ⟨r1,hr1,q⟩ := bE q
 refine OL (AI f27_in (cV (cQ C27 (a.1,a.2) r1 [] false C27_holds hr1 rfl rfl (R2 (K0 (cI q (fun q=>?_) (fun q=>?_)))))))
 ·refine OL (OL ?_)
  cases sE q
  refine AI rfl (E4 [(0,none),(1,none),(2,none)] (R2 (AI (R2 TV) (R3 TV))))
 refine OL (OL (cI q (fun q=>?_) (fun q=>?_)))
 ·refine OL (OL ?_)
  cases sE q
  refine AI rfl (E4 [(0,none),(1,none),(2,none)] (R2 (AI (R2 TV) (R3 TV))))
 obtain ⟨z3,hz3,q⟩ := bE q
 refine OQ ⟨Sum.elim (fun z3a=>[(0,⟨[(1,.dat T2 w),(2,P0 0 0),(4,P0 1 0)],[(0,.cells [(.d T1 a.1),(.d T1 a.2)]),(1,.cells [N0,N0])],2⟩)]) (fun z3b=>[(1,⟨[(4,P0 0 0),(5,.raw false [N0]),(6,D0 1)],[(0,.cells [N0,N0])],1⟩)]) z3,?_,?_⟩
 ·have q := hz3
  clear hz3
  unfold f62_j2 at q
  obtain ⟨z4,hz4,q⟩ := bE q
  refine OQ ⟨[(0,⟨[(1,.dat T2 w),(2,P0 0 0),(4,P0 1 0),(34,.dat .bool z4)],[(0,.cells [(.d T1 a.1),(.d T1 a.2)]),(1,.cells [N0,N0])],2⟩)],?_,?_⟩
  ·have q := hz4
   clear hz4
   unfold f62_j3 at q
   refine cN q (fun q=>?_) (fun q=>?_)
   ·refine gY (gY (gY (gI q (fun q=>?_))))
    refine gY (gY (cF ?_))
    cases sE q
    refine E4 I2 (R3 (AI (R2 TV) (R2 TV)))
   refine gN (gN (gN (gN (gN (cT ?_)))))
   cases sE q
   refine E4 I2 (R3 (AI (R2 TV) (R2 TV)))
  refine AI (cI q (fun q=>?_) (fun q=>?_)) TV
  ·refine OL (OL ?_)
   cases sE q
   refine E4 [(0,some 1)] (R2 (AI (R2 TV) (AI rfl TV)))
  cases sE q
  refine E4 I2 (R2 (AI (R2 TV) (R2 TV)))
 rcases z3 with z3a | z3b
 ·dsimp only [sumF] at q
  refine AI (OL (EI (.take 0 (.take 1 (.take 2 (.take 3 (.take 4 (.take 5 (.take 6 (.take 7 (.take 8 (.take 9 .done)))))))))) (EI [] (EI [] (AI rfl (gI q (fun q=>?_))))))) TV
  refine gI q (fun q=>?_)
  refine OL (gI q (fun q=>?_))
  refine OL (OL ?_)
  obtain ⟨q7_9,hq7_9,q⟩ := bE q
  refine OL (AI f87_in (cV (cQ C87 ([(rd (0:Int) a.1 (0:Int)),(i64.wrap (Int.tdiv (rd (0:Int) a.1 (1:Int)) w))],(0:Int)) q7_9 [] true C87_holds hq7_9 rfl rfl (R2 (AI (fun _=>rfl) (R2 (AI TV (AI TV (OL (OL (OL (OL ?_))))))))))))
  obtain ⟨z13,hz13,q⟩ := bE q
  refine lI (Int×LI×LI) (LI×LI) (fun x=>⟨[(1,.dat T2 w),(2,P0 0 0),(4,P0 1 0),(7,.dat T2 (rd (0:Int) a.1 (0:Int))),(8,.dat T2 (rd (0:Int) a.1 (1:Int))),(9,.dat T2 (i64.wrap (Int.tdiv (rd (0:Int) a.1 (1:Int)) w))),(10,P0 2 0),(11,O0 3),(12,.dat T2 x.1)],[(0,.cells [(.d T1 a.1),(.d T1 a.2)]),(1,.cells [N0,N0]),(2,.cells [(.osl 4),(.osl 5)]),(3,.arr 3 T2 x.2.1),(4,.arr 3 T2 q7_9.1),(5,.arr 33 T2 x.2.2)],6⟩) (fun z=>[(2,⟨[(4,P0 0 0),(10,P0 1 0),(11,O0 2)],[(0,.cells [N0,N0]),(1,.cells [(.osl 3),(.osl 4)]),(2,.arr 3 T2 z.1),(3,.arr 3 T2 q7_9.1),(4,.arr 33 T2 z.2)],5⟩)]) (loopF (fun go x=>f62_l12 a w go x.1 x.2.1 x.2.2)) fuelN ((0:Int),[],q7_9.2) z13 (AI hz13 (AI (E4 [(0,some 0),(1,some 1),(2,some 5),(3,none),(4,some 3),(5,some 4)] (R6 (AI (R4 TV) (R6 TV)))) (AI (fun _ _ h=>lZ h) (AI (fun m=>curI (fun x_=>curI (fun l3=>fun l5 z q=>?_))) ?_))))
  ·have q : f62_l12 a w (loopF (fun go x=>f62_l12 a w go x.1 x.2.1 x.2.2) m) x_ l3 l5 = some z := q
   unfold f62_l12 at q
   refine OL (OL (cI q (fun q=>?_) (fun q=>?_)))
   ·refine OL (OL ?_)
    obtain ⟨z16,hz16,q⟩ := bE q
    refine lI (Int×LI×LI) (LI×LI) (fun x=>⟨[(1,.dat T2 w),(2,P0 0 0),(4,P0 1 0),(7,.dat T2 (rd (0:Int) a.1 (0:Int))),(8,.dat T2 (rd (0:Int) a.1 (1:Int))),(9,.dat T2 (i64.wrap (Int.tdiv (rd (0:Int) a.1 (1:Int)) w))),(10,P0 2 0),(11,O0 3),(12,.dat T2 x_),(13,.dat T2 x.1)],[(0,.cells [(.d T1 a.1),(.d T1 a.2)]),(1,.cells [N0,N0]),(2,.cells [(.osl 4),(.osl 5)]),(3,.arr 3 T2 x.2.1),(4,.arr 3 T2 q7_9.1),(5,.arr 33 T2 x.2.2)],6⟩) (fun z=>[(4,⟨[(1,.dat T2 w),(2,P0 0 0),(4,P0 1 0),(7,.dat T2 (rd (0:Int) a.1 (0:Int))),(8,.dat T2 (rd (0:Int) a.1 (1:Int))),(9,.dat T2 (i64.wrap (Int.tdiv (rd (0:Int) a.1 (1:Int)) w))),(10,P0 2 0),(11,O0 3),(12,.dat T2 x_)],[(0,.cells [(.d T1 a.1),(.d T1 a.2)]),(1,.cells [N0,N0]),(2,.cells [(.osl 4),(.osl 5)]),(3,.arr 3 T2 z.1),(4,.arr 3 T2 q7_9.1),(5,.arr 33 T2 z.2)],6⟩)]) (loopF (fun go x=>f62_l15 a w x_ go x.1 x.2.1 x.2.2)) fuelN ((0:Int),l3,l5) z16 (AI hz16 (AI (E4 I6 (R7 (AI (R4 TV) (R6 TV)))) (AI (fun _ _ h=>lZ h) (AI (fun m=>curI (fun j=>curI (fun l3_2=>fun l5_2 z q=>?_))) ?_))))
    ·have q : f62_l15 a w x_ (loopF (fun go x=>f62_l15 a w x_ go x.1 x.2.1 x.2.2) m) j l3_2 l5_2 = some z := q
     unfold f62_l15 at q
     refine OL (OL (cI q (fun q=>?_) (fun q=>?_)))
     ·refine OL (OL (OL (OL ?_)))
      obtain ⟨z17,hz17,q⟩ := bE q
      refine lI (Int×Int) Int (fun x=>⟨[(1,.dat T2 w),(2,P0 0 0),(4,P0 1 0),(7,.dat T2 (rd (0:Int) a.1 (0:Int))),(8,.dat T2 (rd (0:Int) a.1 (1:Int))),(9,.dat T2 (i64.wrap (Int.tdiv (rd (0:Int) a.1 (1:Int)) w))),(10,P0 2 0),(11,O0 3),(12,.dat T2 x_),(13,.dat T2 j),(14,.dat T2 x.1),(15,.dat T2 x.2)],[(0,.cells [(.d T1 a.1),(.d T1 a.2)]),(1,.cells [N0,N0]),(2,.cells [(.osl 4),(.osl 5)]),(3,.arr 3 T2 l3_2),(4,.arr 3 T2 q7_9.1),(5,.arr 33 T2 l5_2)],6⟩) (fun z=>[(6,⟨[(1,.dat T2 w),(2,P0 0 0),(4,P0 1 0),(7,.dat T2 (rd (0:Int) a.1 (0:Int))),(8,.dat T2 (rd (0:Int) a.1 (1:Int))),(9,.dat T2 (i64.wrap (Int.tdiv (rd (0:Int) a.1 (1:Int)) w))),(10,P0 2 0),(11,O0 3),(12,.dat T2 x_),(13,.dat T2 j),(14,.dat T2 z)],[(0,.cells [(.d T1 a.1),(.d T1 a.2)]),(1,.cells [N0,N0]),(2,.cells [(.osl 4),(.osl 5)]),(3,.arr 3 T2 l3_2),(4,.arr 3 T2 q7_9.1),(5,.arr 33 T2 l5_2)],6⟩)]) (loopF (fun go x=>f62_l16 a w x_ j go x.1 x.2)) fuelN ((i64.wrap ((i64.wrap (x_ * (rd (0:Int) a.1 (1:Int)))) + (i64.wrap (j * w)))),(1:Int)) z17 (AI hz17 (AI (E4 I6 (R9 (AI (R4 TV) (R6 TV)))) (AI (fun _ _ h=>lZ h) (AI (fun m=>curI (fun best=>fun y_ z q=>?_)) ?_))))
      ·have q : f62_l16 a w x_ j (loopF (fun go x=>f62_l16 a w x_ j go x.1 x.2) m) best y_ = some z := q
       unfold f62_l16 at q
       refine OL (OL (cI q (fun q=>?_) (fun q=>?_)))
       ·refine OL (OL (EI (.take 0 (.take 1 (.take 2 (.take 3 (.take 4 (.take 5 (.take 6 (.take 7 (.take 8 (.take 9 (.take 10 (.take 11 (.take 12 (.take 13 (.take 14 (.take 15 (.take 16 (.take 17 (.take 18 .done))))))))))))))))))) (EI [] (EI [] (AI rfl (gI q (fun q=>?_)))))))
        refine gI q (fun q=>?_)
        refine cI q (fun q=>?_) (fun q=>?_)
        ·refine EI ((i64.wrap ((i64.wrap ((i64.wrap (x_ * (rd (0:Int) a.1 (1:Int)))) + (i64.wrap (j * w)))) + y_)),(i64.wrap (y_ + (1:Int)))) (AI q (E4 I6 (R9 (AI (R4 TV) (R6 TV)))))
        refine EI (best,(i64.wrap (y_ + (1:Int)))) (AI q (E4 I6 (R9 (AI (R4 TV) (R6 TV)))))
       cases sE q
       refine E4 I6 (R8 (AI (R4 TV) (R6 TV)))
      refine AI (OL (EI (.take 0 (.take 1 (.take 2 (.take 3 (.take 4 (.take 5 (.take 6 (.take 7 (.take 8 (.take 9 (.take 10 (.take 11 (.take 12 (.alt 13 .done .done)))))))))))))) (EI [] (EI [] (AI rfl (gI q (fun q=>?_))))))) TV
      refine gI q (fun q=>?_)
      refine AI TV (OL (OL (OL (gI q (fun q=>?_)))))
      refine EI ((i64.wrap (j + (1:Int))),(l3_2 ++ ([z17])),(List.set l5_2 (Int.toNat (i64.wrap ((i64.wrap (x_ * (i64.wrap (Int.tdiv (rd (0:Int) a.1 (1:Int)) w)))) + j))) (rd (0:Int) a.2 z17))) (AI q (E4 [(0,some 0),(1,some 1),(2,some 2),(3,some 7),(4,some 4),(5,some 5)] (R7 (AI (R4 TV) (R6 TV)))))
     cases sE q
     refine E4 I6 (R6 (AI (R4 TV) (R6 TV)))
    refine AI (EI ((i64.wrap (x_ + (1:Int))),z16.1,z16.2) (AI q (E4 I6 (R6 (AI (R4 TV) (R6 TV)))))) TV
   cases sE q
   refine E4 [(0,some 1),(1,some 2),(2,some 3),(3,some 4),(4,some 5)] (AI rfl (AI (R3 TV) (R5 TV)))
  refine AI (OL (OL ?_)) TV
  cases sE q
  refine AI rfl (E4 [(0,some 3),(1,some 4),(2,some 2)] (R2 (AI (R2 TV) (R3 TV))))
 dsimp only [sumF] at q
 refine AI ?_ TV
 cases sE q
 refine AI rfl (E4 [(0,none),(1,none),(2,none)] (R2 (AI (R2 TV) (R3 TV))))
theorem C62_holds : HP C62 62 := hH Tryz.f62 (by kernel_rfl) rfl (fun x y q=>C62_vc x.1 x.2 y q)
theorem f62_in : InP 62 := inP (by kernel_rfl)
def f63_j3 (a : LI×LI) (d : LI) : Option Bool :=
 bindF (f27 (a.1,a.2)) fun r9 =>
 bif (!r9) then
 some true
 else
 bindF (f49 d) fun r10 =>
 some (!r10)
def f63_j2 (a : LI×LI) (d : LI) : Option (Sum Unit Unit) :=
 bindF (f63_j3 a d) fun z8 =>
 bif z8 then
 some (Sum.inr ())
 else
 some (Sum.inl ())
def f63 (a : LI×LI) (d : LI) : Option (Int×LI×LI) :=
 bindF (f63_j2 a d) fun z5 =>
 sumF z5 (fun z5a =>
 bindF (f50 d) fun q3_1 =>
 bif (q3_1 != (List.length a.2:Int)) then
 some ((4:Int),[],[])
 else
 guardF ((List.length ([] : LI) + List.length d) * 8 ≤ 140737488355328) <|
 guardF ((List.length ([] : LI) + List.length a.2) * 8 ≤ 140737488355328) <|
 some ((0:Int),(([] : LI) ++ d),(([] : LI) ++ a.2))) (fun z5b =>
 some ((1:Int),[],[]))
def C63 : Con where
 X := (LI×LI)×LI
 Y := Int×LI×LI
 e := 0
 args x := [.dat T3 x.1,.dat T1 x.2]
 hin x := []
 F x := f63 x.1 x.2
 ret y := [.raw true [(.osl 0),(.osl 1)],.dat T2 y.1]
 hout y := [(0,.arr 3 T2 y.2.1),(1,.arr 33 T2 y.2.2)]
 nout := 2
theorem C63_vc (a : LI×LI) (d : LI) (y : Int×LI×LI) (q : f63 a d = some y) : VC Tryz.f63 C63 (a,d) y := by
 unfold f63 at q
 refine OL ?_
 obtain ⟨z5,hz5,q⟩ := bE q
 refine OQ ⟨Sum.elim (fun z5a=>[(0,⟨[(1,.dat T1 d),(2,P0 0 0),(4,P0 1 0)],[(0,.cells [(.d T1 a.1),(.d T1 a.2)]),(1,.cells [N0,N0])],2⟩)]) (fun z5b=>[(1,⟨[(4,P0 0 0),(5,D0 1)],[(0,.cells [N0,N0])],1⟩)]) z5,?_,?_⟩
 ·have q := hz5
  clear hz5
  unfold f63_j2 at q
  obtain ⟨z8,hz8,q⟩ := bE q
  refine OQ ⟨[(0,⟨[(1,.dat T1 d),(2,P0 0 0),(4,P0 1 0),(13,.dat .bool z8)],[(0,.cells [(.d T1 a.1),(.d T1 a.2)]),(1,.cells [N0,N0])],2⟩)],?_,?_⟩
  ·have q := hz8
   clear hz8
   unfold f63_j3 at q
   obtain ⟨r9,hr9,q⟩ := bE q
   refine OL (AI f27_in (cV (cQ C27 (a.1,a.2) r9 [] false C27_holds hr9 rfl rfl (R2 (K0 (cN q (fun q=>?_) (fun q=>?_)))))))
   ·refine gY ?_
    obtain ⟨r10,hr10,q⟩ := bE q
    refine OL (AI f49_in (cV (cQ C49 d r10 [] false C49_holds hr10 rfl rfl (AI rfl (K0 (gY (cF ?_)))))))
    cases sE q
    refine E4 I2 (R3 (AI (R2 TV) (R2 TV)))
   refine gN (gN (cT ?_))
   cases sE q
   refine E4 I2 (R3 (AI (R2 TV) (R2 TV)))
  refine AI (cI q (fun q=>?_) (fun q=>?_)) TV
  ·refine OL (OL ?_)
   cases sE q
   refine E4 [(0,some 1)] (R2 (AJ (AI rfl TV)))
  cases sE q
  refine E4 I2 (R2 (AI (R2 TV) (R2 TV)))
 rcases z5 with z5a | z5b
 ·dsimp only [sumF] at q
  refine AI (OL (OL (EI (.take 0 (.take 2 (.take 3 (.take 4 (.alt 1 (.take 5 .done) .done))))) (EI [] (EI [] (AI rfl (AI TV ?_))))))) TV
  obtain ⟨q3_1,hq3_1,q⟩ := bE q
  refine OL (AI f50_in (cV (cQ C50 d q3_1 [] false C50_holds hq3_1 rfl rfl (AI rfl (K0 (cI q (fun q=>?_) (fun q=>?_)))))))
  ·refine OL (OL ?_)
   cases sE q
   refine AI rfl (E4 [(0,none),(1,none)] (R2 (AJ (R2 TV))))
  refine OL ?_
  obtain ⟨g5_0,q⟩ := gE q
  obtain ⟨g5_1,q⟩ := gE q
  refine EI (.take 1 (.take 4 (.take 5 (.alt 0 (.alt 2 (.alt 3 (.alt 6 (.take 7 (.alt 8 (.take 9 .done) .done)) .done) .done) (.alt 3 (.alt 2 (.alt 6 (.take 7 (.alt 8 (.take 9 .done) .done)) .done) .done) .done)) (.alt 3 (.alt 0 (.alt 2 (.alt 6 (.take 7 (.alt 8 (.take 9 .done) .done)) .done) .done) .done) .done))))) (EI [] (EI [] (AI rfl (AI (AI TV ?_) ?_))))
  ·refine OL (AI TV (OL (AI TV (OL (AI g5_0 (AI TV (OL (AI g5_1 (AI TV (OL ?_))))))))))
   cases sE q
   refine AI rfl (E4 [(0,some 4),(1,some 5)] (R2 (AJ (R2 TV))))
  refine OL (AI (AI TV ?_) ?_)
  ·refine OL (AI TV (OL (AI g5_0 (AI TV (OL (AI g5_1 (AI TV (OL ?_))))))))
   cases sE q
   refine AI rfl (E4 [(0,some 4),(1,some 5)] (R2 (AJ (R2 TV))))
  refine OL (AI g5_0 (AI TV (OL (AI TV (OL (AI g5_1 (AI TV (OL ?_))))))))
  cases sE q
  refine AI rfl (E4 [(0,some 3),(1,some 5)] (R2 (AJ (R2 TV))))
 dsimp only [sumF] at q
 refine AI ?_ TV
 cases sE q
 refine AI rfl (E4 [(0,none),(1,none)] (R2 (AJ (R2 TV))))
theorem C63_holds : HP C63 63 := hH Tryz.f63 (by kernel_rfl) rfl (fun x y q=>C63_vc x.1 x.2 y q)
theorem f63_in : InP 63 := inP (by kernel_rfl)
def f30_j4 (op:Int) : Option Bool :=
 bif (op == (2:Int)) then
 some (op == (2:Int))
 else
 bif (op == (3:Int)) then
 some (op == (3:Int))
 else
 some (op == (4:Int))
def f30_j5 (a : LI×LI) (k:Int) : Option (Int×LI×LI) :=
 bindF (f56 k) fun q23_2 =>
 bindF (f62 (a.1,a.2) q23_2) fun q23_3 =>
 some (q23_3.1,q23_3.2.1,q23_3.2.2.1)
def f30_j3 (op:Int) (a : LI×LI) (b : LI×LI) (k:Int) : Option (Sum Unit (Int×LI×LI)) :=
 bindF (f30_j4 op) fun z11 =>
 bif z11 then
 bindF (f51 (i64.wrap (op - (2:Int))) (a.1,a.2) (b.1,b.2)) fun q23_11 =>
 some (Sum.inr (q23_11.1,q23_11.2.1,q23_11.2.2))
 else
 bif (op == (5:Int)) then
 bindF (f52 (a.1,a.2) k) fun r12 =>
 some (Sum.inr (r12.1,r12.2.1,r12.2.2))
 else
 bif (op == (6:Int)) then
 bindF (f53 (a.1,a.2) (b.1,b.2)) fun r13 =>
 some (Sum.inr (r13.1,r13.2.1,r13.2.2))
 else
 bif (op == (7:Int)) then
 bindF (f54 (a.1,a.2)) fun r14 =>
 some (Sum.inr (r14.1,r14.2.1,r14.2.2))
 else
 bif (op == (8:Int)) then
 bindF (f56 k) fun q13_2 =>
 bindF (f55 (a.1,a.2) q13_2) fun q13_3 =>
 some (Sum.inr (q13_3.1,q13_3.2.1,q13_3.2.2))
 else
 bif (op == (9:Int)) then
 bindF (f58 (a.1,a.2)) fun q13_7 =>
 bindF (f57 q13_7) fun r15 =>
 some (Sum.inr ((0:Int),r15.1,r15.2))
 else
 bif (op == (10:Int)) then
 bindF (f59 (a.1,a.2)) fun r16 =>
 bindF (f57 r16) fun r17 =>
 some (Sum.inr ((0:Int),r17.1,r17.2))
 else
 bif (op == (11:Int)) then
 bindF (f56 k) fun q19_1 =>
 bindF (f60 q19_1 (a.1,a.2)) fun q19_3 =>
 some (Sum.inr (q19_3.1,q19_3.2.1,q19_3.2.2))
 else
 bif (op == (12:Int)) then
 bindF (f56 k) fun q21_3 =>
 bindF (f61 (a.1,a.2) (b.1,b.2) q21_3) fun q21_4 =>
 some (Sum.inr (q21_4.1,q21_4.2.1,q21_4.2.2))
 else
 bif (op == (13:Int)) then
 bindF (f30_j5 a k) fun z18 =>
 some (Sum.inr (z18.1,z18.2.1,z18.2.2))
 else
 some (Sum.inl ())
def f30 (op:Int) (a : LI×LI) (b : LI×LI) (k:Int) : Option (Int×LI×LI) :=
 bindF (f30_j3 op a b k) fun z10 =>
 sumF z10 (fun z10a =>
 bindF (f63 (a.1,a.2) ([(List.length a.2:Int)])) fun r19 =>
 some (r19.1,r19.2.1,r19.2.2)) (fun z10b =>
 some (z10b.1,z10b.2.1,z10b.2.2))
def C30 : Con where
 X := Int×(LI×LI)×(LI×LI)×Int
 Y := Int×LI×LI
 e := 0
 args x := [.dat T2 x.1,.dat T3 x.2.1,.dat T3 x.2.2.1,.dat T2 x.2.2.2]
 hin x := []
 F x := f30 x.1 x.2.1 x.2.2.1 x.2.2.2
 ret y := [.raw true [(.osl 0),(.osl 1)],.dat T2 y.1]
 hout y := [(0,.arr 3 T2 y.2.1),(1,.arr 33 T2 y.2.2)]
 nout := 2
theorem C30_vc (op:Int) (a : LI×LI) (b : LI×LI) (k:Int) (y : Int×LI×LI) (q : f30 op a b k = some y) : VC Tryz.f30 C30 (op,a,b,k) y := by
 unfold f30 at q
 refine OL ?_
 obtain ⟨z10,hz10,q⟩ := bE q
 refine OQ ⟨Sum.elim (fun z10a=>[(0,⟨[(5,P0 0 0),(8,P0 1 0)],[(0,.cells [(.d T1 a.1),(.d T1 a.2)]),(1,.cells [N0,N0])],2⟩)]) (fun z10b=>[(1,⟨[(8,P0 0 0),(9,.dat T2 z10b.1)],[(0,.cells [(.osl 1),(.osl 2)]),(1,.arr 3 T2 z10b.2.1),(2,.arr 33 T2 z10b.2.2)],3⟩)]) z10,?_,?_⟩
 ·have q := hz10
  clear hz10
  unfold f30_j3 at q
  refine OL ?_
  obtain ⟨z11,hz11,q⟩ := bE q
  refine OQ ⟨[(0,⟨[(0,.dat T2 op),(3,.dat T2 k),(5,P0 0 0),(6,P0 1 0),(8,P0 2 0),(13,.dat T2 op),(14,.dat .bool z11)],[(0,.cells [(.d T1 a.1),(.d T1 a.2)]),(1,.cells [(.d T1 b.1),(.d T1 b.2)]),(2,.cells [N0,N0])],3⟩)],?_,?_⟩
  ·have q := hz11
   clear hz11
   unfold f30_j4 at q
   refine OL (cI q (fun q=>?_) (fun q=>?_))
   ·cases sE q
    refine E4 I3 (R5 (AI (R3 TV) (R3 TV)))
   refine OL (cI q (fun q=>?_) (fun q=>?_))
   ·cases sE q
    refine E4 I3 (R5 (AI (R3 TV) (R3 TV)))
   cases sE q
   refine E4 I3 (R5 (AI (R3 TV) (R3 TV)))
  refine AI (cI q (fun q=>?_) (fun q=>?_)) TV
  ·refine OL ?_
   obtain ⟨q23_11,hq23_11,q⟩ := bE q
   refine OL (AI f51_in (cV (cQ C51 ((i64.wrap (op - (2:Int))),(a.1,a.2),(b.1,b.2)) q23_11 [] false C51_holds hq23_11 rfl rfl (R5 (K0 (OL ?_))))))
   cases sE q
   refine E4 [(0,some 2),(1,some 3),(2,some 4)] (R2 (AJ (R3 TV)))
  refine OL (cI q (fun q=>?_) (fun q=>?_))
  ·refine OL ?_
   obtain ⟨r12,hr12,q⟩ := bE q
   refine OL (AI f52_in (cV (cQ C52 ((a.1,a.2),k) r12 [] false C52_holds hr12 rfl rfl (R3 (K0 (OL ?_))))))
   cases sE q
   refine E4 [(0,some 2),(1,some 3),(2,some 4)] (R2 (AJ (R3 TV)))
  refine OL (cI q (fun q=>?_) (fun q=>?_))
  ·refine OL ?_
   obtain ⟨r13,hr13,q⟩ := bE q
   refine OL (AI f53_in (cV (cQ C53 ((a.1,a.2),(b.1,b.2)) r13 [] false C53_holds hr13 rfl rfl (R4 (K0 (OL ?_))))))
   cases sE q
   refine E4 [(0,some 2),(1,some 3),(2,some 4)] (R2 (AJ (R3 TV)))
  refine OL (cI q (fun q=>?_) (fun q=>?_))
  ·refine OL ?_
   obtain ⟨r14,hr14,q⟩ := bE q
   refine OL (AI f54_in (cV (cQ C54 (a.1,a.2) r14 [] false C54_holds hr14 rfl rfl (R2 (K0 (OL ?_))))))
   cases sE q
   refine E4 [(0,some 2),(1,some 3),(2,some 4)] (R2 (AJ (R3 TV)))
  refine OL (cI q (fun q=>?_) (fun q=>?_))
  ·refine OL (EI (.take 0 (.take 1 (.alt 2 (.alt 3 (.take 4 (.take 5 (.alt 6 (.take 7 .done) .done))) .done) .done))) (EI [] (EI [] (AI rfl (AI TV ?_)))))
   obtain ⟨q13_2,hq13_2,q⟩ := bE q
   refine OL (AI f56_in (cV (cQ C56 k q13_2 [] false C56_holds hq13_2 rfl rfl (AI rfl (K0 (AI TV ?_))))))
   obtain ⟨q13_3,hq13_3,q⟩ := bE q
   refine OL (AI f55_in (cV (cQ C55 ((a.1,a.2),q13_2) q13_3 [] false C55_holds hq13_3 rfl rfl (R3 (K0 (AI TV (OL ?_)))))))
   cases sE q
   refine E4 [(0,some 2),(1,some 3),(2,some 4)] (R2 (AJ (R3 TV)))
  refine OL (cI q (fun q=>?_) (fun q=>?_))
  ·refine OL ?_
   obtain ⟨q13_7,hq13_7,q⟩ := bE q
   refine OL (AI f58_in (cV (cQ C58 (a.1,a.2) q13_7 [] false C58_holds hq13_7 rfl rfl (R2 (K0 ?_)))))
   obtain ⟨r15,hr15,q⟩ := bE q
   refine OL (AI f57_in (cV (cQ C57 q13_7 r15 [] false C57_holds hr15 rfl rfl (AI rfl (K0 (OL ?_))))))
   cases sE q
   refine E4 [(0,some 2),(1,some 3),(2,some 4)] (R2 (AJ (R3 TV)))
  refine OL (cI q (fun q=>?_) (fun q=>?_))
  ·refine OL ?_
   obtain ⟨r16,hr16,q⟩ := bE q
   refine OL (AI f59_in (cV (cQ C59 (a.1,a.2) r16 [] false C59_holds hr16 rfl rfl (R2 (K0 ?_)))))
   obtain ⟨r17,hr17,q⟩ := bE q
   refine OL (AI f57_in (cV (cQ C57 r16 r17 [] false C57_holds hr17 rfl rfl (AI rfl (K0 (OL ?_))))))
   cases sE q
   refine E4 [(0,some 2),(1,some 3),(2,some 4)] (R2 (AJ (R3 TV)))
  refine OL (cI q (fun q=>?_) (fun q=>?_))
  ·refine OL (EI (.take 0 (.take 2 (.alt 1 (.alt 3 (.take 4 (.take 5 (.alt 6 (.take 7 .done) .done))) .done) .done))) (EI [] (EI [] (AI rfl (AI TV ?_)))))
   obtain ⟨q19_1,hq19_1,q⟩ := bE q
   refine OL (AI f56_in (cV (cQ C56 k q19_1 [] false C56_holds hq19_1 rfl rfl (AI rfl (K0 (AI TV ?_))))))
   obtain ⟨q19_3,hq19_3,q⟩ := bE q
   refine OL (AI f60_in (cV (cQ C60 (q19_1,(a.1,a.2)) q19_3 [] false C60_holds hq19_3 rfl rfl (R3 (K0 (AI TV (OL ?_)))))))
   cases sE q
   refine E4 [(0,some 2),(1,some 3),(2,some 4)] (R2 (AJ (R3 TV)))
  refine OL (cI q (fun q=>?_) (fun q=>?_))
  ·refine OL (EI (.take 0 (.take 1 (.take 2 (.alt 3 (.alt 4 (.take 5 (.take 6 (.alt 7 (.take 8 .done) .done))) .done) .done)))) (EI [] (EI [] (AI rfl (AI TV ?_)))))
   obtain ⟨q21_3,hq21_3,q⟩ := bE q
   refine OL (AI f56_in (cV (cQ C56 k q21_3 [] false C56_holds hq21_3 rfl rfl (AI rfl (K0 (AI TV ?_))))))
   obtain ⟨q21_4,hq21_4,q⟩ := bE q
   refine OL (AI f61_in (cV (cQ C61 ((a.1,a.2),(b.1,b.2),q21_3) q21_4 [] false C61_holds hq21_4 rfl rfl (R5 (K0 (AI TV (OL ?_)))))))
   cases sE q
   refine E4 [(0,some 2),(1,some 3),(2,some 4)] (R2 (AJ (R3 TV)))
  refine OL (cI q (fun q=>?_) (fun q=>?_))
  ·obtain ⟨z18,hz18,q⟩ := bE q
   refine OQ ⟨[(0,⟨[(8,P0 0 0),(10,P0 1 0),(12,.dat T2 z18.1)],[(0,.cells [N0,N0]),(1,.cells [(.osl 2),(.osl 3)]),(2,.arr 3 T2 z18.2.1),(3,.arr 33 T2 z18.2.2)],4⟩)],?_,?_⟩
   ·have q := hz18
    clear hz18
    unfold f30_j5 at q
    obtain ⟨q23_2,hq23_2,q⟩ := bE q
    obtain ⟨q23_3,hq23_3,q⟩ := bE q
    refine EI (.take 0 (.take 1 (.alt 2 (.alt 3 (.take 4 (.take 5 (.take 6 (.take 7 (.alt 8 (.alt 9 (.take 10 (.take 11 .done)) .done) .done))))) (.alt 8 (.alt 3 (.take 4 (.take 5 (.take 6 (.take 7 (.alt 9 (.take 10 (.take 11 .done)) .done))))) .done) .done)) (.alt 8 (.alt 2 (.alt 3 (.take 4 (.take 5 (.take 6 (.take 7 (.alt 9 (.take 10 (.take 11 .done)) .done))))) .done) .done) .done)))) (EI [] (EI [] (AI rfl (AI (AI TV ?_) ?_))))
    ·refine AI TV (OL (AI f56_in (cV (cQ C56 k q23_2 [] false C56_holds hq23_2 rfl rfl (AI rfl (K0 (AI TV (OL (AI f62_in (cV (cQ C62 ((a.1,a.2),q23_2) q23_3 [] false C62_holds hq23_3 rfl rfl (R3 (K0 (AI TV (OL ?_)))))))))))))))
     cases sE q
     refine E4 [(0,some 2),(1,some 3),(2,some 4),(3,some 5)] (R2 (AI (R2 TV) (R4 TV)))
    refine OL (AI f56_in (cV (cQ C56 k q23_2 [] false C56_holds hq23_2 rfl rfl (AI rfl (K0 (AI (AI TV ?_) ?_))))))
    ·refine AI TV (OL (AI f62_in (cV (cQ C62 ((a.1,a.2),q23_2) q23_3 [] false C62_holds hq23_3 rfl rfl (R3 (K0 (AI TV (OL ?_))))))))
     cases sE q
     refine E4 [(0,some 2),(1,some 3),(2,some 4),(3,some 5)] (R2 (AI (R2 TV) (R4 TV)))
    refine OL (AI f62_in (cV (cQ C62 ((a.1,a.2),q23_2) q23_3 [] false C62_holds hq23_3 rfl rfl (R3 (K0 (AI TV (AI TV (OL ?_))))))))
    cases sE q
    refine E4 [(0,some 2),(1,some 6),(2,some 3),(3,some 4)] (R2 (AI (R2 TV) (R4 TV)))
   refine AI (OL (OL ?_)) TV
   cases sE q
   refine E4 [(0,some 0),(1,some 2),(2,some 3)] (R2 (AJ (R3 TV)))
  cases sE q
  refine E4 [(0,some 0),(1,some 2)] (AI rfl (AI (R2 TV) (R2 TV)))
 rcases z10 with z10a | z10b
 ·dsimp only [sumF] at q
  refine AI (OL (OL ?_)) TV
  obtain ⟨r19,hr19,q⟩ := bE q
  refine OL (AI f63_in (cV (cQ C63 ((a.1,a.2),[(List.length a.2:Int)]) r19 [] true C63_holds hr19 rfl rfl (R3 (AI (fun _=>rfl) (R2 (AI TV (AI TV (OL ?_)))))))))
  cases sE q
  refine AI rfl (E4 [(0,some 3),(1,some 4)] (R2 (AJ (R2 TV))))
 dsimp only [sumF] at q
 refine AI ?_ TV
 cases sE q
 refine AI rfl (E4 [(0,some 1),(1,some 2)] (R2 (AJ (R2 TV))))
theorem C30_holds : HP C30 30 := hH Tryz.f30 (by kernel_rfl) rfl (fun x y q=>C30_vc x.1 x.2.1 x.2.2.1 x.2.2.2 y q)
theorem f30_in : InP 30 := inP (by kernel_rfl)
def f16_j1 (t_L : NL) (op:Int) (a:Int) (b:Int) : Option (Sum Unit Unit) :=
 bif (decide (op < (2:Int))) then
 some (Sum.inr ())
 else
 bif (decide (op > (14:Int))) then
 some (Sum.inr ())
 else
 bif (decide (a < (0:Int))) then
 some (Sum.inr ())
 else
 bif (decide (a ≥ (List.length t_L:Int))) then
 some (Sum.inr ())
 else
 bindF (f28 op) fun r3 =>
 bif r3 then
 bif (decide (b < (0:Int))) then
 some (Sum.inr ())
 else
 bif (decide (b ≥ (List.length t_L:Int))) then
 some (Sum.inr ())
 else
 some (Sum.inl ())
 else
 some (Sum.inl ())
def f16_j2 (t_L : NL) (op:Int) (b:Int) : Option (Int×LI×LI) :=
 bindF (f28 op) fun r6 =>
 bif r6 then
 guardF (0 ≤ b ∧ b < (List.length t_L:Int)) <|
 some (b,(((((rd (Ty.z T0) t_L b).2).2).2).2).1,(((((rd (Ty.z T0) t_L b).2).2).2).2).2)
 else
 some ((-1:Int),[],[])
def f16_j3 (op:Int) (k:Int) : Option Int :=
 bindF (f29 op) fun r9 =>
 bif r9 then
 some k
 else
 some (0:Int)
def f16_j4 (t_L : NL) (op:Int) (a:Int) (z5 : Int×LI×LI) (z8:Int) : Option (Int×LI×LI) :=
 guardF (0 ≤ a ∧ a < (List.length t_L:Int)) <|
 bindF (f30 op ((((((rd (Ty.z T0) t_L a).2).2).2).2).1,(((((rd (Ty.z T0) t_L a).2).2).2).2).2) (z5.2.1,z5.2.2) z8) fun q12_12 =>
 some (q12_12.1,q12_12.2.1,q12_12.2.2)
def f16 (t_L : NL) (op:Int) (a:Int) (b:Int) (k:Int) : Option (Int×Int×NL) :=
 bif (decide ((List.length t_L:Int) ≥ (512:Int))) then
 some ((0:Int),(2:Int),t_L)
 else
 bindF (f16_j1 t_L op a b) fun z2 =>
 sumF z2 (fun z2a =>
 bindF (f16_j2 t_L op b) fun z5 =>
 bindF (f16_j3 op k) fun z8 =>
 bindF (f16_j4 t_L op a z5 z8) fun z10 =>
 bif (z10.1 != (0:Int)) then
 some ((0:Int),z10.1,t_L)
 else
 guardF ((List.length t_L + List.length ([(op,a,z5.1,z8,z10.2.1,z10.2.2)])) * 80 ≤ 140737488355328) <|
 some ((i64.wrap ((List.length (t_L ++ ([(op,a,z5.1,z8,z10.2.1,z10.2.2)])):Int) - (1:Int))),(0:Int),(t_L ++ ([(op,a,z5.1,z8,z10.2.1,z10.2.2)])))) (fun z2b =>
 some ((0:Int),(1:Int),t_L))
def C16 : Con where
 X := NL×Int×Int×Int×Int
 Y := Int×Int×NL
 e := 2
 args x := [P0 0 0,.dat T2 x.2.1,.dat T2 x.2.2.1,.dat T2 x.2.2.2.1,.dat T2 x.2.2.2.2]
 hin x := [(0,.cells [(.osl 1)]),(1,.arr 44 T0 x.1)]
 F x := f16 x.1 x.2.1 x.2.2.1 x.2.2.2.1 x.2.2.2.2
 ret y := [.dat T2 y.1,.dat T2 y.2.1]
 hout y := [(0,.cells [(.osl 2)]),(2,.arr 44 T0 y.2.2)]
 nout := 3
theorem C16_vc (t_L : NL) (op:Int) (a:Int) (b:Int) (k:Int) (y : Int×Int×NL) (q : f16 t_L op a b k = some y) : VE Tryz.f16 2 C16 (t_L,op,a,b,k) y := by
 unfold f16 at q
 refine OL (OL (OL (cI q (fun q=>?_) (fun q=>?_))))
 ·cases sE q
  refine OL (AI rfl (E4 [(0,some 0),(2,some 1)] (R3 (AI TV (R2 TV)))))
 obtain ⟨z2,hz2,q⟩ := bE q
 refine OQ ⟨Sum.elim (fun z2a=>[(0,⟨[(0,P0 0 0),(1,.dat T2 op),(2,.dat T2 a),(3,.dat T2 b),(4,.dat T2 k)],[(0,.cells [(.osl 1)]),(1,.arr 44 T0 t_L)],2⟩)]) (fun z2b=>[(1,⟨[(10,D0 0),(11,D0 1)],[(0,.cells [(.osl 1)]),(1,.arr 44 T0 t_L)],2⟩)]) z2,?_,?_⟩
 ·have q := hz2
  clear hz2
  unfold f16_j1 at q
  refine OL (cN q (fun q=>?_) (fun q=>?_))
  ·refine gY (cF (cN q (fun q=>?_) (fun q=>?_)))
   ·refine gY (cF (cN q (fun q=>?_) (fun q=>?_)))
    ·refine gY (gY (gY (gY (gY (gY (cF (cN q (fun q=>?_) (fun q=>?_))))))))
     ·refine gY ?_
      obtain ⟨r3,hr3,q⟩ := bE q
      refine OL (AI f28_in (cV (cQ C28 op r3 [] false C28_holds hr3 rfl rfl (AI rfl (K0 (gY (cI q (fun q=>?_) (fun q=>?_))))))))
      ·refine gX (gX (cN q (fun q=>?_) (fun q=>?_)))
       ·refine gY (gY (gY (gY (gY (gY (gX (cF (gY (cT (cF (cI q (fun q=>?_) (fun q=>?_))))))))))))
        ·cases sE q
         refine OL (E4 I2 (R3 (AI TV (R2 TV))))
        cases sE q
        refine E4 I2 (R5 (AJ (R2 TV)))
       refine gN (gN (gN (gN (gN (gN (gX (cT (gY (cT (cF (cT (OL ?_))))))))))))
       cases sE q
       refine E4 I2 (R3 (AI TV (R2 TV)))
      refine gM (gM (gM (gY (cF (cF (cF ?_))))))
      cases sE q
      refine E4 I2 (R5 (AJ (R2 TV)))
     refine gN (gN (gN (cT (cT (OL ?_)))))
     cases sE q
     refine E4 I2 (R3 (AI TV (R2 TV)))
    refine gN (gN (gN (gN (gN (gN (cT (gN (gN (gN (gN (cT (cT (OL ?_)))))))))))))
    cases sE q
    refine E4 I2 (R3 (AI TV (R2 TV)))
   refine gN (cT (gN (gN (gN (gN (gN (gN (gN (cT (gN (gN (gN (gN (cT (cT (OL ?_))))))))))))))))
   cases sE q
   refine E4 I2 (R3 (AI TV (R2 TV)))
  refine gN (cT (gN (gN (cT (gN (gN (gN (gN (gN (gN (gN (cT (gN (gN (gN (gN (cT (cT (OL ?_)))))))))))))))))))
  cases sE q
  refine E4 I2 (R3 (AI TV (R2 TV)))
 rcases z2 with z2a | z2b
 ·dsimp only [sumF] at q
  refine AI (OL (OL (OL (OL ?_)))) TV
  obtain ⟨z5,hz5,q⟩ := bE q
  refine OQ ⟨[(0,⟨[(0,P0 0 0),(1,.dat T2 op),(2,.dat T2 a),(4,.dat T2 k),(12,P0 2 0),(13,P0 3 0)],[(0,.cells [(.osl 1)]),(1,.arr 44 T0 t_L),(2,.cells [(.d T2 op),(.d T2 a),(.d T2 z5.1),(.d T2 (0:Int)),N0,N0]),(3,.cells [(.d T1 z5.2.1),(.d T1 z5.2.2)])],4⟩)],?_,?_⟩
  ·have q := hz5
   clear hz5
   unfold f16_j2 at q
   refine OL ?_
   obtain ⟨r6,hr6,q⟩ := bE q
   refine OL (AI f28_in (cV (cQ C28 op r6 [] false C28_holds hr6 rfl rfl (AI rfl (K0 (cI q (fun q=>?_) (fun q=>?_)))))))
   ·refine OL (OL (gI q (fun q=>?_)))
    cases sE q
    refine OL (E4 I4 (R4 (AI (R3 TV) (R4 TV))))
   cases sE q
   refine EI [] (EI [] (EI [(3,0,T2),(3,1,T2)] (EI [] (EI I4 (R4 (AI (R3 TV) (R4 TV)))))))
  refine AI ?_ TV
  obtain ⟨z8,hz8,q⟩ := bE q
  refine OQ ⟨[(0,⟨[(0,P0 0 0),(1,.dat T2 op),(2,.dat T2 a),(12,P0 2 0),(13,P0 3 0)],[(0,.cells [(.osl 1)]),(1,.arr 44 T0 t_L),(2,.cells [(.d T2 op),(.d T2 a),(.d T2 z5.1),(.d T2 z8),N0,N0]),(3,.cells [(.d T1 z5.2.1),(.d T1 z5.2.2)])],4⟩)],?_,?_⟩
  ·have q := hz8
   clear hz8
   unfold f16_j3 at q
   refine OL ?_
   obtain ⟨r9,hr9,q⟩ := bE q
   refine OL (AI f29_in (cV (cQ C29 op r9 [] false C29_holds hr9 rfl rfl (AI rfl (K0 (cI q (fun q=>?_) (fun q=>?_)))))))
   ·cases sE q
    refine OL (E4 I4 (R3 (AI (R3 TV) (R4 TV))))
   cases sE q
   refine E4 I4 (R3 (AI (R3 TV) (R4 TV)))
  refine AI ?_ TV
  obtain ⟨z10,hz10,q⟩ := bE q
  refine OQ ⟨[(0,⟨[(0,P0 0 0),(12,P0 2 0),(14,P0 3 0),(15,.dat T2 z10.1)],[(0,.cells [(.osl 1)]),(1,.arr 44 T0 t_L),(2,.cells [(.d T2 op),(.d T2 a),(.d T2 z5.1),(.d T2 z8),N0,N0]),(3,.cells [(.osl 4),(.osl 5)]),(4,.arr 3 T2 z10.2.1),(5,.arr 33 T2 z10.2.2)],6⟩)],?_,?_⟩
  ·have q := hz10
   clear hz10
   unfold f16_j4 at q
   obtain ⟨g12_0,q⟩ := gE q
   obtain ⟨q12_12,hq12_12,q⟩ := bE q
   refine EI (.take 0 (.take 1 (.take 2 (.take 3 (.take 4 (.take 5 (.take 6 (.take 7 (.take 8 (.take 9 (.take 10 (.take 11 (.alt 12 (.take 13 (.take 14 (.take 15 (.alt 16 (.alt 17 (.take 18 .done) .done) .done)))) (.alt 16 (.alt 12 (.take 13 (.take 14 (.take 15 (.alt 17 (.take 18 .done) .done)))) .done) .done)))))))))))))) (EI [] (EI [] (AI rfl (AI g12_0 (AI (AI TV ?_) ?_)))))
   ·refine AI TV (OL (AI f30_in (cV (cQ C30 (op,((((((rd (Ty.z T0) t_L a).2).2).2).2).1,(((((rd (Ty.z T0) t_L a).2).2).2).2).2),(z5.2.1,z5.2.2),z8) q12_12 [] false C30_holds hq12_12 rfl rfl (R6 (K0 (AI TV (OL ?_))))))))
    cases sE q
    refine E4 [(0,some 0),(1,some 1),(2,some 2),(3,some 4),(4,some 5),(5,some 6)] (R2 (AI (R3 TV) (R6 TV)))
   refine OL (AI f30_in (cV (cQ C30 (op,((((((rd (Ty.z T0) t_L a).2).2).2).2).1,(((((rd (Ty.z T0) t_L a).2).2).2).2).2),(z5.2.1,z5.2.2),z8) q12_12 [] false C30_holds hq12_12 rfl rfl (R6 (K0 (AI TV (AI TV (OL ?_))))))))
   cases sE q
   refine E4 [(0,some 0),(1,some 1),(2,some 2),(3,some 6),(4,some 4),(5,some 5)] (R2 (AI (R3 TV) (R6 TV)))
  refine AI (OL (OL (cI q (fun q=>?_) (fun q=>?_)))) TV
  ·cases sE q
   refine OL (AI rfl (E4 [(0,some 0),(2,some 1)] (R3 (AI TV (R2 TV)))))
  refine OL (OL (OL (EI (.take 0 (.take 1 (.take 2 (.take 3 (.take 4 (.take 5 (.alt 6 (.alt 7 (.take 8 (.take 9 (.alt 10 .done .done))) .done) .done))))))) (EI [(10,[0])] (EI [] (AI rfl (AI TV (OL (AI TV (OL (gI q (fun q=>?_))))))))))))
  refine AI TV (OL (OL ?_))
  cases sE q
  refine AI rfl (E4 [(0,some 0),(2,some 7)] (R3 (AI TV (R2 TV))))
 dsimp only [sumF] at q
 refine AI ?_ TV
 cases sE q
 refine AI rfl (E4 [(0,some 0),(2,some 1)] (R3 (AI TV (R2 TV))))
theorem C16_holds : HP C16 16 := hH Tryz.f16 (by kernel_rfl) rfl (fun x y q=>C16_vc x.1 x.2.1 x.2.2.1 x.2.2.2.1 x.2.2.2.2 y q)
theorem f16_in : InP 16 := inP (by kernel_rfl)
def f17_l1 (w_L : NL) (go : (Int×Int) → Option Int) (n:Int) (i:Int) : Option Int :=
 bif (decide (i < (List.length w_L:Int))) then
 guardF (0 ≤ i ∧ i < (List.length w_L:Int)) <|
 go ((i64.wrap (n + (List.length ((((((rd (Ty.z T0) w_L i).2).2).2).2).2):Int))),(i64.wrap (i + (1:Int))))
 else
 some n
def f17 (w_L : NL) : Option (Int×NL) :=
 bindF (loopF (fun go x=>f17_l1 w_L go x.1 x.2) fuelN ((0:Int),(0:Int))) fun z1 =>
 some (z1,w_L)
def C17 : Con where
 X := NL
 Y := Int×NL
 e := 2
 args x := [P0 0 0]
 hin x := [(0,.cells [(.osl 1)]),(1,.arr 44 T0 x)]
 F x := f17 x
 ret y := [.dat T2 y.1]
 hout y := [(0,.cells [(.osl 1)]),(1,.arr 44 T0 y.2)]
 nout := 2
theorem C17_vc (w_L : NL) (y : Int×NL) (q : f17 w_L = some y) : VE Tryz.f17 2 C17 w_L y := by
 unfold f17 at q
 refine OL (OL (OL (OL ?_)))
 obtain ⟨z1,hz1,q⟩ := bE q
 refine lI (Int×Int) Int (fun x=>⟨[(0,P0 0 0),(3,.dat T2 x.1),(4,.dat T2 x.2)],[(0,.cells [(.osl 1)]),(1,.arr 44 T0 w_L)],2⟩) (fun z=>[(2,⟨[(3,.dat T2 z)],[(0,.cells [(.osl 1)]),(1,.arr 44 T0 w_L)],2⟩)]) (loopF (fun go x=>f17_l1 w_L go x.1 x.2)) fuelN ((0:Int),(0:Int)) z1 (AI hz1 (AI (E4 I2 (R3 (AJ (R2 TV)))) (AI (fun _ _ h=>lZ h) (AI (fun m=>curI (fun n=>fun i z q=>?_)) ?_))))
 ·have q : f17_l1 w_L (loopF (fun go x=>f17_l1 w_L go x.1 x.2) m) n i = some z := q
  unfold f17_l1 at q
  refine OL (OL (cI q (fun q=>?_) (fun q=>?_)))
  ·refine OL (gI q (fun q=>?_))
   refine EI ((i64.wrap (n + (List.length ((((((rd (Ty.z T0) w_L i).2).2).2).2).2):Int))),(i64.wrap (i + (1:Int)))) (AI q (E4 I2 (R3 (AJ (R2 TV)))))
  cases sE q
  refine E4 I2 (R2 (AI TV (R2 TV)))
 refine AI (OL ?_) TV
 cases sE q
 refine AI rfl (E4 I2 (R2 (AI TV (R2 TV))))
theorem C17_holds : HP C17 17 := hH Tryz.f17 (by kernel_rfl) rfl (fun x y q=>C17_vc x y q)
theorem f17_in : InP 17 := inP (by kernel_rfl)
def f6_j10 (l : NL) (i:Int) (l2 : NL) (l3 : NL) : Option (Int×Int×Int×Int×NL×NL) :=
 bif (((rd (Ty.z T0) l i).1) == (1:Int)) then
 bindF (f12 l2 ((((((rd (Ty.z T0) l i).2).2).2).2).1,(((((rd (Ty.z T0) l i).2).2).2).2).2)) fun r34 =>
 bindF (f15 l3 ((((((rd (Ty.z T0) l i).2).2).2).2).1,(((((rd (Ty.z T0) l i).2).2).2).2).2)) fun r35 =>
 some (r34.1,r34.2.1,r35.1,r35.2.1,r34.2.2,r35.2.2)
 else
 bindF (f14 l2 ((rd (Ty.z T0) l i).1) (((rd (Ty.z T0) l i).2).1) ((((rd (Ty.z T0) l i).2).2).1) (((((rd (Ty.z T0) l i).2).2).2).1)) fun r36 =>
 bindF (f16 l3 ((rd (Ty.z T0) l i).1) (((rd (Ty.z T0) l i).2).1) ((((rd (Ty.z T0) l i).2).2).1) (((((rd (Ty.z T0) l i).2).2).2).1)) fun r37 =>
 some (r36.1,r36.2.1,r37.1,r37.2.1,r36.2.2,r37.2.2)
def f6_j13 (z33 : Int×Int×Int×Int×NL×NL) : Option Bool :=
 bif (z33.1 != z33.2.2.1) then
 some true
 else
 some (z33.2.1 != z33.2.2.2.1)
def f6_j12 (z33 : Int×Int×Int×Int×NL×NL) : Option (Sum Unit Unit) :=
 bindF (f6_j13 z33) fun z40 =>
 bif z40 then
 some (Sum.inr ())
 else
 some (Sum.inl ())
def f6_l9 (l : NL) (go : (Int×NL×NL) → Option (Sum Unit (NL×NL))) (i:Int) (l2 : NL) (l3 : NL) : Option (Sum Unit (NL×NL)) :=
 bif (decide (i < (List.length l:Int))) then
 guardF (0 ≤ i ∧ i < (List.length l:Int)) <|
 bindF (f6_j10 l i l2 l3) fun z33 =>
 bindF (f6_j12 z33) fun z39 =>
 sumF z39 (fun z39a =>
 bindF (f17 z33.2.2.2.2.2) fun r41 =>
 bif (decide (r41.1 > (4000:Int))) then
 some (Sum.inr (z33.2.2.2.2.1,r41.2))
 else
 go ((i64.wrap (i + (1:Int))),z33.2.2.2.2.1,r41.2)) (fun z39b =>
 some (Sum.inl ()))
 else
 some (Sum.inr (l2,l3))
def f6 (l : NL) : Option (Sum Unit (NL×NL)) :=
 bindF (f11) fun r1 =>
 bindF (loopF (fun go x=>f6_l9 l go x.1 x.2.1 x.2.2) fuelN ((0:Int),[],[])) fun z28 =>
 sumF z28 (fun z28a =>
 some (Sum.inl ())) (fun z28b =>
 some (Sum.inr (z28b.1,z28b.2)))
def C6 : Con where
 X := NL
 Y := Sum Unit (NL×NL)
 e := 0
 args x := [.dat T6 x]
 hin x := []
 F x := f6 x
 ret y := Sum.elim (fun y=>[.raw false [(.c (.pointer none))],.raw false [(.c (.pointer none))],.dat .bool false]) (fun y=>[P0 0 0,P0 1 0,.dat .bool true]) y
 hout y := Sum.elim (fun y=>[]) (fun y=>[(0,.cells [(.osl 2)]),(1,.cells [(.osl 3)]),(2,.arr 39 T0 y.1),(3,.arr 44 T0 y.2)]) y
 nout := 4
theorem C6_vc (l : NL) (y : Sum Unit (NL×NL)) (q : f6 l = some y) : VC Tryz.f6 C6 l y := by
 unfold f6 at q
 refine OL (OL ?_)
 obtain ⟨r1,hr1,q⟩ := bE q
 refine OL (AI f11_in (cV (cQ C11 () r1 [] false C11_holds hr1 rfl rfl (K0 (OL (OL ?_))))))
 obtain ⟨z28,hz28,q⟩ := bE q
 refine lI (Int×NL×NL) (Sum Unit (NL×NL)) (fun x=>⟨[(0,.dat T6 l),(5,P0 0 0),(6,P0 1 0),(7,.dat T2 x.1)],[(0,.cells [(.osl 2)]),(1,.cells [(.osl 3)]),(2,.arr 39 T0 x.2.1),(3,.arr 44 T0 x.2.2)],4⟩) (fun z=>Sum.elim (fun za=>[(1,⟨[(2,.raw false [(.c (.pointer none))]),(3,.raw false [(.c (.pointer none))]),(4,.dat .bool false)],[],0⟩)]) (fun zb=>[(2,⟨[(5,P0 0 0),(6,P0 1 0)],[(0,.cells [(.osl 2)]),(1,.cells [(.osl 3)]),(2,.arr 39 T0 zb.1),(3,.arr 44 T0 zb.2)],4⟩)]) z) (loopF (fun go x=>f6_l9 l go x.1 x.2.1 x.2.2)) fuelN ((0:Int),[],[]) z28 (AI hz28 (AI (E4 [(0,some 0),(1,some 2),(2,some 1),(3,none)] (R3 (AI (R2 TV) (R4 TV)))) (AI (fun _ _ h=>lZ h) (AI (fun m=>curI (fun i=>curI (fun l2=>fun l3 z q=>?_))) ?_))))
 ·have q : f6_l9 l (loopF (fun go x=>f6_l9 l go x.1 x.2.1 x.2.2) m) i l2 l3 = some z := q
  unfold f6_l9 at q
  refine OL (OL (cI q (fun q=>?_) (fun q=>?_)))
  ·refine OL (OL (gI q (fun q=>?_)))
   refine OL (OL (OL ?_))
   obtain ⟨z33,hz33,q⟩ := bE q
   refine OQ ⟨[(0,⟨[(0,.dat T6 l),(5,P0 0 0),(6,P0 1 0),(7,.dat T2 i),(9,.dat T2 z33.1),(10,.dat T2 z33.2.1),(11,.dat T2 z33.2.2.1),(12,.dat T2 z33.2.2.2.1)],[(0,.cells [(.osl 2)]),(1,.cells [(.osl 3)]),(2,.arr 39 T0 z33.2.2.2.2.1),(3,.arr 44 T0 z33.2.2.2.2.2)],4⟩)],?_,?_⟩
   ·have q := hz33
    clear hz33
    unfold f6_j10 at q
    refine OL (cI q (fun q=>?_) (fun q=>?_))
    ·refine OL ?_
     obtain ⟨r34,hr34,q⟩ := bE q
     refine OL (AI f12_in (cV (cQ C12 (l2,((((((rd (Ty.z T0) l i).2).2).2).2).1,(((((rd (Ty.z T0) l i).2).2).2).2).2)) r34 [(0,some 0),(1,some 2)] false C12_holds hr34 rfl rfl (R2 (AI NH (R2 (AJ (AI (R2 TV) ?_))))))))
     obtain ⟨r35,hr35,q⟩ := bE q
     refine OL (AI f15_in (cV (cQ C15 (l3,((((((rd (Ty.z T0) l i).2).2).2).2).1,(((((rd (Ty.z T0) l i).2).2).2).2).2)) r35 [(0,some 1),(1,some 3)] false C15_holds hr35 rfl rfl (R2 (AI NH (R2 (AJ (AI (R2 TV) ?_))))))))
     cases sE q
     refine E4 [(0,some 0),(1,some 1),(2,some 7),(3,some 10)] (R7 (AI (R2 TV) (R4 TV)))
    refine OL ?_
    obtain ⟨r36,hr36,q⟩ := bE q
    refine OL (AI f14_in (cV (cQ C14 (l2,(rd (Ty.z T0) l i).1,((rd (Ty.z T0) l i).2).1,(((rd (Ty.z T0) l i).2).2).1,((((rd (Ty.z T0) l i).2).2).2).1) r36 [(0,some 0),(1,some 2)] false C14_holds hr36 rfl rfl (R4 (AI NH (R2 (AJ (AI (R2 TV) ?_))))))))
    obtain ⟨r37,hr37,q⟩ := bE q
    refine OL (AI f16_in (cV (cQ C16 (l3,(rd (Ty.z T0) l i).1,((rd (Ty.z T0) l i).2).1,(((rd (Ty.z T0) l i).2).2).1,((((rd (Ty.z T0) l i).2).2).2).1) r37 [(0,some 1),(1,some 3)] false C16_holds hr37 rfl rfl (R4 (AI NH (R2 (AJ (AI (R2 TV) ?_))))))))
    cases sE q
    refine E4 [(0,some 0),(1,some 1),(2,some 7),(3,some 10)] (R7 (AI (R2 TV) (R4 TV)))
   refine AI ?_ TV
   obtain ⟨z39,hz39,q⟩ := bE q
   refine OQ ⟨Sum.elim (fun z39a=>[(0,⟨[(0,.dat T6 l),(5,P0 0 0),(6,P0 1 0),(7,.dat T2 i)],[(0,.cells [(.osl 2)]),(1,.cells [(.osl 3)]),(2,.arr 39 T0 z33.2.2.2.2.1),(3,.arr 44 T0 z33.2.2.2.2.2)],4⟩)]) (fun z39b=>[(1,⟨[(2,.raw false [(.c (.pointer none))]),(3,.raw false [(.c (.pointer none))]),(4,.dat .bool false)],[],0⟩)]) z39,?_,?_⟩
   ·have q := hz39
    clear hz39
    unfold f6_j12 at q
    obtain ⟨z40,hz40,q⟩ := bE q
    refine OQ ⟨[(0,⟨[(0,.dat T6 l),(5,P0 0 0),(6,P0 1 0),(7,.dat T2 i),(76,.dat .bool z40)],[(0,.cells [(.osl 2)]),(1,.cells [(.osl 3)]),(2,.arr 39 T0 z33.2.2.2.2.1),(3,.arr 44 T0 z33.2.2.2.2.2)],4⟩)],?_,?_⟩
    ·have q := hz40
     clear hz40
     unfold f6_j13 at q
     refine cN q (fun q=>?_) (fun q=>?_)
     ·refine gY (gY (cF ?_))
      cases sE q
      refine E4 I4 (R4 (AI (R2 TV) (R4 TV)))
     refine gN (gN (cT ?_))
     cases sE q
     refine E4 I4 (R4 (AI (R2 TV) (R4 TV)))
    refine AI (cI q (fun q=>?_) (fun q=>?_)) TV
    ·cases sE q
     refine OL (E4 [] (R2 (AI (R2 TV) TV)))
    cases sE q
    refine E4 I4 (R3 (AI (R2 TV) (R4 TV)))
   rcases z39 with z39a | z39b
   ·dsimp only [sumF] at q
    refine AI (OL ?_) TV
    obtain ⟨r41,hr41,q⟩ := bE q
    refine OL (AI f17_in (cV (cQ C17 z33.2.2.2.2.2 r41 [(0,some 1),(1,some 3)] false C17_holds hr41 rfl rfl (AI NH (R2 (AJ (AI (R2 TV) (cI q (fun q=>?_) (fun q=>?_)))))))))
    ·cases sE q
     refine E4 I4 (AI rfl (AI (R2 TV) (R4 TV)))
    refine EI ((i64.wrap (i + (1:Int))),z33.2.2.2.2.1,r41.2) (AI q (E4 I4 (R3 (AI (R2 TV) (R4 TV)))))
   dsimp only [sumF] at q
   refine AI ?_ TV
   cases sE q
   refine E4 [] (R2 (AI (R2 TV) TV))
  cases sE q
  refine E4 I4 (AI rfl (AI (R2 TV) (R4 TV)))
 rcases z28 with z28a | z28b
 ·dsimp only [sumF] at q
  refine AI ?_ TV
  cases sE q
  refine AI rfl (E4 [] (R2 (AI (R2 TV) TV)))
 dsimp only [sumF] at q
 refine AI (OL ?_) TV
 cases sE q
 refine AI rfl (E4 I4 (R2 (AI (R2 TV) (R4 TV))))
theorem C6_holds : HP C6 6 := hH Tryz.f6 (by kernel_rfl) rfl (fun x y q=>C6_vc x y q)
theorem f6_in : InP 6 := inP (by kernel_rfl)
def f3_j1 : Option Unit :=
 some ()
def f3_j2 (r3b : NL×NL) : Option (Sum NL Unit) :=
 bindF (f7 r3b.1) fun q6_4 =>
 bif (q6_4.1 != (List.length r3b.2:Int)) then
 some (Sum.inr ())
 else
 some (Sum.inl q6_4.2)
def f3_l3 (r3b : NL×NL) (go : (Int×NL) → Option (Sum Unit NL)) (i:Int) (l2 : NL) : Option (Sum Unit NL) :=
 bif (decide (i < (List.length r3b.2:Int))) then
 bindF (f8 l2 i) fun r15 =>
 bindF (f9 r15.2.2.2.2.2.2.2 i) fun r16 =>
 guardF (0 ≤ i ∧ i < (List.length r3b.2:Int)) <|
 bif (!r15.2.2.2.2.1) then
 some (Sum.inl ())
 else
 bif (!r16.1) then
 some (Sum.inl ())
 else
 bif (r15.1 != ((rd (Ty.z T0) r3b.2 i).1)) then
 some (Sum.inl ())
 else
 bif (r15.2.1 != (((rd (Ty.z T0) r3b.2 i).2).1)) then
 some (Sum.inl ())
 else
 bif (r15.2.2.1 != ((((rd (Ty.z T0) r3b.2 i).2).2).1)) then
 some (Sum.inl ())
 else
 bif (r15.2.2.2.1 != (((((rd (Ty.z T0) r3b.2 i).2).2).2).1)) then
 some (Sum.inl ())
 else
 bindF (f10 (r15.2.2.2.2.2.1,r15.2.2.2.2.2.2.1) ((((((rd (Ty.z T0) r3b.2 i).2).2).2).2).1,(((((rd (Ty.z T0) r3b.2 i).2).2).2).2).2)) fun r17 =>
 bif (!r17) then
 some (Sum.inl ())
 else
 bindF (f10 (r16.2.1,r16.2.2.1) ((((((rd (Ty.z T0) r3b.2 i).2).2).2).2).1,(((((rd (Ty.z T0) r3b.2 i).2).2).2).2).2)) fun r18 =>
 bif (!r18) then
 some (Sum.inl ())
 else
 go ((i64.wrap (i + (1:Int))),r16.2.2.2)
 else
 some (Sum.inr l2)
def f3 (l : NL) : Option Bool :=
 bindF (f4) fun r1 =>
 bif (!r1) then
 some false
 else
 bindF (f5 l (40:Int)) fun r2 =>
 bif (!r2) then
 some true
 else
 bindF (f6 l) fun r3 =>
 sumF r3 (fun r3a =>
 bindF (f3_j1) fun z4 =>
 some false) (fun r3b =>
 bindF (f3_j2 r3b) fun z5 =>
 sumF z5 (fun z5a =>
 bindF (loopF (fun go x=>f3_l3 r3b go x.1 x.2) fuelN ((0:Int),z5a)) fun z14 =>
 sumF z14 (fun z14a =>
 some false) (fun z14b =>
 bindF (f8 z14b (List.length r3b.2:Int)) fun r19 =>
 some (!r19.2.2.2.2.1))) (fun z5b =>
 some false))
def C3 : Con where
 X := NL
 Y := Bool
 e := 0
 args x := [.dat T6 x]
 hin x := []
 F x := f3 x
 ret y := [.dat .bool y]
 hout y := []
 nout := 0
theorem C3_vc (l : NL) (y : Bool) (q : f3 l = some y) : VC Tryz.f3 C3 l y := by
 unfold f3 at q
 refine OL (OL (OL ?_))
 obtain ⟨r1,hr1,q⟩ := bE q
 refine OL (AI f4_in (cV (cQ C4 () r1 [] false C4_holds hr1 rfl rfl (K0 (cI q (fun q=>?_) (fun q=>?_))))))
 ·cases sE q
  refine OL (AI rfl (E4 [] (R2 (AI TV TV))))
 refine OL (OL ?_)
 obtain ⟨r2,hr2,q⟩ := bE q
 refine OL (AI f5_in (cV (cQ C5 (l,(40:Int)) r2 [] false C5_holds hr2 rfl rfl (R2 (K0 (cI q (fun q=>?_) (fun q=>?_)))))))
 ·cases sE q
  refine OL (AI rfl (E4 [] (R2 (AI TV TV))))
 refine OL ?_
 obtain ⟨r3,hr3,q⟩ := bE q
 rcases r3 with r3a | r3b
 ·dsimp only [sumF] at q
  refine OL (AI f6_in (cV (cQ C6 l (Sum.inl r3a) [] false C6_holds hr3 rfl rfl (AI rfl (K0 ?_)))))
  obtain ⟨z4,hz4,q⟩ := bE q
  refine OQ ⟨[(1,⟨[(2,.dat .bool false)],[],0⟩)],?_,?_⟩
  ·have q := hz4
   clear hz4
   unfold f3_j1 at q
   refine OL (EI (.take 0 (.take 1 (.take 2 (.take 3 (.take 5 (.take 6 (.take 7 (.take 8 (.take 9 (.alt 4 (.take 10 (.take 11 .done)) .done)))))))))) (EI [] (EI [] (AI rfl (gN (gN (gN (gN (gN (gN (AI TV (gN (gN (cT (cT (OL ?_))))))))))))))))
   cases sE q
   refine E4 [] (R2 (AI TV TV))
  refine AI ?_ TV
  cases sE q
  refine AI rfl (E4 [] (R2 (AI TV TV)))
 dsimp only [sumF] at q
 refine OL (AI f6_in (cV (cQ C6 l (Sum.inr r3b) [] false C6_holds hr3 rfl rfl (AI rfl (K0 ?_)))))
 obtain ⟨z5,hz5,q⟩ := bE q
 refine OQ ⟨Sum.elim (fun z5a=>[(0,⟨[(3,P0 0 0),(4,P0 1 0)],[(0,.cells [(.osl 2)]),(1,.cells [(.osl 3)]),(2,.arr 39 T0 z5a),(3,.arr 44 T0 r3b.2)],4⟩)]) (fun z5b=>[(1,⟨[(2,.dat .bool false)],[],0⟩)]) z5,?_,?_⟩
 ·have q := hz5
  clear hz5
  unfold f3_j2 at q
  refine OL (EI (.take 0 (.take 1 (.take 2 (.take 3 (.take 5 (.take 6 (.take 7 (.take 8 (.take 9 (.alt 4 (.take 10 (.take 11 .done)) .done)))))))))) (EI [] (EI [] (AI rfl (gY (gY (gY (gY (gY (gY (AI TV (gY ?_))))))))))))
  obtain ⟨q6_4,hq6_4,q⟩ := bE q
  refine OL (AI f7_in (cV (cQ C7 r3b.1 q6_4 [(0,some 0),(1,some 2)] false C7_holds hq6_4 rfl rfl (AI NH (R2 (AJ (AI (R2 TV) (gY (cF (cI q (fun q=>?_) (fun q=>?_)))))))))))
  ·cases sE q
   refine OL (E4 [] (R2 (AI TV TV)))
  cases sE q
  refine E4 I4 (AI rfl (AI (R2 TV) (R4 TV)))
 rcases z5 with z5a | z5b
 ·dsimp only [sumF] at q
  refine AI (OL (OL ?_)) TV
  obtain ⟨z14,hz14,q⟩ := bE q
  refine lI (Int×NL) (Sum Unit NL) (fun x=>⟨[(3,P0 0 0),(4,P0 1 0),(6,.dat T2 x.1)],[(0,.cells [(.osl 2)]),(1,.cells [(.osl 3)]),(2,.arr 39 T0 x.2),(3,.arr 44 T0 r3b.2)],4⟩) (fun z=>Sum.elim (fun za=>[(1,⟨[(2,.dat .bool false)],[],0⟩)]) (fun zb=>[(2,⟨[(3,P0 0 0),(4,P0 1 0)],[(0,.cells [(.osl 2)]),(1,.cells [(.osl 3)]),(2,.arr 39 T0 zb),(3,.arr 44 T0 r3b.2)],4⟩)]) z) (loopF (fun go x=>f3_l3 r3b go x.1 x.2)) fuelN ((0:Int),z5a) z14 (AI hz14 (AI (E4 I4 (R2 (AI (R2 TV) (R4 TV)))) (AI (fun _ _ h=>lZ h) (AI (fun m=>curI (fun i=>fun l2 z q=>?_)) ?_))))
  ·have q : f3_l3 r3b (loopF (fun go x=>f3_l3 r3b go x.1 x.2) m) i l2 = some z := q
   unfold f3_l3 at q
   refine OL (OL (cI q (fun q=>?_) (fun q=>?_)))
   ·refine OL (OL ?_)
    obtain ⟨r15,hr15,q⟩ := bE q
    refine OL (AI f8_in (cV (cQ C8 (l2,i) r15 [(0,some 0),(1,some 2)] false C8_holds hr15 rfl rfl (AI rfl (AI NH (R2 (AJ (AI (R2 TV) (OL (OL ?_))))))))))
    obtain ⟨r16,hr16,q⟩ := bE q
    refine OL (AI f9_in (cV (cQ C9 (r15.2.2.2.2.2.2.2,i) r16 [(0,some 0),(1,some 2)] false C9_holds hr16 rfl rfl (AI rfl (AI NH (R2 (AJ (AI (R2 TV) (OL (OL (gI q (fun q=>?_))))))))))))
    refine OL (OL (cN q (fun q=>?_) (fun q=>?_)))
    ·refine gY (cF (cN q (fun q=>?_) (fun q=>?_)))
     ·refine gY (gY (gY (gY (cF (cN q (fun q=>?_) (fun q=>?_))))))
      ·refine gY (gY (gY (gY (cF (cN q (fun q=>?_) (fun q=>?_))))))
       ·refine gY (gY (gY (gY (cF (cN q (fun q=>?_) (fun q=>?_))))))
        ·refine gY (gY (gY (gY (cF (cN q (fun q=>?_) (fun q=>?_))))))
         ·refine gY (gY (gY (gY ?_)))
          obtain ⟨r17,hr17,q⟩ := bE q
          refine OL (AI f10_in (cV (cQ C10 ((r15.2.2.2.2.2.1,r15.2.2.2.2.2.2.1),((((((rd (Ty.z T0) r3b.2 i).2).2).2).2).1,(((((rd (Ty.z T0) r3b.2 i).2).2).2).2).2)) r17 [] true C10_holds hr17 rfl rfl (R4 (AI (fun _=>rfl) (R2 (AI TV (AI TV (gY (cF (cN q (fun q=>?_) (fun q=>?_))))))))))))
          ·refine gY (gY (gY ?_))
           obtain ⟨r18,hr18,q⟩ := bE q
           refine OL (AI f10_in (cV (cQ C10 ((r16.2.1,r16.2.2.1),((((((rd (Ty.z T0) r3b.2 i).2).2).2).2).1,(((((rd (Ty.z T0) r3b.2 i).2).2).2).2).2)) r18 [] true C10_holds hr18 rfl rfl (R4 (AI (fun _=>rfl) (R2 (AI TV (AI TV (gY (cF (cI q (fun q=>?_) (fun q=>?_))))))))))))
           ·cases sE q
            refine OL (E4 [] (R2 (AI TV TV)))
           refine EI ((i64.wrap (i + (1:Int))),r16.2.2.2) (AI q (E4 I4 (R2 (AI (R2 TV) (R4 TV)))))
          refine gN (gN (gN (gN (cT (cT (OL ?_))))))
          cases sE q
          refine E4 [] (R2 (AI TV TV))
         refine gN (gN (gN (gN (gN (cT (gN (gN (gN (gN (gN (cT (cT (OL ?_)))))))))))))
         cases sE q
         refine E4 [] (R2 (AI TV TV))
        refine gN (gN (gN (gN (cT (gN (gN (gN (gN (gN (gN (cT (gN (gN (gN (gN (gN (cT (cT (OL ?_)))))))))))))))))))
        cases sE q
        refine E4 [] (R2 (AI TV TV))
       refine gN (gN (gN (gN (cT (gN (gN (gN (gN (gN (cT (gN (gN (gN (gN (gN (gN (cT (gN (gN (gN (gN (gN (cT (cT (OL ?_)))))))))))))))))))))))))
       cases sE q
       refine E4 [] (R2 (AI TV TV))
      refine gN (gN (gN (gN (cT (gN (gN (gN (gN (gN (cT (gN (gN (gN (gN (gN (cT (gN (gN (gN (gN (gN (gN (cT (gN (gN (gN (gN (gN (cT (cT (OL ?_)))))))))))))))))))))))))))))))
      cases sE q
      refine E4 [] (R2 (AI TV TV))
     refine gN (gN (gN (gN (cT (gN (gN (gN (gN (gN (cT (gN (gN (gN (gN (gN (cT (gN (gN (gN (gN (gN (cT (gN (gN (gN (gN (gN (gN (cT (gN (gN (gN (gN (gN (cT (cT (OL ?_)))))))))))))))))))))))))))))))))))))
     cases sE q
     refine E4 [] (R2 (AI TV TV))
    refine gN (cT (gN (gN (gN (gN (gN (cT (gN (gN (gN (gN (gN (cT (gN (gN (gN (gN (gN (cT (gN (gN (gN (gN (gN (cT (gN (gN (gN (gN (gN (gN (cT (gN (gN (gN (gN (gN (cT (cT (OL ?_))))))))))))))))))))))))))))))))))))))))
    cases sE q
    refine E4 [] (R2 (AI TV TV))
   cases sE q
   refine E4 I4 (AI rfl (AI (R2 TV) (R4 TV)))
  rcases z14 with z14a | z14b
  ·dsimp only [sumF] at q
   refine AI ?_ TV
   cases sE q
   refine AI rfl (E4 [] (R2 (AI TV TV)))
  dsimp only [sumF] at q
  refine AI (OL ?_) TV
  obtain ⟨r19,hr19,q⟩ := bE q
  refine OL (AI f8_in (cV (cQ C8 (z14b,(List.length r3b.2:Int)) r19 [(0,some 0),(1,some 2)] false C8_holds hr19 rfl rfl (AI rfl (AI NH (R2 (AJ (AI (R2 TV) (OL (OL ?_))))))))))
  cases sE q
  refine AI rfl (E4 [] (R2 (AI TV TV)))
 dsimp only [sumF] at q
 refine AI ?_ TV
 cases sE q
 refine AI rfl (E4 [] (R2 (AI TV TV)))
theorem C3_holds : HP C3 3 := hH Tryz.f3 (by kernel_rfl) rfl (fun x y q=>C3_vc x y q)
theorem f3_in : InP 3 := inP (by kernel_rfl)
end Go.Proofs
