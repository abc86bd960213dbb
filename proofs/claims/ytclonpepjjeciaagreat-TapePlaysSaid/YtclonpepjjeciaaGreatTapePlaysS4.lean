import Derived.Test.YtclonpepjjeciaaGreatTapePlaysS3
set_option linter.unusedVariables false
set_option maxRecDepth 100000
set_option maxHeartbeats 8000000
namespace Go.Proofs
open Go.AM
open IntKind (i64 u64 i32 u32 i16 u16 i8 u8)
def f51_j3 (a : LI×LI) (b : LI×LI) : Option Bool :=
 bindF (f27 (a.1,a.2)) fun r9 =>
 bif (!r9) then
 some true
 else
 bindF (f27 (b.1,b.2)) fun r10 =>
 some (!r10)
def f51_j2 (a : LI×LI) (b : LI×LI) : Option (Sum Unit Unit) :=
 bindF (f51_j3 a b) fun z8 =>
 bif z8 then
 some (Sum.inr ())
 else
 some (Sum.inl ())
def f51_l4 (op:Int) (a : LI×LI) (b : LI×LI) (r11 : Int×LI) (go : (Int×LI) → Option LI) (i:Int) (l6 : LI) : Option LI :=
 bif (decide (i < (List.length l6:Int))) then
 bindF (f88 a.1 r11.2 i) fun r18 =>
 bindF (f88 b.1 r11.2 i) fun r19 =>
 bif (op == (0:Int)) then
 guardF (0 ≤ r18.1 ∧ r18.1 < (List.length a.2:Int)) <|
 guardF (0 ≤ r19.1 ∧ r19.1 < (List.length b.2:Int)) <|
 bindF (f89 (rd (0:Int) a.2 r18.1) (rd (0:Int) b.2 r19.1)) fun q15_13 =>
 guardF (0 ≤ i ∧ i < (List.length l6:Int)) <|
 go ((i64.wrap (i + (1:Int))),(List.set l6 (Int.toNat i) q15_13))
 else
 bif (op == (1:Int)) then
 guardF (0 ≤ r18.1 ∧ r18.1 < (List.length a.2:Int)) <|
 guardF (0 ≤ r19.1 ∧ r19.1 < (List.length b.2:Int)) <|
 bindF (f90 (rd (0:Int) a.2 r18.1) (rd (0:Int) b.2 r19.1)) fun q17_13 =>
 guardF (0 ≤ i ∧ i < (List.length l6:Int)) <|
 go ((i64.wrap (i + (1:Int))),(List.set l6 (Int.toNat i) q17_13))
 else
 guardF (0 ≤ r18.1 ∧ r18.1 < (List.length a.2:Int)) <|
 guardF (0 ≤ r19.1 ∧ r19.1 < (List.length b.2:Int)) <|
 bindF (f91 (rd (0:Int) a.2 r18.1) (rd (0:Int) b.2 r19.1)) fun q13_13 =>
 guardF (0 ≤ i ∧ i < (List.length l6:Int)) <|
 go ((i64.wrap (i + (1:Int))),(List.set l6 (Int.toNat i) q13_13))
 else
 some l6
def f51 (op:Int) (a : LI×LI) (b : LI×LI) : Option (Int×LI×LI) :=
 bindF (f51_j2 a b) fun z5 =>
 sumF z5 (fun z5a =>
 bindF (f86 a.1 b.1) fun r11 =>
 bif (r11.1 != (0:Int)) then
 some (r11.1,[],[])
 else
 bindF (f87 r11.2 (0:Int)) fun r12 =>
 bindF (loopF (fun go x=>f51_l4 op a b r11 go x.1 x.2) fuelN ((0:Int),r12.2)) fun z17 =>
 some ((0:Int),r12.1,z17)) (fun z5b =>
 some ((1:Int),[],[]))
def C51 : Con where
 X := Int×(LI×LI)×(LI×LI)
 Y := Int×LI×LI
 e := 0
 args x := [.dat T2 x.1,.dat T3 x.2.1,.dat T3 x.2.2]
 hin x := []
 F x := f51 x.1 x.2.1 x.2.2
 ret y := [.raw true [(.osl 0),(.osl 1)],.dat T2 y.1]
 hout y := [(0,.arr 3 T2 y.2.1),(1,.arr 33 T2 y.2.2)]
 nout := 2
theorem C51_vc (op:Int) (a : LI×LI) (b : LI×LI) (y : Int×LI×LI) (q : f51 op a b = some y) : VC Tryz.f51 C51 (op,a,b) y := by
 unfold f51 at q
 refine OL ?_
 obtain ⟨z5,hz5,q⟩ := bE q
 refine OQ ⟨Sum.elim (fun z5a=>[(0,⟨[(0,.dat T2 op),(4,P0 0 0),(5,P0 1 0),(6,P0 2 0)],[(0,.cells [(.d T1 a.1),(.d T1 a.2)]),(1,.cells [(.d T1 b.1),(.d T1 b.2)]),(2,.cells [N0,N0])],3⟩)]) (fun z5b=>[(1,⟨[(6,P0 0 0),(7,D0 1)],[(0,.cells [N0,N0])],1⟩)]) z5,?_,?_⟩
 ·have q := hz5
  clear hz5
  unfold f51_j2 at q
  obtain ⟨z8,hz8,q⟩ := bE q
  refine OQ ⟨[(0,⟨[(0,.dat T2 op),(4,P0 0 0),(5,P0 1 0),(6,P0 2 0),(23,.dat .bool z8)],[(0,.cells [(.d T1 a.1),(.d T1 a.2)]),(1,.cells [(.d T1 b.1),(.d T1 b.2)]),(2,.cells [N0,N0])],3⟩)],?_,?_⟩
  ·have q := hz8
   clear hz8
   unfold f51_j3 at q
   obtain ⟨r9,hr9,q⟩ := bE q
   refine OL (AI f27_in (cV (cQ C27 (a.1,a.2) r9 [] false C27_holds hr9 rfl rfl (R2 (K0 (cN q (fun q=>?_) (fun q=>?_)))))))
   ·refine gY ?_
    obtain ⟨r10,hr10,q⟩ := bE q
    refine OL (AI f27_in (cV (cQ C27 (b.1,b.2) r10 [] false C27_holds hr10 rfl rfl (R2 (K0 (gY (cF ?_)))))))
    cases sE q
    refine E4 I3 (R3 (AI (R3 TV) (R3 TV)))
   refine gN (gN (cT ?_))
   cases sE q
   refine E4 I3 (R3 (AI (R3 TV) (R3 TV)))
  refine AI (cI q (fun q=>?_) (fun q=>?_)) TV
  ·refine OL (OL ?_)
   cases sE q
   refine E4 [(0,some 2)] (R2 (AJ (AI rfl TV)))
  cases sE q
  refine E4 I3 (R2 (AI (R3 TV) (R3 TV)))
 rcases z5 with z5a | z5b
 ·dsimp only [sumF] at q
  refine AI (OL ?_) TV
  obtain ⟨r11,hr11,q⟩ := bE q
  refine OL (AI f86_in (cV (cQ C86 (a.1,b.1) r11 [] false C86_holds hr11 rfl rfl (R2 (K0 (OL (OL (cI q (fun q=>?_) (fun q=>?_)))))))))
  ·refine OL (OL ?_)
   cases sE q
   refine AI rfl (E4 [(0,none),(1,none)] (R2 (AJ (R2 TV))))
  refine OL ?_
  obtain ⟨r12,hr12,q⟩ := bE q
  refine OL (AI f87_in (cV (cQ C87 (r11.2,(0:Int)) r12 [] true C87_holds hr12 rfl rfl (R2 (AI (fun _=>rfl) (R2 (AI TV (AI TV (OL (OL (OL ?_)))))))))))
  obtain ⟨z17,hz17,q⟩ := bE q
  refine lI (Int×LI) LI (fun x=>⟨[(0,.dat T2 op),(4,P0 0 0),(5,P0 1 0),(6,P0 2 0),(8,O0 3),(10,P0 4 0),(11,.dat T2 x.1)],[(0,.cells [(.d T1 a.1),(.d T1 a.2)]),(1,.cells [(.d T1 b.1),(.d T1 b.2)]),(2,.cells [N0,N0]),(3,.arr 3 T2 r11.2),(4,.cells [(.osl 5),(.osl 6)]),(5,.arr 3 T2 r12.1),(6,.arr 33 T2 x.2)],7⟩) (fun z=>[(2,⟨[(6,P0 0 0),(10,P0 1 0)],[(0,.cells [N0,N0]),(1,.cells [(.osl 2),(.osl 3)]),(2,.arr 3 T2 r12.1),(3,.arr 33 T2 z)],4⟩)]) (loopF (fun go x=>f51_l4 op a b r11 go x.1 x.2)) fuelN ((0:Int),r12.2) z17 (AI hz17 (AI (E4 [(0,some 0),(1,some 1),(2,some 2),(3,some 3),(4,some 6),(5,some 4),(6,some 5)] (R3 (AI (R5 TV) (R7 TV)))) (AI (fun _ _ h=>lZ h) (AI (fun m=>curI (fun i=>fun l6 z q=>?_)) ?_))))
  ·have q : f51_l4 op a b r11 (loopF (fun go x=>f51_l4 op a b r11 go x.1 x.2) m) i l6 = some z := q
   unfold f51_l4 at q
   refine OL (OL (cI q (fun q=>?_) (fun q=>?_)))
   ·refine OL (OL ?_)
    obtain ⟨r18,hr18,q⟩ := bE q
    refine OL (AI f88_in (cV (cQ C88 (a.1,r11.2,i) r18 [] true C88_holds hr18 rfl rfl (R3 (AI (fun _=>rfl) (R2 (AI TV (AI TV (OL ?_)))))))))
    obtain ⟨r19,hr19,q⟩ := bE q
    refine OL (AI f88_in (cV (cQ C88 (b.1,r11.2,i) r19 [] true C88_holds hr19 rfl rfl (R3 (AI (fun _=>rfl) (R2 (AI TV (AI TV (OL (OL (cI q (fun q=>?_) (fun q=>?_))))))))))))
    ·refine EI (.take 0 (.take 1 (.take 2 (.take 3 (.take 4 (.take 5 (.take 6 (.take 7 (.take 8 (.take 9 (.take 10 (.take 11 (.take 12 (.alt 13 (.take 14 (.alt 15 .done .done)) .done)))))))))))))) (EI [] (EI [] (AI rfl (gI q (fun q=>?_)))))
     refine gI q (fun q=>?_)
     refine AI TV ?_
     obtain ⟨q15_13,hq15_13,q⟩ := bE q
     refine OL (AI f89_in (cV (cQ C89 ((rd (0:Int) a.2 r18.1),(rd (0:Int) b.2 r19.1)) q15_13 [] false C89_holds hq15_13 rfl rfl (R2 (K0 (gI q (fun q=>?_)))))))
     refine AI TV (OL (EI ((i64.wrap (i + (1:Int))),(List.set l6 (Int.toNat i) q15_13)) (AI q (E4 I7 (R3 (AI (R5 TV) (R7 TV)))))))
    refine OL (cI q (fun q=>?_) (fun q=>?_))
    ·refine EI (.take 0 (.take 1 (.take 2 (.take 3 (.take 4 (.take 5 (.take 6 (.take 7 (.take 8 (.take 9 (.take 10 (.take 11 (.take 12 (.alt 13 (.take 14 (.alt 15 .done .done)) .done)))))))))))))) (EI [] (EI [] (AI rfl (gI q (fun q=>?_)))))
     refine gI q (fun q=>?_)
     refine AI TV ?_
     obtain ⟨q17_13,hq17_13,q⟩ := bE q
     refine OL (AI f90_in (cV (cQ C90 ((rd (0:Int) a.2 r18.1),(rd (0:Int) b.2 r19.1)) q17_13 [] false C90_holds hq17_13 rfl rfl (R2 (K0 (gI q (fun q=>?_)))))))
     refine AI TV (OL (EI ((i64.wrap (i + (1:Int))),(List.set l6 (Int.toNat i) q17_13)) (AI q (E4 I7 (R3 (AI (R5 TV) (R7 TV)))))))
    refine EI (.take 0 (.take 1 (.take 2 (.take 3 (.take 4 (.take 5 (.take 6 (.take 7 (.take 8 (.take 9 (.take 10 (.take 11 (.take 12 (.alt 13 (.take 14 (.alt 15 .done .done)) .done)))))))))))))) (EI [] (EI [] (AI rfl (gI q (fun q=>?_)))))
    refine gI q (fun q=>?_)
    refine AI TV ?_
    obtain ⟨q13_13,hq13_13,q⟩ := bE q
    refine OL (AI f91_in (cV (cQ C91 ((rd (0:Int) a.2 r18.1),(rd (0:Int) b.2 r19.1)) q13_13 [] false C91_holds hq13_13 rfl rfl (R2 (K0 (gI q (fun q=>?_)))))))
    refine AI TV (OL (EI ((i64.wrap (i + (1:Int))),(List.set l6 (Int.toNat i) q13_13)) (AI q (E4 I7 (R3 (AI (R5 TV) (R7 TV)))))))
   cases sE q
   refine E4 [(0,some 2),(1,some 4),(2,some 5),(3,some 6)] (AI rfl (AI (R2 TV) (R4 TV)))
  refine AI (OL (OL ?_)) TV
  cases sE q
  refine AI rfl (E4 [(0,some 2),(1,some 3)] (R2 (AJ (R2 TV))))
 dsimp only [sumF] at q
 refine AI ?_ TV
 cases sE q
 refine AI rfl (E4 [(0,none),(1,none)] (R2 (AJ (R2 TV))))
theorem C51_holds : HP C51 51 := hH Tryz.f51 (by kernel_rfl) rfl (fun x y q=>C51_vc x.1 x.2.1 x.2.2 y q)
theorem f51_in : InP 51 := inP (by kernel_rfl)
def f52_l1 (a : LI×LI) (k:Int) (go : (Int×LI) → Option LI) (i:Int) (l4 : LI) : Option LI :=
 bif (decide (i < (List.length l4:Int))) then
 guardF (0 ≤ i ∧ i < (List.length a.2:Int)) <|
 bindF (f91 (rd (0:Int) a.2 i) k) fun q7_9 =>
 guardF (0 ≤ i ∧ i < (List.length l4:Int)) <|
 go ((i64.wrap (i + (1:Int))),(List.set l4 (Int.toNat i) q7_9))
 else
 some l4
def f52 (a : LI×LI) (k:Int) : Option (Int×LI×LI) :=
 bindF (f27 (a.1,a.2)) fun q7_11 =>
 bif (!q7_11) then
 some ((1:Int),[],[])
 else
 bindF (f87 a.1 (0:Int)) fun r1 =>
 bindF (loopF (fun go x=>f52_l1 a k go x.1 x.2) fuelN ((0:Int),r1.2)) fun z2 =>
 some ((0:Int),r1.1,z2)
def C52 : Con where
 X := (LI×LI)×Int
 Y := Int×LI×LI
 e := 0
 args x := [.dat T3 x.1,.dat T2 x.2]
 hin x := []
 F x := f52 x.1 x.2
 ret y := [.raw true [(.osl 0),(.osl 1)],.dat T2 y.1]
 hout y := [(0,.arr 3 T2 y.2.1),(1,.arr 33 T2 y.2.2)]
 nout := 2
theorem C52_vc (a : LI×LI) (k:Int) (y : Int×LI×LI) (q : f52 a k = some y) : VC Tryz.f52 C52 (a,k) y := by
 unfold f52 at q
 refine OL (OL (OL ?_))
 obtain ⟨q7_11,hq7_11,q⟩ := bE q
 refine OL (AI f27_in (cV (cQ C27 (a.1,a.2) q7_11 [] false C27_holds hq7_11 rfl rfl (R2 (K0 (cI q (fun q=>?_) (fun q=>?_)))))))
 ·refine OL (OL ?_)
  cases sE q
  refine AI rfl (E4 [(0,none),(1,none)] (R2 (AJ (R2 TV))))
 refine OL ?_
 obtain ⟨r1,hr1,q⟩ := bE q
 refine OL (AI f87_in (cV (cQ C87 (a.1,(0:Int)) r1 [] false C87_holds hr1 rfl rfl (R2 (K0 (OL (OL (OL ?_))))))))
 obtain ⟨z2,hz2,q⟩ := bE q
 refine lI (Int×LI) LI (fun x=>⟨[(1,.dat T2 k),(2,P0 0 0),(4,P0 1 0),(6,P0 2 0),(7,.dat T2 x.1)],[(0,.cells [(.d T1 a.1),(.d T1 a.2)]),(1,.cells [N0,N0]),(2,.cells [(.osl 3),(.osl 4)]),(3,.arr 3 T2 r1.1),(4,.arr 33 T2 x.2)],5⟩) (fun z=>[(2,⟨[(4,P0 0 0),(6,P0 1 0)],[(0,.cells [N0,N0]),(1,.cells [(.osl 2),(.osl 3)]),(2,.arr 3 T2 r1.1),(3,.arr 33 T2 z)],4⟩)]) (loopF (fun go x=>f52_l1 a k go x.1 x.2)) fuelN ((0:Int),r1.2) z2 (AI hz2 (AI (E4 [(0,some 0),(1,some 1),(2,some 4),(3,some 2),(4,some 3)] (R3 (AI (R3 TV) (R5 TV)))) (AI (fun _ _ h=>lZ h) (AI (fun m=>curI (fun i=>fun l4 z q=>?_)) ?_))))
 ·have q : f52_l1 a k (loopF (fun go x=>f52_l1 a k go x.1 x.2) m) i l4 = some z := q
  unfold f52_l1 at q
  refine OL (OL (cI q (fun q=>?_) (fun q=>?_)))
  ·refine OL (EI (.take 0 (.take 1 (.take 2 (.take 3 (.take 4 (.take 5 (.take 6 (.take 7 (.take 8 (.alt 9 (.take 10 (.alt 11 .done .done)) .done)))))))))) (EI [] (EI [] (AI rfl (gI q (fun q=>?_))))))
   refine AI TV ?_
   obtain ⟨q7_9,hq7_9,q⟩ := bE q
   refine OL (AI f91_in (cV (cQ C91 ((rd (0:Int) a.2 i),k) q7_9 [] false C91_holds hq7_9 rfl rfl (R2 (K0 (gI q (fun q=>?_)))))))
   refine AI TV (OL (EI ((i64.wrap (i + (1:Int))),(List.set l4 (Int.toNat i) q7_9)) (AI q (E4 I5 (R3 (AI (R3 TV) (R5 TV)))))))
  cases sE q
  refine E4 [(0,some 1),(1,some 2),(2,some 3),(3,some 4)] (AI rfl (AI (R2 TV) (R4 TV)))
 refine AI (OL (OL ?_)) TV
 cases sE q
 refine AI rfl (E4 [(0,some 2),(1,some 3)] (R2 (AJ (R2 TV))))
theorem C52_holds : HP C52 52 := hH Tryz.f52 (by kernel_rfl) rfl (fun x y q=>C52_vc x.1 x.2 y q)
theorem f52_in : InP 52 := inP (by kernel_rfl)
def f53_j3 (a : LI×LI) (b : LI×LI) : Option Bool :=
 bindF (f27 (a.1,a.2)) fun r9 =>
 bif (!r9) then
 some true
 else
 bindF (f27 (b.1,b.2)) fun r10 =>
 some (!r10)
def f53_j2 (a : LI×LI) (b : LI×LI) : Option (Sum Unit Unit) :=
 bindF (f53_j3 a b) fun z8 =>
 bif z8 then
 some (Sum.inr ())
 else
 some (Sum.inl ())
def f53_j6 (a : LI×LI) (b : LI×LI) : Option Bool :=
 bif ((List.length a.1:Int) != (2:Int)) then
 some true
 else
 bif ((List.length b.1:Int) != (2:Int)) then
 some true
 else
 guardF (0 ≤ (1:Int) ∧ (1:Int) < (List.length a.1:Int)) <|
 guardF (0 ≤ (0:Int) ∧ (0:Int) < (List.length b.1:Int)) <|
 some ((rd (0:Int) a.1 (1:Int)) != (rd (0:Int) b.1 (0:Int)))
def f53_j5 (a : LI×LI) (b : LI×LI) : Option (Sum Unit Unit) :=
 bindF (f53_j6 a b) fun z13 =>
 bif z13 then
 some (Sum.inr ())
 else
 some (Sum.inl ())
def f53_l19 (a : LI×LI) (b : LI×LI) (i:Int) (j:Int) (go : (Int×Bool×Int×Int×Int×Int) → Option (Bool×Int×Int×Int×Int)) (q_:Int) (c4_0 : Bool) (c4_1:Int) (c4_2:Int) (c4_3:Int) (c4_4:Int) : Option (Bool×Int×Int×Int×Int) :=
 bif (decide (q_ < (rd (0:Int) a.1 (1:Int)))) then
 guardF (0 ≤ (i64.wrap ((i64.wrap (i * (rd (0:Int) a.1 (1:Int)))) + q_)) ∧ (i64.wrap ((i64.wrap (i * (rd (0:Int) a.1 (1:Int)))) + q_)) < (List.length a.2:Int)) <|
 guardF (0 ≤ (i64.wrap ((i64.wrap (q_ * (rd (0:Int) b.1 (1:Int)))) + j)) ∧ (i64.wrap ((i64.wrap (q_ * (rd (0:Int) b.1 (1:Int)))) + j)) < (List.length b.2:Int)) <|
 bindF (f93 (rd (0:Int) a.2 (i64.wrap ((i64.wrap (i * (rd (0:Int) a.1 (1:Int)))) + q_))) (rd (0:Int) b.2 (i64.wrap ((i64.wrap (q_ * (rd (0:Int) b.1 (1:Int)))) + j)))) fun q19_19 =>
 bindF (f92 c4_0 c4_1 c4_2 c4_3 c4_4 q19_19.1 q19_19.2.1 q19_19.2.2.1 q19_19.2.2.2.1 q19_19.2.2.2.2) fun q19_20 =>
 go ((i64.wrap (q_ + (1:Int))),q19_20.1,q19_20.2.1,q19_20.2.2.1,q19_20.2.2.2.1,q19_20.2.2.2.2)
 else
 some (c4_0,c4_1,c4_2,c4_3,c4_4)
def f53_l18 (a : LI×LI) (b : LI×LI) (i:Int) (go : (Int×LI) → Option LI) (j:Int) (l5_2 : LI) : Option LI :=
 bif (decide (j < (rd (0:Int) b.1 (1:Int)))) then
 bindF (loopF (fun go x=>f53_l19 a b i j go x.1 x.2.1 x.2.2.1 x.2.2.2.1 x.2.2.2.2.1 x.2.2.2.2.2) fuelN ((0:Int),false,(0:Int),(0:Int),(0:Int),(0:Int))) fun z27 =>
 bindF (f95 z27.1 z27.2.1 z27.2.2.1 z27.2.2.2.1 z27.2.2.2.2 (32:Int)) fun q20_8 =>
 bindF (f94 q20_8.1 q20_8.2.1 q20_8.2.2.1 q20_8.2.2.2.1 q20_8.2.2.2.2) fun q20_9 =>
 guardF (0 ≤ (i64.wrap ((i64.wrap (i * (rd (0:Int) b.1 (1:Int)))) + j)) ∧ (i64.wrap ((i64.wrap (i * (rd (0:Int) b.1 (1:Int)))) + j)) < (List.length l5_2:Int)) <|
 go ((i64.wrap (j + (1:Int))),(List.set l5_2 (Int.toNat (i64.wrap ((i64.wrap (i * (rd (0:Int) b.1 (1:Int)))) + j))) q20_9))
 else
 some l5_2
def f53_l15 (a : LI×LI) (b : LI×LI) (go : (Int×LI) → Option LI) (i:Int) (l5 : LI) : Option LI :=
 bif (decide (i < (rd (0:Int) a.1 (0:Int)))) then
 bindF (loopF (fun go x=>f53_l18 a b i go x.1 x.2) fuelN ((0:Int),l5)) fun z26 =>
 go ((i64.wrap (i + (1:Int))),z26)
 else
 some l5
def f53 (a : LI×LI) (b : LI×LI) : Option (Int×LI×LI) :=
 bindF (f53_j2 a b) fun z5 =>
 sumF z5 (fun z5a =>
 bindF (f53_j5 a b) fun z12 =>
 sumF z12 (fun z12a =>
 guardF (0 ≤ (0:Int) ∧ (0:Int) < (List.length a.1:Int)) <|
 guardF (0 ≤ (1:Int) ∧ (1:Int) < (List.length b.1:Int)) <|
 guardF (0 ≤ (1:Int) ∧ (1:Int) < (List.length a.1:Int)) <|
 bindF (f49 ([(rd (0:Int) a.1 (0:Int)),(rd (0:Int) b.1 (1:Int))])) fun q5_14 =>
 bif (!q5_14) then
 some ((2:Int),[],[])
 else
 bindF (f87 ([(rd (0:Int) a.1 (0:Int)),(rd (0:Int) b.1 (1:Int))]) (0:Int)) fun r14 =>
 bindF (loopF (fun go x=>f53_l15 a b go x.1 x.2) fuelN ((0:Int),r14.2)) fun z23 =>
 some ((0:Int),r14.1,z23)) (fun z12b =>
 some ((4:Int),[],[]))) (fun z5b =>
 some ((1:Int),[],[]))
def C53 : Con where
 X := (LI×LI)×(LI×LI)
 Y := Int×LI×LI
 e := 0
 args x := [.dat T3 x.1,.dat T3 x.2]
 hin x := []
 F x := f53 x.1 x.2
 ret y := [.raw true [(.osl 0),(.osl 1)],.dat T2 y.1]
 hout y := [(0,.arr 3 T2 y.2.1),(1,.arr 33 T2 y.2.2)]
 nout := 2
theorem C53_vc (a : LI×LI) (b : LI×LI) (y : Int×LI×LI) (q : f53 a b = some y) : VC Tryz.f53 C53 (a,b) y := by
 unfold f53 at q
 refine OL ?_
 obtain ⟨z5,hz5,q⟩ := bE q
 refine OQ ⟨Sum.elim (fun z5a=>[(0,⟨[(2,P0 0 0),(3,P0 1 0),(4,P0 2 0)],[(0,.cells [(.d T1 a.1),(.d T1 a.2)]),(1,.cells [(.d T1 b.1),(.d T1 b.2)]),(2,.cells [N0,N0])],3⟩)]) (fun z5b=>[(1,⟨[(4,P0 0 0),(5,D0 1)],[(0,.cells [N0,N0])],1⟩)]) z5,?_,?_⟩
 ·have q := hz5
  clear hz5
  unfold f53_j2 at q
  obtain ⟨z8,hz8,q⟩ := bE q
  refine OQ ⟨[(0,⟨[(2,P0 0 0),(3,P0 1 0),(4,P0 2 0),(21,.dat .bool z8)],[(0,.cells [(.d T1 a.1),(.d T1 a.2)]),(1,.cells [(.d T1 b.1),(.d T1 b.2)]),(2,.cells [N0,N0])],3⟩)],?_,?_⟩
  ·have q := hz8
   clear hz8
   unfold f53_j3 at q
   obtain ⟨r9,hr9,q⟩ := bE q
   refine OL (AI f27_in (cV (cQ C27 (a.1,a.2) r9 [] false C27_holds hr9 rfl rfl (R2 (K0 (cN q (fun q=>?_) (fun q=>?_)))))))
   ·refine gY ?_
    obtain ⟨r10,hr10,q⟩ := bE q
    refine OL (AI f27_in (cV (cQ C27 (b.1,b.2) r10 [] false C27_holds hr10 rfl rfl (R2 (K0 (gY (cF ?_)))))))
    cases sE q
    refine E4 I3 (R2 (AI (R3 TV) (R3 TV)))
   refine gN (gN (cT ?_))
   cases sE q
   refine E4 I3 (R2 (AI (R3 TV) (R3 TV)))
  refine AI (cI q (fun q=>?_) (fun q=>?_)) TV
  ·refine OL (OL ?_)
   cases sE q
   refine E4 [(0,some 2)] (R2 (AJ (AI rfl TV)))
  cases sE q
  refine E4 I3 (AI rfl (AI (R3 TV) (R3 TV)))
 rcases z5 with z5a | z5b
 ·dsimp only [sumF] at q
  refine AI ?_ TV
  obtain ⟨z12,hz12,q⟩ := bE q
  refine OQ ⟨Sum.elim (fun z12a=>[(0,⟨[(2,P0 0 0),(3,P0 1 0),(4,P0 2 0)],[(0,.cells [(.d T1 a.1),(.d T1 a.2)]),(1,.cells [(.d T1 b.1),(.d T1 b.2)]),(2,.cells [N0,N0])],3⟩)]) (fun z12b=>[(1,⟨[(4,P0 0 0),(5,D0 4)],[(0,.cells [N0,N0])],1⟩)]) z12,?_,?_⟩
  ·have q := hz12
   clear hz12
   unfold f53_j5 at q
   obtain ⟨z13,hz13,q⟩ := bE q
   refine OQ ⟨[(0,⟨[(2,P0 0 0),(3,P0 1 0),(4,P0 2 0),(43,.dat .bool z13)],[(0,.cells [(.d T1 a.1),(.d T1 a.2)]),(1,.cells [(.d T1 b.1),(.d T1 b.2)]),(2,.cells [N0,N0])],3⟩)],?_,?_⟩
   ·have q := hz13
    clear hz13
    unfold f53_j6 at q
    refine EI (.take 0 (.take 1 (.take 2 (.take 3 (.take 4 (.take 5 (.take 6 (.take 7 (.take 8 (.take 9 (.take 10 (.take 11 (.take 12 (.take 13 (.take 14 (.take 15 (.take 16 (.take 17 (.take 18 (.take 19 (.take 20 .done))))))))))))))))))))) (EI [] (EI [] (AI rfl (cN q (fun q=>?_) (fun q=>?_)))))
    ·refine gY (gY (gY (cF (cN q (fun q=>?_) (fun q=>?_)))))
     ·refine gY (gY (gI q (fun q=>?_)))
      refine gY (gY (gY (gY (gI q (fun q=>?_)))))
      refine gY (gY (cF ?_))
      cases sE q
      refine E4 I3 (R2 (AI (R3 TV) (R3 TV)))
     refine gN (gN (gN (gN (gN (gN (gN (gN (cT ?_))))))))
     cases sE q
     refine E4 I3 (R2 (AI (R3 TV) (R3 TV)))
    refine gN (gN (gN (cT (gN (gN (gN (gN (gN (gN (gN (gN (gN (cT ?_)))))))))))))
    cases sE q
    refine E4 I3 (R2 (AI (R3 TV) (R3 TV)))
   refine AI (cI q (fun q=>?_) (fun q=>?_)) TV
   ·refine OL (OL ?_)
    cases sE q
    refine E4 [(0,some 2)] (R2 (AJ (AI rfl TV)))
   cases sE q
   refine E4 I3 (AI rfl (AI (R3 TV) (R3 TV)))
  rcases z12 with z12a | z12b
  ·dsimp only [sumF] at q
   refine AI (OL (EI (.take 0 (.take 1 (.take 2 (.take 3 (.take 4 (.take 5 (.take 6 (.take 7 (.take 8 (.take 9 (.take 10 (.take 11 (.take 12 (.take 13 (.take 14 .done))))))))))))))) (EI [] (EI [] (AI rfl (gI q (fun q=>?_))))))) TV
   refine gI q (fun q=>?_)
   refine gI q (fun q=>?_)
   refine OL (OL (OL ?_))
   obtain ⟨q5_14,hq5_14,q⟩ := bE q
   refine OL (AI f49_in (cV (cQ C49 [(rd (0:Int) a.1 (0:Int)),(rd (0:Int) b.1 (1:Int))] q5_14 [] true C49_holds hq5_14 rfl rfl (AI rfl (AI (fun _=>rfl) (R2 (AI TV (AI TV (cI q (fun q=>?_) (fun q=>?_))))))))))
   ·refine OL (OL ?_)
    cases sE q
    refine AI rfl (E4 [(0,none),(1,none)] (R2 (AJ (R2 TV))))
   refine OL (OL ?_)
   obtain ⟨r14,hr14,q⟩ := bE q
   refine OL (AI f87_in (cV (cQ C87 ([(rd (0:Int) a.1 (0:Int)),(rd (0:Int) b.1 (1:Int))],(0:Int)) r14 [] true C87_holds hr14 rfl rfl (R2 (AI (fun _=>rfl) (R2 (AI TV (AI TV (OL (OL (OL ?_)))))))))))
   obtain ⟨z23,hz23,q⟩ := bE q
   refine lI (Int×LI) LI (fun x=>⟨[(2,P0 0 0),(3,P0 1 0),(4,P0 2 0),(6,.dat T2 (rd (0:Int) a.1 (0:Int))),(7,.dat T2 (rd (0:Int) b.1 (1:Int))),(8,.dat T2 (rd (0:Int) a.1 (1:Int))),(9,P0 3 0),(10,.dat T2 x.1)],[(0,.cells [(.d T1 a.1),(.d T1 a.2)]),(1,.cells [(.d T1 b.1),(.d T1 b.2)]),(2,.cells [N0,N0]),(3,.cells [(.osl 4),(.osl 5)]),(4,.arr 3 T2 r14.1),(5,.arr 33 T2 x.2)],6⟩) (fun z=>[(2,⟨[(4,P0 0 0),(9,P0 1 0)],[(0,.cells [N0,N0]),(1,.cells [(.osl 2),(.osl 3)]),(2,.arr 3 T2 r14.1),(3,.arr 33 T2 z)],4⟩)]) (loopF (fun go x=>f53_l15 a b go x.1 x.2)) fuelN ((0:Int),r14.2) z23 (AI hz23 (AI (E4 [(0,some 0),(1,some 1),(2,some 2),(3,some 7),(4,some 5),(5,some 6)] (R5 (AI (R4 TV) (R6 TV)))) (AI (fun _ _ h=>lZ h) (AI (fun m=>curI (fun i=>fun l5 z q=>?_)) ?_))))
   ·have q : f53_l15 a b (loopF (fun go x=>f53_l15 a b go x.1 x.2) m) i l5 = some z := q
    unfold f53_l15 at q
    refine OL (OL (cI q (fun q=>?_) (fun q=>?_)))
    ·refine OL (OL ?_)
     obtain ⟨z26,hz26,q⟩ := bE q
     refine lI (Int×LI) LI (fun x=>⟨[(2,P0 0 0),(3,P0 1 0),(4,P0 2 0),(6,.dat T2 (rd (0:Int) a.1 (0:Int))),(7,.dat T2 (rd (0:Int) b.1 (1:Int))),(8,.dat T2 (rd (0:Int) a.1 (1:Int))),(9,P0 3 0),(10,.dat T2 i),(11,.dat T2 x.1)],[(0,.cells [(.d T1 a.1),(.d T1 a.2)]),(1,.cells [(.d T1 b.1),(.d T1 b.2)]),(2,.cells [N0,N0]),(3,.cells [(.osl 4),(.osl 5)]),(4,.arr 3 T2 r14.1),(5,.arr 33 T2 x.2)],6⟩) (fun z=>[(4,⟨[(2,P0 0 0),(3,P0 1 0),(4,P0 2 0),(6,.dat T2 (rd (0:Int) a.1 (0:Int))),(7,.dat T2 (rd (0:Int) b.1 (1:Int))),(8,.dat T2 (rd (0:Int) a.1 (1:Int))),(9,P0 3 0),(10,.dat T2 i)],[(0,.cells [(.d T1 a.1),(.d T1 a.2)]),(1,.cells [(.d T1 b.1),(.d T1 b.2)]),(2,.cells [N0,N0]),(3,.cells [(.osl 4),(.osl 5)]),(4,.arr 3 T2 r14.1),(5,.arr 33 T2 z)],6⟩)]) (loopF (fun go x=>f53_l18 a b i go x.1 x.2)) fuelN ((0:Int),l5) z26 (AI hz26 (AI (E4 I6 (R6 (AI (R4 TV) (R6 TV)))) (AI (fun _ _ h=>lZ h) (AI (fun m=>curI (fun j=>fun l5_2 z q=>?_)) ?_))))
     ·have q : f53_l18 a b i (loopF (fun go x=>f53_l18 a b i go x.1 x.2) m) j l5_2 = some z := q
      unfold f53_l18 at q
      refine OL (OL (cI q (fun q=>?_) (fun q=>?_)))
      ·refine OL (OL (OL (OL (OL ?_))))
       obtain ⟨z27,hz27,q⟩ := bE q
       refine lI (Int×Bool×Int×Int×Int×Int) (Bool×Int×Int×Int×Int) (fun x=>⟨[(2,P0 0 0),(3,P0 1 0),(4,P0 2 0),(6,.dat T2 (rd (0:Int) a.1 (0:Int))),(7,.dat T2 (rd (0:Int) b.1 (1:Int))),(8,.dat T2 (rd (0:Int) a.1 (1:Int))),(9,P0 3 0),(10,.dat T2 i),(11,.dat T2 j),(12,P0 4 0),(13,.dat T2 x.1)],[(0,.cells [(.d T1 a.1),(.d T1 a.2)]),(1,.cells [(.d T1 b.1),(.d T1 b.2)]),(2,.cells [N0,N0]),(3,.cells [(.osl 5),(.osl 6)]),(4,.cells [(.d .bool x.2.1),(.d T4 x.2.2.1),(.d T4 x.2.2.2.1),(.d T4 x.2.2.2.2.1),(.d T4 x.2.2.2.2.2)]),(5,.arr 3 T2 r14.1),(6,.arr 33 T2 l5_2)],7⟩) (fun z=>[(6,⟨[(2,P0 0 0),(3,P0 1 0),(4,P0 2 0),(6,.dat T2 (rd (0:Int) a.1 (0:Int))),(7,.dat T2 (rd (0:Int) b.1 (1:Int))),(8,.dat T2 (rd (0:Int) a.1 (1:Int))),(9,P0 3 0),(10,.dat T2 i),(11,.dat T2 j),(12,P0 4 0)],[(0,.cells [(.d T1 a.1),(.d T1 a.2)]),(1,.cells [(.d T1 b.1),(.d T1 b.2)]),(2,.cells [N0,N0]),(3,.cells [(.osl 5),(.osl 6)]),(4,.cells [(.d .bool z.1),(.d T4 z.2.1),(.d T4 z.2.2.1),(.d T4 z.2.2.2.1),(.d T4 z.2.2.2.2)]),(5,.arr 3 T2 r14.1),(6,.arr 33 T2 l5_2)],7⟩)]) (loopF (fun go x=>f53_l19 a b i j go x.1 x.2.1 x.2.2.1 x.2.2.2.1 x.2.2.2.2.1 x.2.2.2.2.2)) fuelN ((0:Int),false,(0:Int),(0:Int),(0:Int),(0:Int)) z27 (AI hz27 (AI (E4 [(0,some 0),(1,some 1),(2,some 2),(3,some 3),(4,some 6),(5,some 4),(6,some 5)] (R7 (AI (R5 TV) (R7 TV)))) (AI (fun _ _ h=>lZ h) (AI (fun m=>curI (fun q_=>curI (fun c4_0=>curI (fun c4_1=>curI (fun c4_2=>curI (fun c4_3=>fun c4_4 z q=>?_)))))) ?_))))
       ·have q : f53_l19 a b i j (loopF (fun go x=>f53_l19 a b i j go x.1 x.2.1 x.2.2.1 x.2.2.2.1 x.2.2.2.2.1 x.2.2.2.2.2) m) q_ c4_0 c4_1 c4_2 c4_3 c4_4 = some z := q
        unfold f53_l19 at q
        refine OL (OL (cI q (fun q=>?_) (fun q=>?_)))
        ·refine OL (EI (.take 0 (.take 1 (.take 2 (.take 3 (.take 4 (.take 5 (.take 6 (.take 7 (.take 8 (.take 9 (.take 10 (.take 11 (.take 12 (.take 13 (.take 14 (.take 15 (.take 16 (.take 17 (.take 18 (.alt 19 (.alt 20 (.alt 21 .done .done) .done) .done)))))))))))))))))))) (EI [(21,[4])] (EI [] (AI rfl (gI q (fun q=>?_))))))
         refine gI q (fun q=>?_)
         refine AI TV ?_
         obtain ⟨q19_19,hq19_19,q⟩ := bE q
         refine OL (AI f93_in (cV (cQ C93 ((rd (0:Int) a.2 (i64.wrap ((i64.wrap (i * (rd (0:Int) a.1 (1:Int)))) + q_))),(rd (0:Int) b.2 (i64.wrap ((i64.wrap (q_ * (rd (0:Int) b.1 (1:Int)))) + j)))) q19_19 [] false C93_holds hq19_19 rfl rfl (R2 (K0 (AI TV ?_))))))
         obtain ⟨q19_20,hq19_20,q⟩ := bE q
         refine OL (AI f92_in (cV (cQ C92 (c4_0,c4_1,c4_2,c4_3,c4_4,q19_19.1,q19_19.2.1,q19_19.2.2.1,q19_19.2.2.2.1,q19_19.2.2.2.2) q19_20 [] false C92_holds hq19_20 rfl rfl (AI NH (R2 (AI (R2 TV) (AI TV (AI TV (OL (EI ((i64.wrap (q_ + (1:Int))),q19_20.1,q19_20.2.1,q19_20.2.2.1,q19_20.2.2.2.1,q19_20.2.2.2.2) (AI q (E4 I7 (R7 (AI (R5 TV) (R7 TV)))))))))))))))
        cases sE q
        refine E4 I7 (R6 (AI (R5 TV) (R7 TV)))
       refine AI (EI (.take 0 (.take 1 (.take 2 (.take 3 (.take 4 (.take 5 (.take 6 (.take 7 (.alt 8 (.alt 9 (.take 10 (.alt 11 .done .done)) .done) .done))))))))) (EI [] (EI [] (AI rfl (AI TV ?_))))) TV
       obtain ⟨q20_8,hq20_8,q⟩ := bE q
       refine OL (AI f95_in (cV (cQ C95 (z27.1,z27.2.1,z27.2.2.1,z27.2.2.2.1,z27.2.2.2.2,(32:Int)) q20_8 [] false C95_holds hq20_8 rfl rfl (AI rfl (AI NH (R2 (AJ (AI TV (AI TV ?_)))))))))
       obtain ⟨q20_9,hq20_9,q⟩ := bE q
       refine OL (AI f94_in (cV (cQ C94 (q20_8.1,q20_8.2.1,q20_8.2.2.1,q20_8.2.2.2.1,q20_8.2.2.2.2) q20_9 [] false C94_holds hq20_9 rfl rfl (AI NH (R2 (AJ (AI TV (gI q (fun q=>?_)))))))))
       refine AI TV (OL (EI ((i64.wrap (j + (1:Int))),(List.set l5_2 (Int.toNat (i64.wrap ((i64.wrap (i * (rd (0:Int) b.1 (1:Int)))) + j))) q20_9)) (AI q (E4 [(0,some 0),(1,some 1),(2,some 2),(3,some 3),(4,some 5),(5,some 6)] (R6 (AI (R4 TV) (R6 TV)))))))
      cases sE q
      refine E4 I6 (R5 (AI (R4 TV) (R6 TV)))
     refine AI (EI ((i64.wrap (i + (1:Int))),z26) (AI q (E4 I6 (R5 (AI (R4 TV) (R6 TV)))))) TV
    cases sE q
    refine E4 [(0,some 2),(1,some 3),(2,some 4),(3,some 5)] (AI rfl (AI (R2 TV) (R4 TV)))
   refine AI (OL (OL ?_)) TV
   cases sE q
   refine AI rfl (E4 [(0,some 2),(1,some 3)] (R2 (AJ (R2 TV))))
  dsimp only [sumF] at q
  refine AI ?_ TV
  cases sE q
  refine AI rfl (E4 [(0,none),(1,none)] (R2 (AJ (R2 TV))))
 dsimp only [sumF] at q
 refine AI ?_ TV
 cases sE q
 refine AI rfl (E4 [(0,none),(1,none)] (R2 (AJ (R2 TV))))
theorem C53_holds : HP C53 53 := hH Tryz.f53 (by kernel_rfl) rfl (fun x y q=>C53_vc x.1 x.2 y q)
theorem f53_in : InP 53 := inP (by kernel_rfl)
def f98_j1 (d : LI) (place_ : LI) : Option (Sum Unit Unit) :=
 bindF (f49 d) fun r2 =>
 bif (!r2) then
 some (Sum.inr ())
 else
 bif ((List.length place_:Int) != (List.length d:Int)) then
 some (Sum.inr ())
 else
 some (Sum.inl ())
def f98_j5 (d : LI) (place_ : LI) (i:Int) : Option (Sum Unit Unit) :=
 guardF (0 ≤ i ∧ i < (List.length place_:Int)) <|
 bif (decide ((rd (0:Int) place_ i) < (0:Int))) then
 some (Sum.inr ())
 else
 guardF (0 ≤ i ∧ i < (List.length place_:Int)) <|
 guardF (0 ≤ i ∧ i < (List.length d:Int)) <|
 bif (decide ((rd (0:Int) place_ i) ≥ (rd (0:Int) d i))) then
 some (Sum.inr ())
 else
 some (Sum.inl ())
def f98_l4 (d : LI) (place_ : LI) (go : (Int×Int) → Option (Sum Unit Int)) (at_:Int) (i:Int) : Option (Sum Unit Int) :=
 bif (decide (i < (List.length d:Int))) then
 bindF (f98_j5 d place_ i) fun z6 =>
 sumF z6 (fun z6a =>
 guardF (0 ≤ i ∧ i < (List.length d:Int)) <|
 guardF (0 ≤ i ∧ i < (List.length place_:Int)) <|
 go ((i64.wrap ((i64.wrap (at_ * (rd (0:Int) d i))) + (rd (0:Int) place_ i))),(i64.wrap (i + (1:Int))))) (fun z6b =>
 some (Sum.inl ()))
 else
 some (Sum.inr at_)
def f98 (d : LI) (place_ : LI) : Option (Int×Bool) :=
 bindF (f98_j1 d place_) fun z1 =>
 sumF z1 (fun z1a =>
 bindF (loopF (fun go x=>f98_l4 d place_ go x.1 x.2) fuelN ((0:Int),(0:Int))) fun z5 =>
 sumF z5 (fun z5a =>
 some ((0:Int),false)) (fun z5b =>
 some (z5b,true))) (fun z1b =>
 some ((0:Int),false))
def C98 : Con where
 X := LI×LI
 Y := Int×Bool
 e := 0
 args x := [.dat T1 x.1,.dat T1 x.2]
 hin x := []
 F x := f98 x.1 x.2
 ret y := [.dat T2 y.1,.dat .bool y.2]
 hout y := []
 nout := 0
theorem C98_vc (d : LI) (place_ : LI) (y : Int×Bool) (q : f98 d place_ = some y) : VC Tryz.f98 C98 (d,place_) y := by
 unfold f98 at q
 refine OL ?_
 obtain ⟨z1,hz1,q⟩ := bE q
 refine OQ ⟨Sum.elim (fun z1a=>[(0,⟨[(0,.dat T1 d),(1,.dat T1 place_)],[],0⟩)]) (fun z1b=>[(1,⟨[(4,D0 0),(5,.dat .bool false)],[],0⟩)]) z1,?_,?_⟩
 ·have q := hz1
  clear hz1
  unfold f98_j1 at q
  refine OL ?_
  obtain ⟨r2,hr2,q⟩ := bE q
  refine OL (AI f49_in (cV (cQ C49 d r2 [] false C49_holds hr2 rfl rfl (AI rfl (K0 (cN q (fun q=>?_) (fun q=>?_)))))))
  ·refine gY (gY (gY (gY (cF (cI q (fun q=>?_) (fun q=>?_))))))
   ·cases sE q
    refine OL (E4 [] (R3 (AI TV TV)))
   cases sE q
   refine E4 [] (R3 (AI TV TV))
  refine gN (gN (gN (gN (cT (cT (OL ?_))))))
  cases sE q
  refine E4 [] (R3 (AI TV TV))
 rcases z1 with z1a | z1b
 ·dsimp only [sumF] at q
  refine AI (OL (OL (OL ?_))) TV
  obtain ⟨z5,hz5,q⟩ := bE q
  refine lI (Int×Int) (Sum Unit Int) (fun x=>⟨[(0,.dat T1 d),(1,.dat T1 place_),(6,.dat T2 x.1),(7,.dat T2 x.2)],[],0⟩) (fun z=>Sum.elim (fun za=>[(1,⟨[(4,D0 0),(5,.dat .bool false)],[],0⟩)]) (fun zb=>[(2,⟨[(6,.dat T2 zb)],[],0⟩)]) z) (loopF (fun go x=>f98_l4 d place_ go x.1 x.2)) fuelN ((0:Int),(0:Int)) z5 (AI hz5 (AI (E4 [] (R5 (AI TV TV))) (AI (fun _ _ h=>lZ h) (AI (fun m=>curI (fun at_=>fun i z q=>?_)) ?_))))
  ·have q : f98_l4 d place_ (loopF (fun go x=>f98_l4 d place_ go x.1 x.2) m) at_ i = some z := q
   unfold f98_l4 at q
   refine OL (OL (cI q (fun q=>?_) (fun q=>?_)))
   ·refine OL ?_
    obtain ⟨z6,hz6,q⟩ := bE q
    refine OQ ⟨Sum.elim (fun z6a=>[(0,⟨[(0,.dat T1 d),(1,.dat T1 place_),(6,.dat T2 at_),(7,.dat T2 i)],[],0⟩)]) (fun z6b=>[(1,⟨[(4,D0 0),(5,.dat .bool false)],[],0⟩)]) z6,?_,?_⟩
    ·have q := hz6
     clear hz6
     unfold f98_j5 at q
     refine OL (EI (.take 0 (.take 1 (.take 2 (.take 3 (.take 4 (.take 5 (.take 6 (.take 7 (.take 8 (.take 9 (.take 10 (.take 11 (.take 12 (.take 13 (.take 14 (.take 15 .done)))))))))))))))) (EI [] (EI [] (AI rfl (gI q (fun q=>?_))))))
     refine cN q (fun q=>?_) (fun q=>?_)
     ·refine gY (gY (gI q (fun q=>?_)))
      refine gY (gY (gY (gY (gI q (fun q=>?_)))))
      refine gY (gY (cF (cI q (fun q=>?_) (fun q=>?_))))
      ·cases sE q
       refine OL (E4 [] (R3 (AI TV TV)))
      cases sE q
      refine E4 [] (R5 (AI TV TV))
     refine gN (gN (gN (gN (gN (gN (gN (gN (cT (cT (OL ?_))))))))))
     cases sE q
     refine E4 [] (R3 (AI TV TV))
    rcases z6 with z6a | z6b
    ·dsimp only [sumF] at q
     refine AI (EI (.take 0 (.take 1 (.take 2 (.take 3 (.take 4 (.take 5 (.take 6 (.take 7 (.take 8 (.take 9 (.take 10 (.take 11 .done)))))))))))) (EI [] (EI [] (AI rfl (gI q (fun q=>?_)))))) TV
     refine gI q (fun q=>?_)
     refine EI ((i64.wrap ((i64.wrap (at_ * (rd (0:Int) d i))) + (rd (0:Int) place_ i))),(i64.wrap (i + (1:Int)))) (AI q (E4 [] (R5 (AI TV TV))))
    dsimp only [sumF] at q
    refine AI ?_ TV
    cases sE q
    refine E4 [] (R3 (AI TV TV))
   cases sE q
   refine E4 [] (R2 (AI TV TV))
  rcases z5 with z5a | z5b
  ·dsimp only [sumF] at q
   refine AI ?_ TV
   cases sE q
   refine AI rfl (E4 [] (R3 (AI TV TV)))
  dsimp only [sumF] at q
  refine AI (OL ?_) TV
  cases sE q
  refine AI rfl (E4 [] (R3 (AI TV TV)))
 dsimp only [sumF] at q
 refine AI ?_ TV
 cases sE q
 refine AI rfl (E4 [] (R3 (AI TV TV)))
theorem C98_holds : HP C98 98 := hH Tryz.f98 (by kernel_rfl) rfl (fun x y q=>C98_vc x.1 x.2 y q)
theorem f98_in : InP 98 := inP (by kernel_rfl)
def f96_j3 (a : LI×LI) (order : LI) : Option Bool :=
 bindF (f27 (a.1,a.2)) fun r6 =>
 bif (!r6) then
 some true
 else
 some ((List.length order:Int) != (List.length a.1:Int))
def f96_j2 (a : LI×LI) (order : LI) : Option (Sum Unit Unit) :=
 bindF (f96_j3 a order) fun z5 =>
 bif z5 then
 some (Sum.inr ())
 else
 some (Sum.inl ())
def f96_j15 (order : LI) (i:Int) : Option Bool :=
 guardF (0 ≤ i ∧ i < (List.length order:Int)) <|
 bif (decide ((rd (0:Int) order i) < (0:Int))) then
 some true
 else
 guardF (0 ≤ i ∧ i < (List.length order:Int)) <|
 some (decide ((rd (0:Int) order i) ≥ (List.length order:Int)))
def f96_j14 (order : LI) (i:Int) : Option (Sum Unit Unit) :=
 bindF (f96_j15 order i) fun z18 =>
 bif z18 then
 some (Sum.inr ())
 else
 some (Sum.inl ())
def f96_l16 (order : LI) (i:Int) (go : Int → Option (Sum Unit Unit)) (k:Int) : Option (Sum Unit Unit) :=
 bif (decide (k < i)) then
 guardF (0 ≤ k ∧ k < (List.length order:Int)) <|
 guardF (0 ≤ i ∧ i < (List.length order:Int)) <|
 bif ((rd (0:Int) order k) == (rd (0:Int) order i)) then
 some (Sum.inl ())
 else
 go (i64.wrap (k + (1:Int)))
 else
 some (Sum.inr ())
def f96_l12 (a : LI×LI) (order : LI) (go : (Int×LI) → Option (Sum Unit LI)) (i:Int) (l2 : LI) : Option (Sum Unit LI) :=
 bif (decide (i < (List.length order:Int))) then
 bindF (f96_j14 order i) fun z17 =>
 sumF z17 (fun z17a =>
 bindF (loopF (fun go x=>f96_l16 order i go x) fuelN (0:Int)) fun z19 =>
 sumF z19 (fun z19a =>
 some (Sum.inl ())) (fun z19b =>
 guardF (0 ≤ i ∧ i < (List.length order:Int)) <|
 guardF (0 ≤ (rd (0:Int) order i) ∧ (rd (0:Int) order i) < (List.length a.1:Int)) <|
 guardF ((List.length l2 + List.length ([(rd (0:Int) a.1 (rd (0:Int) order i))])) * 8 ≤ 140737488355328) <|
 go ((i64.wrap (i + (1:Int))),(l2 ++ ([(rd (0:Int) a.1 (rd (0:Int) order i))]))))) (fun z17b =>
 some (Sum.inl ()))
 else
 some (Sum.inr l2)
def f96_l20 (order : LI) (r25 : Bool×LI) (go : (Int×LI) → Option LI) (k:Int) (l5_2 : LI) : Option LI :=
 bif (decide (k < (List.length r25.2:Int))) then
 guardF (0 ≤ k ∧ k < (List.length order:Int)) <|
 guardF (0 ≤ k ∧ k < (List.length r25.2:Int)) <|
 guardF (0 ≤ (rd (0:Int) order k) ∧ (rd (0:Int) order k) < (List.length l5_2:Int)) <|
 go ((i64.wrap (k + (1:Int))),(List.set l5_2 (Int.toNat (rd (0:Int) order k)) (rd (0:Int) r25.2 k)))
 else
 some l5_2
def f96_l19 (a : LI×LI) (order : LI) (z15b : LI) (go : (Int×LI) → Option LI) (i:Int) (l5 : LI) : Option LI :=
 bif (decide (i < (List.length l5:Int))) then
 bindF (f97 z15b i) fun r25 =>
 guardF (0 ≤ (List.length r25.2:Int) ∧ (List.length r25.2:Int) ≤ (List.length r25.2:Int) ∧ Int.toNat (List.length r25.2:Int) * 8 ≤ 140737488355328) <|
 bindF (loopF (fun go x=>f96_l20 order r25 go x.1 x.2) fuelN ((0:Int),(List.replicate (Int.toNat (List.length r25.2:Int)) (0:Int)))) fun z26 =>
 bindF (f98 a.1 z26) fun q24_10 =>
 guardF (0 ≤ q24_10.1 ∧ q24_10.1 < (List.length a.2:Int)) <|
 guardF (0 ≤ i ∧ i < (List.length l5:Int)) <|
 go ((i64.wrap (i + (1:Int))),(List.set l5 (Int.toNat i) (rd (0:Int) a.2 q24_10.1)))
 else
 some l5
def f96 (a : LI×LI) (order : LI) : Option (Int×LI×LI) :=
 bindF (f96_j2 a order) fun z3 =>
 sumF z3 (fun z3a =>
 bindF (loopF (fun go x=>f96_l12 a order go x.1 x.2) fuelN ((0:Int),[])) fun z15 =>
 sumF z15 (fun z15a =>
 some ((1:Int),[],[])) (fun z15b =>
 bindF (f87 z15b (0:Int)) fun q14_11 =>
 bindF (loopF (fun go x=>f96_l19 a order z15b go x.1 x.2) fuelN ((0:Int),q14_11.2)) fun z24 =>
 some ((0:Int),q14_11.1,z24))) (fun z3b =>
 some ((1:Int),[],[]))
def C96 : Con where
 X := (LI×LI)×LI
 Y := Int×LI×LI
 e := 0
 args x := [.dat T3 x.1,.dat T1 x.2]
 hin x := []
 F x := f96 x.1 x.2
 ret y := [.raw true [(.osl 0),(.osl 1)],.dat T2 y.1]
 hout y := [(0,.arr 3 T2 y.2.1),(1,.arr 33 T2 y.2.2)]
 nout := 2
theorem C96_vc (a : LI×LI) (order : LI) (y : Int×LI×LI) (q : f96 a order = some y) : VC Tryz.f96 C96 (a,order) y := by
 unfold f96 at q
 refine OL ?_
 obtain ⟨z3,hz3,q⟩ := bE q
 refine OQ ⟨Sum.elim (fun z3a=>[(0,⟨[(1,.dat T1 order),(2,P0 0 0),(4,P0 1 0)],[(0,.cells [(.d T1 a.1),(.d T1 a.2)]),(1,.cells [N0,N0])],2⟩)]) (fun z3b=>[(1,⟨[(4,P0 0 0),(5,D0 1)],[(0,.cells [N0,N0])],1⟩)]) z3,?_,?_⟩
 ·have q := hz3
  clear hz3
  unfold f96_j2 at q
  obtain ⟨z5,hz5,q⟩ := bE q
  refine OQ ⟨[(0,⟨[(1,.dat T1 order),(2,P0 0 0),(4,P0 1 0),(27,.dat .bool z5)],[(0,.cells [(.d T1 a.1),(.d T1 a.2)]),(1,.cells [N0,N0])],2⟩)],?_,?_⟩
  ·have q := hz5
   clear hz5
   unfold f96_j3 at q
   obtain ⟨r6,hr6,q⟩ := bE q
   refine OL (AI f27_in (cV (cQ C27 (a.1,a.2) r6 [] false C27_holds hr6 rfl rfl (R2 (K0 (cN q (fun q=>?_) (fun q=>?_)))))))
   ·refine gY (gY (gY (gY (gY (cF ?_)))))
    cases sE q
    refine E4 I2 (R3 (AI (R2 TV) (R2 TV)))
   refine gN (gN (gN (gN (gN (cT ?_)))))
   cases sE q
   refine E4 I2 (R3 (AI (R2 TV) (R2 TV)))
  refine AI (cI q (fun q=>?_) (fun q=>?_)) TV
  ·refine OL (OL ?_)
   cases sE q
   refine E4 [(0,some 1)] (R2 (AJ (AI rfl TV)))
  cases sE q
  refine E4 I2 (R2 (AI (R2 TV) (R2 TV)))
 rcases z3 with z3a | z3b
 ·dsimp only [sumF] at q
  refine AI (OL (OL (OL ?_))) TV
  obtain ⟨z15,hz15,q⟩ := bE q
  refine lI (Int×LI) (Sum Unit LI) (fun x=>⟨[(1,.dat T1 order),(2,P0 0 0),(4,P0 1 0),(6,O0 2),(7,.dat T2 x.1)],[(0,.cells [(.d T1 a.1),(.d T1 a.2)]),(1,.cells [N0,N0]),(2,.arr 3 T2 x.2)],3⟩) (fun z=>Sum.elim (fun za=>[(1,⟨[(4,P0 0 0),(5,D0 1)],[(0,.cells [N0,N0])],1⟩)]) (fun zb=>[(2,⟨[(1,.dat T1 order),(2,P0 0 0),(4,P0 1 0),(6,O0 2)],[(0,.cells [(.d T1 a.1),(.d T1 a.2)]),(1,.cells [N0,N0]),(2,.arr 3 T2 zb)],3⟩)]) z) (loopF (fun go x=>f96_l12 a order go x.1 x.2)) fuelN ((0:Int),[]) z15 (AI hz15 (AI (E4 [(0,some 0),(1,some 1),(2,none)] (R3 (AI (R3 TV) (R3 TV)))) (AI (fun _ _ h=>lZ h) (AI (fun m=>curI (fun i=>fun l2 z q=>?_)) ?_))))
  ·have q : f96_l12 a order (loopF (fun go x=>f96_l12 a order go x.1 x.2) m) i l2 = some z := q
   unfold f96_l12 at q
   refine OL (OL (cI q (fun q=>?_) (fun q=>?_)))
   ·refine OL ?_
    obtain ⟨z17,hz17,q⟩ := bE q
    refine OQ ⟨Sum.elim (fun z17a=>[(0,⟨[(1,.dat T1 order),(2,P0 0 0),(4,P0 1 0),(6,O0 2),(7,.dat T2 i)],[(0,.cells [(.d T1 a.1),(.d T1 a.2)]),(1,.cells [N0,N0]),(2,.arr 3 T2 l2)],3⟩)]) (fun z17b=>[(1,⟨[(4,P0 0 0),(5,D0 1)],[(0,.cells [N0,N0])],1⟩)]) z17,?_,?_⟩
    ·have q := hz17
     clear hz17
     unfold f96_j14 at q
     obtain ⟨z18,hz18,q⟩ := bE q
     refine OQ ⟨[(0,⟨[(1,.dat T1 order),(2,P0 0 0),(4,P0 1 0),(6,O0 2),(7,.dat T2 i),(48,.dat .bool z18)],[(0,.cells [(.d T1 a.1),(.d T1 a.2)]),(1,.cells [N0,N0]),(2,.arr 3 T2 l2)],3⟩)],?_,?_⟩
     ·have q := hz18
      clear hz18
      unfold f96_j15 at q
      refine gI q (fun q=>?_)
      refine cN q (fun q=>?_) (fun q=>?_)
      ·refine gY (gY (gI q (fun q=>?_)))
       refine gY (gY (gY (gY (cF ?_))))
       cases sE q
       refine E4 I3 (R4 (AI (R3 TV) (R3 TV)))
      refine gN (gN (gN (gN (gN (gN (cT ?_))))))
      cases sE q
      refine E4 I3 (R4 (AI (R3 TV) (R3 TV)))
     refine AI (cI q (fun q=>?_) (fun q=>?_)) TV
     ·refine OL (OL ?_)
      cases sE q
      refine E4 [(0,some 1)] (R2 (AJ (AI rfl TV)))
     cases sE q
     refine E4 I3 (R3 (AI (R3 TV) (R3 TV)))
    rcases z17 with z17a | z17b
    ·dsimp only [sumF] at q
     refine AI (OL (OL ?_)) TV
     obtain ⟨z19,hz19,q⟩ := bE q
     refine lI Int (Sum Unit Unit) (fun x=>⟨[(1,.dat T1 order),(2,P0 0 0),(4,P0 1 0),(6,O0 2),(7,.dat T2 i),(8,.dat T2 x)],[(0,.cells [(.d T1 a.1),(.d T1 a.2)]),(1,.cells [N0,N0]),(2,.arr 3 T2 l2)],3⟩) (fun z=>Sum.elim (fun za=>[(1,⟨[(4,P0 0 0),(5,D0 1)],[(0,.cells [N0,N0])],1⟩)]) (fun zb=>[(4,⟨[(1,.dat T1 order),(2,P0 0 0),(4,P0 1 0),(6,O0 2),(7,.dat T2 i)],[(0,.cells [(.d T1 a.1),(.d T1 a.2)]),(1,.cells [N0,N0]),(2,.arr 3 T2 l2)],3⟩)]) z) (loopF (fun go x=>f96_l16 order i go x)) fuelN (0:Int) z19 (AI hz19 (AI (E4 I3 (R4 (AI (R3 TV) (R3 TV)))) (AI (fun _ _ h=>lZ h) (AI (fun m=>fun k z q=>?_) ?_))))
     ·have q : f96_l16 order i (loopF (fun go x=>f96_l16 order i go x) m) k = some z := q
      unfold f96_l16 at q
      refine OL (OL (cI q (fun q=>?_) (fun q=>?_)))
      ·refine OL (OL (EI (.take 0 (.take 1 (.take 2 (.take 3 (.take 4 (.take 5 (.take 6 (.take 7 (.take 8 .done))))))))) (EI [] (EI [] (AI rfl (gI q (fun q=>?_)))))))
       refine gI q (fun q=>?_)
       refine cI q (fun q=>?_) (fun q=>?_)
       ·refine OL (OL ?_)
        cases sE q
        refine E4 [(0,some 1)] (R2 (AJ (AI rfl TV)))
       refine EI (i64.wrap (k + (1:Int))) (AI q (E4 I3 (R4 (AI (R3 TV) (R3 TV)))))
      cases sE q
      refine E4 I3 (R3 (AI (R3 TV) (R3 TV)))
     rcases z19 with z19a | z19b
     ·dsimp only [sumF] at q
      refine AI ?_ TV
      cases sE q
      refine E4 [(0,some 0)] (R2 (AJ (AI rfl TV)))
     dsimp only [sumF] at q
     refine AI (EI (.take 0 (.take 1 (.take 2 (.take 3 (.take 4 (.take 5 (.take 6 (.take 7 (.take 8 (.alt 9 (.alt 10 (.take 11 .done) .done) .done)))))))))) (EI [] (EI [] (AI rfl (gI q (fun q=>?_)))))) TV
     refine gI q (fun q=>?_)
     refine AI TV (OL (AI TV (OL (gI q (fun q=>?_)))))
     refine EI ((i64.wrap (i + (1:Int))),(l2 ++ ([(rd (0:Int) a.1 (rd (0:Int) order i))]))) (AI q (E4 [(0,some 0),(1,some 1),(2,some 4)] (R3 (AI (R3 TV) (R3 TV)))))
    dsimp only [sumF] at q
    refine AI ?_ TV
    cases sE q
    refine E4 [(0,some 0)] (R2 (AJ (AI rfl TV)))
   cases sE q
   refine E4 I3 (R2 (AI (R3 TV) (R3 TV)))
  rcases z15 with z15a | z15b
  ·dsimp only [sumF] at q
   refine AI ?_ TV
   cases sE q
   refine AI rfl (E4 [(0,none),(1,none)] (R2 (AJ (R2 TV))))
  dsimp only [sumF] at q
  refine AI (OL ?_) TV
  obtain ⟨q14_11,hq14_11,q⟩ := bE q
  refine OL (AI f87_in (cV (cQ C87 (z15b,(0:Int)) q14_11 [] true C87_holds hq14_11 rfl rfl (R2 (AI (fun _=>rfl) (R2 (AI TV (AI TV (OL (OL (OL ?_)))))))))))
  obtain ⟨z24,hz24,q⟩ := bE q
  refine lI (Int×LI) LI (fun x=>⟨[(1,.dat T1 order),(2,P0 0 0),(4,P0 1 0),(6,O0 2),(9,P0 3 0),(10,.dat T2 x.1)],[(0,.cells [(.d T1 a.1),(.d T1 a.2)]),(1,.cells [N0,N0]),(2,.arr 3 T2 z15b),(3,.cells [(.osl 4),(.osl 5)]),(4,.arr 3 T2 q14_11.1),(5,.arr 33 T2 x.2)],6⟩) (fun z=>[(6,⟨[(4,P0 0 0),(9,P0 1 0)],[(0,.cells [N0,N0]),(1,.cells [(.osl 2),(.osl 3)]),(2,.arr 3 T2 q14_11.1),(3,.arr 33 T2 z)],4⟩)]) (loopF (fun go x=>f96_l19 a order z15b go x.1 x.2)) fuelN ((0:Int),q14_11.2) z24 (AI hz24 (AI (E4 [(0,some 0),(1,some 1),(2,some 2),(3,some 5),(4,some 3),(5,some 4)] (R3 (AI (R4 TV) (R6 TV)))) (AI (fun _ _ h=>lZ h) (AI (fun m=>curI (fun i=>fun l5 z q=>?_)) ?_))))
  ·have q : f96_l19 a order z15b (loopF (fun go x=>f96_l19 a order z15b go x.1 x.2) m) i l5 = some z := q
   unfold f96_l19 at q
   refine OL (OL (cI q (fun q=>?_) (fun q=>?_)))
   ·refine OL (OL ?_)
    obtain ⟨r25,hr25,q⟩ := bE q
    refine OL (AI f97_in (cV (cQ C97 (z15b,i) r25 [] true C97_holds hr25 rfl rfl (R2 (AI (fun _=>rfl) (R2 (AI TV (AI TV (OL (gI q (fun q=>?_)))))))))))
    refine OL (OL ?_)
    obtain ⟨z26,hz26,q⟩ := bE q
    refine lI (Int×LI) LI (fun x=>⟨[(1,.dat T1 order),(2,P0 0 0),(4,P0 1 0),(6,O0 2),(9,P0 3 0),(10,.dat T2 i),(11,O0 4),(13,O0 5),(14,.dat T2 x.1)],[(0,.cells [(.d T1 a.1),(.d T1 a.2)]),(1,.cells [N0,N0]),(2,.arr 3 T2 z15b),(3,.cells [(.osl 6),(.osl 7)]),(4,.arr 3 T2 r25.2),(5,.arr 3 T2 x.2),(6,.arr 3 T2 q14_11.1),(7,.arr 33 T2 l5)],8⟩) (fun z=>[(8,⟨[(1,.dat T1 order),(2,P0 0 0),(4,P0 1 0),(6,O0 2),(9,P0 3 0),(10,.dat T2 i),(13,O0 4)],[(0,.cells [(.d T1 a.1),(.d T1 a.2)]),(1,.cells [N0,N0]),(2,.arr 3 T2 z15b),(3,.cells [(.osl 5),(.osl 6)]),(4,.arr 3 T2 z),(5,.arr 3 T2 q14_11.1),(6,.arr 33 T2 l5)],7⟩)]) (loopF (fun go x=>f96_l20 order r25 go x.1 x.2)) fuelN ((0:Int),(List.replicate (Int.toNat (List.length r25.2:Int)) (0:Int))) z26 (AI hz26 (AI (E4 [(0,some 0),(1,some 1),(2,some 2),(3,some 3),(4,some 6),(5,some 7),(6,some 4),(7,some 5)] (R4 (AI (R6 TV) (R8 TV)))) (AI (fun _ _ h=>lZ h) (AI (fun m=>curI (fun k=>fun l5_2 z q=>?_)) ?_))))
    ·have q : f96_l20 order r25 (loopF (fun go x=>f96_l20 order r25 go x.1 x.2) m) k l5_2 = some z := q
     unfold f96_l20 at q
     refine OL (OL (cI q (fun q=>?_) (fun q=>?_)))
     ·refine OL (EI (.take 0 (.take 1 (.take 2 (.take 3 (.take 4 (.take 5 (.take 6 (.take 7 (.take 8 (.take 9 (.alt 10 .done .done))))))))))) (EI [] (EI [] (AI rfl (gI q (fun q=>?_))))))
      refine gI q (fun q=>?_)
      refine gI q (fun q=>?_)
      refine AI TV (OL (EI ((i64.wrap (k + (1:Int))),(List.set l5_2 (Int.toNat (rd (0:Int) order k)) (rd (0:Int) r25.2 k))) (AI q (E4 I8 (R4 (AI (R6 TV) (R8 TV)))))))
     cases sE q
     refine E4 [(0,some 0),(1,some 1),(2,some 2),(3,some 3),(4,some 5),(5,some 6),(6,some 7)] (R3 (AI (R5 TV) (R7 TV)))
    refine AI (OL ?_) TV
    obtain ⟨q24_10,hq24_10,q⟩ := bE q
    refine OL (AI f98_in (cV (cQ C98 (a.1,z26) q24_10 [] true C98_holds hq24_10 rfl rfl (R2 (AI (fun _=>rfl) (R2 (AI TV (AI TV (EI (.take 0 (.take 1 (.take 2 (.take 3 (.take 4 (.take 5 (.take 6 (.take 7 (.take 8 (.alt 9 .done .done)))))))))) (EI [] (EI [] (AI rfl (gI q (fun q=>?_))))))))))))))
    refine gI q (fun q=>?_)
    refine AI TV (OL (EI ((i64.wrap (i + (1:Int))),(List.set l5 (Int.toNat i) (rd (0:Int) a.2 q24_10.1))) (AI q (E4 [(0,some 0),(1,some 1),(2,some 2),(3,some 3),(4,some 5),(5,some 6)] (R3 (AI (R4 TV) (R6 TV)))))))
   cases sE q
   refine E4 [(0,some 1),(1,some 3),(2,some 4),(3,some 5)] (AI rfl (AI (R2 TV) (R4 TV)))
  refine AI (OL (OL ?_)) TV
  cases sE q
  refine AI rfl (E4 [(0,some 2),(1,some 3)] (R2 (AJ (R2 TV))))
 dsimp only [sumF] at q
 refine AI ?_ TV
 cases sE q
 refine AI rfl (E4 [(0,none),(1,none)] (R2 (AJ (R2 TV))))
theorem C96_holds : HP C96 96 := hH Tryz.f96 (by kernel_rfl) rfl (fun x y q=>C96_vc x.1 x.2 y q)
theorem f96_in : InP 96 := inP (by kernel_rfl)
def f54 (a : LI×LI) : Option (Int×LI×LI) :=
 bindF (f27 (a.1,a.2)) fun r1 =>
 bif (!r1) then
 some ((1:Int),[],[])
 else
 bif ((List.length a.1:Int) != (2:Int)) then
 some ((4:Int),[],[])
 else
 bindF (f96 (a.1,a.2) ([(1:Int),(0:Int)])) fun r2 =>
 some (r2.1,r2.2.1,r2.2.2)
def C54 : Con where
 X := LI×LI
 Y := Int×LI×LI
 e := 0
 args x := [.dat T3 x]
 hin x := []
 F x := f54 x
 ret y := [.raw true [(.osl 0),(.osl 1)],.dat T2 y.1]
 hout y := [(0,.arr 3 T2 y.2.1),(1,.arr 33 T2 y.2.2)]
 nout := 2
theorem C54_vc (a : LI×LI) (y : Int×LI×LI) (q : f54 a = some y) : VC Tryz.f54 C54 a y := by
 unfold f54 at q
 refine OL (OL (OL ?_))
 obtain ⟨r1,hr1,q⟩ := bE q
 refine OL (AI f27_in (cV (cQ C27 (a.1,a.2) r1 [] false C27_holds hr1 rfl rfl (R2 (K0 (cI q (fun q=>?_) (fun q=>?_)))))))
 ·refine OL (OL ?_)
  cases sE q
  refine AI rfl (E4 [(0,none),(1,none)] (R2 (AJ (R2 TV))))
 refine OL (OL (cI q (fun q=>?_) (fun q=>?_)))
 ·refine OL (OL ?_)
  cases sE q
  refine AI rfl (E4 [(0,none),(1,none)] (R2 (AJ (R2 TV))))
 refine OL (OL ?_)
 obtain ⟨r2,hr2,q⟩ := bE q
 refine OL (AI f96_in (cV (cQ C96 ((a.1,a.2),[(1:Int),(0:Int)]) r2 [] true C96_holds hr2 rfl rfl (R3 (AI (fun _=>rfl) (R2 (AI TV (AI TV (OL ?_)))))))))
 cases sE q
 refine AI rfl (E4 [(0,some 3),(1,some 4)] (R2 (AJ (R2 TV))))
theorem C54_holds : HP C54 54 := hH Tryz.f54 (by kernel_rfl) rfl (fun x y q=>C54_vc x y q)
theorem f54_in : InP 54 := inP (by kernel_rfl)
def f56 (k:Int) : Option Int :=
 bif (decide (k < (-1000000:Int))) then
 some (-1000000:Int)
 else
 bif (decide (k > (1000000:Int))) then
 some (-1000000:Int)
 else
 some k
def C56 : Con where
 X := Int
 Y := Int
 e := 0
 args x := [.dat T2 x]
 hin x := []
 F x := f56 x
 ret y := [.dat T2 y]
 hout y := []
 nout := 0
theorem C56_vc (k:Int) (y:Int) (q : f56 k = some y) : VC Tryz.f56 C56 k y := by
 unfold f56 at q
 refine OL (OL (OL (cN q (fun q=>?_) (fun q=>?_))))
 ·refine gY (cF (cI q (fun q=>?_) (fun q=>?_)))
  ·cases sE q
   refine OL (AI rfl (E4 [] (R2 (AI TV TV))))
  cases sE q
  refine OL (AI rfl (E4 [] (R2 (AI TV TV))))
 refine gN (cT (cT (OL ?_)))
 cases sE q
 refine AI rfl (E4 [] (R2 (AI TV TV)))
theorem C56_holds : HP C56 56 := hH Tryz.f56 (by kernel_rfl) rfl (fun x y q=>C56_vc x y q)
theorem f56_in : InP 56 := inP (by kernel_rfl)
def f55_j3 (a : LI×LI) (side:Int) : Option Bool :=
 bindF (f27 (a.1,a.2)) fun r6 =>
 bif (!r6) then
 some true
 else
 bif (decide (side < (0:Int))) then
 some true
 else
 some (decide (side ≥ (List.length a.1:Int)))
def f55_j2 (a : LI×LI) (side:Int) : Option (Sum Unit Unit) :=
 bindF (f55_j3 a side) fun z5 =>
 bif z5 then
 some (Sum.inr ())
 else
 some (Sum.inl ())
def f55_j16 (side:Int) (r18 : Bool×LI) (k:Int) : Option Unit :=
 guardF (0 ≤ side ∧ side ≤ (List.length r18.2:Int)) <|
 guardF (0 ≤ side ∧ side ≤ (List.length r18.2:Int)) <|
 guardF ((List.length ([] : LI) + List.length (List.take (Int.toNat side) r18.2)) * 8 ≤ 140737488355328) <|
 guardF ((List.length (([] : LI) ++ (List.take (Int.toNat side) r18.2)) + List.length ([k])) * 8 ≤ 140737488355328) <|
 guardF ((List.length ((([] : LI) ++ (List.take (Int.toNat side) r18.2)) ++ ([k])) + List.length (List.drop (Int.toNat side) r18.2)) * 8 ≤ 140737488355328) <|
 some ()
def f55_l15 (a : LI×LI) (side:Int) (r18 : Bool×LI) (go : (Int×Bool×Int×Int×Int×Int) → Option (Bool×Int×Int×Int×Int)) (k:Int) (c4_0 : Bool) (c4_1:Int) (c4_2:Int) (c4_3:Int) (c4_4:Int) : Option (Bool×Int×Int×Int×Int) :=
 guardF (0 ≤ side ∧ side < (List.length a.1:Int)) <|
 bif (decide (k < (rd (0:Int) a.1 side))) then
 bindF (f55_j16 side r18 k) fun z22 =>
 bindF (f98 a.1 (((([] : LI) ++ (List.take (Int.toNat side) r18.2)) ++ ([k])) ++ (List.drop (Int.toNat side) r18.2))) fun q13_12 =>
 guardF (0 ≤ q13_12.1 ∧ q13_12.1 < (List.length a.2:Int)) <|
 bindF (f99 (rd (0:Int) a.2 q13_12.1)) fun q15_6 =>
 bindF (f92 c4_0 c4_1 c4_2 c4_3 c4_4 q15_6.1 q15_6.2 (0:Int) (0:Int) (0:Int)) fun q15_7 =>
 go ((i64.wrap (k + (1:Int))),q15_7.1,q15_7.2.1,q15_7.2.2.1,q15_7.2.2.2.1,q15_7.2.2.2.2)
 else
 some (c4_0,c4_1,c4_2,c4_3,c4_4)
def f55_l12 (a : LI×LI) (side:Int) (go : (Int×LI) → Option LI) (i:Int) (l5 : LI) : Option LI :=
 bif (decide (i < (List.length l5:Int))) then
 bindF (f97 ((([] : LI) ++ (List.take (Int.toNat side) a.1)) ++ (List.drop (Int.toNat (i64.wrap (side + (1:Int)))) a.1)) i) fun r18 =>
 bindF (loopF (fun go x=>f55_l15 a side r18 go x.1 x.2.1 x.2.2.1 x.2.2.2.1 x.2.2.2.2.1 x.2.2.2.2.2) fuelN ((0:Int),false,(0:Int),(0:Int),(0:Int),(0:Int))) fun z21 =>
 bindF (f94 z21.1 z21.2.1 z21.2.2.1 z21.2.2.2.1 z21.2.2.2.2) fun q16_4 =>
 guardF (0 ≤ i ∧ i < (List.length l5:Int)) <|
 go ((i64.wrap (i + (1:Int))),(List.set l5 (Int.toNat i) q16_4))
 else
 some l5
def f55 (a : LI×LI) (side:Int) : Option (Int×LI×LI) :=
 bindF (f55_j2 a side) fun z3 =>
 sumF z3 (fun z3a =>
 guardF (0 ≤ side ∧ side ≤ (List.length a.1:Int)) <|
 guardF (0 ≤ (i64.wrap (side + (1:Int))) ∧ (i64.wrap (side + (1:Int))) ≤ (List.length a.1:Int)) <|
 guardF ((List.length ([] : LI) + List.length (List.take (Int.toNat side) a.1)) * 8 ≤ 140737488355328) <|
 guardF ((List.length (([] : LI) ++ (List.take (Int.toNat side) a.1)) + List.length (List.drop (Int.toNat (i64.wrap (side + (1:Int)))) a.1)) * 8 ≤ 140737488355328) <|
 bindF (f87 ((([] : LI) ++ (List.take (Int.toNat side) a.1)) ++ (List.drop (Int.toNat (i64.wrap (side + (1:Int)))) a.1)) (0:Int)) fun q3_12 =>
 bindF (loopF (fun go x=>f55_l12 a side go x.1 x.2) fuelN ((0:Int),q3_12.2)) fun z17 =>
 some ((0:Int),q3_12.1,z17)) (fun z3b =>
 some ((1:Int),[],[]))
def C55 : Con where
 X := (LI×LI)×Int
 Y := Int×LI×LI
 e := 0
 args x := [.dat T3 x.1,.dat T2 x.2]
 hin x := []
 F x := f55 x.1 x.2
 ret y := [.raw true [(.osl 0),(.osl 1)],.dat T2 y.1]
 hout y := [(0,.arr 3 T2 y.2.1),(1,.arr 33 T2 y.2.2)]
 nout := 2
theorem C55_vc (a : LI×LI) (side:Int) (y : Int×LI×LI) (q : f55 a side = some y) : VC Tryz.f55 C55 (a,side) y := by
 unfold f55 at q
 refine OL ?_
 obtain ⟨z3,hz3,q⟩ := bE q
 refine OQ ⟨Sum.elim (fun z3a=>[(0,⟨[(1,.dat T2 side),(2,P0 0 0),(4,P0 1 0)],[(0,.cells [(.d T1 a.1),(.d T1 a.2)]),(1,.cells [N0,N0])],2⟩)]) (fun z3b=>[(1,⟨[(4,P0 0 0),(5,D0 1)],[(0,.cells [N0,N0])],1⟩)]) z3,?_,?_⟩
 ·have q := hz3
  clear hz3
  unfold f55_j2 at q
  obtain ⟨z5,hz5,q⟩ := bE q
  refine OQ ⟨[(0,⟨[(1,.dat T2 side),(2,P0 0 0),(4,P0 1 0),(29,.dat .bool z5)],[(0,.cells [(.d T1 a.1),(.d T1 a.2)]),(1,.cells [N0,N0])],2⟩)],?_,?_⟩
  ·have q := hz5
   clear hz5
   unfold f55_j3 at q
   obtain ⟨r6,hr6,q⟩ := bE q
   refine OL (AI f27_in (cV (cQ C27 (a.1,a.2) r6 [] false C27_holds hr6 rfl rfl (R2 (K0 (cN q (fun q=>?_) (fun q=>?_)))))))
   ·refine gY (cF (cN q (fun q=>?_) (fun q=>?_)))
    ·refine gY (gY (gY (gY (cF ?_))))
     cases sE q
     refine E4 I2 (R3 (AI (R2 TV) (R2 TV)))
    refine gN (gN (gN (gN (cT ?_))))
    cases sE q
    refine E4 I2 (R3 (AI (R2 TV) (R2 TV)))
   refine gN (cT (gN (gN (gN (gN (gN (cT ?_)))))))
   cases sE q
   refine E4 I2 (R3 (AI (R2 TV) (R2 TV)))
  refine AI (cI q (fun q=>?_) (fun q=>?_)) TV
  ·refine OL (OL ?_)
   cases sE q
   refine E4 [(0,some 1)] (R2 (AJ (AI rfl TV)))
  cases sE q
  refine E4 I2 (R2 (AI (R2 TV) (R2 TV)))
 rcases z3 with z3a | z3b
 ·dsimp only [sumF] at q
  refine AI (OL (EI (.take 1 (.take 2 (.take 3 (.take 4 (.take 6 (.take 7 (.take 8 (.take 9 (.take 10 (.alt 0 (.alt 5 (.alt 11 (.take 12 .done) .done) .done) .done)))))))))) (EI [] (EI [] (AI rfl (gI q (fun q=>?_))))))) TV
  refine gI q (fun q=>?_)
  refine AI TV (OL (AI TV (OL (gI q (fun q=>?_)))))
  refine AI TV (OL (gI q (fun q=>?_)))
  refine OL ?_
  obtain ⟨q3_12,hq3_12,q⟩ := bE q
  refine OL (AI f87_in (cV (cQ C87 (((([] : LI) ++ (List.take (Int.toNat side) a.1)) ++ (List.drop (Int.toNat (i64.wrap (side + (1:Int)))) a.1)),(0:Int)) q3_12 [] true C87_holds hq3_12 rfl rfl (R2 (AI (fun _=>rfl) (R2 (AI TV (AI TV (OL (OL (OL ?_)))))))))))
  obtain ⟨z17,hz17,q⟩ := bE q
  refine lI (Int×LI) LI (fun x=>⟨[(1,.dat T2 side),(2,P0 0 0),(4,P0 1 0),(6,O0 2),(7,P0 3 0),(8,.dat T2 x.1)],[(0,.cells [(.d T1 a.1),(.d T1 a.2)]),(1,.cells [N0,N0]),(2,.arr 3 T2 ((([] : LI) ++ (List.take (Int.toNat side) a.1)) ++ (List.drop (Int.toNat (i64.wrap (side + (1:Int)))) a.1))),(3,.cells [(.osl 4),(.osl 5)]),(4,.arr 3 T2 q3_12.1),(5,.arr 33 T2 x.2)],6⟩) (fun z=>[(2,⟨[(4,P0 0 0),(7,P0 1 0)],[(0,.cells [N0,N0]),(1,.cells [(.osl 2),(.osl 3)]),(2,.arr 3 T2 q3_12.1),(3,.arr 33 T2 z)],4⟩)]) (loopF (fun go x=>f55_l12 a side go x.1 x.2)) fuelN ((0:Int),q3_12.2) z17 (AI hz17 (AI (E4 [(0,some 0),(1,some 1),(2,some 4),(3,some 7),(4,some 5),(5,some 6)] (R3 (AI (R4 TV) (R6 TV)))) (AI (fun _ _ h=>lZ h) (AI (fun m=>curI (fun i=>fun l5 z q=>?_)) ?_))))
  ·have q : f55_l12 a side (loopF (fun go x=>f55_l12 a side go x.1 x.2) m) i l5 = some z := q
   unfold f55_l12 at q
   refine OL (OL (cI q (fun q=>?_) (fun q=>?_)))
   ·refine OL (OL ?_)
    obtain ⟨r18,hr18,q⟩ := bE q
    refine OL (AI f97_in (cV (cQ C97 (((([] : LI) ++ (List.take (Int.toNat side) a.1)) ++ (List.drop (Int.toNat (i64.wrap (side + (1:Int)))) a.1)),i) r18 [] true C97_holds hr18 rfl rfl (R2 (AI (fun _=>rfl) (R2 (AI TV (AI TV (OL (OL (OL (OL ?_))))))))))))
    obtain ⟨z21,hz21,q⟩ := bE q
    refine lI (Int×Bool×Int×Int×Int×Int) (Bool×Int×Int×Int×Int) (fun x=>⟨[(1,.dat T2 side),(2,P0 0 0),(4,P0 1 0),(6,O0 2),(7,P0 3 0),(8,.dat T2 i),(9,.dat T1 r18.2),(11,P0 4 0),(12,.dat T2 x.1)],[(0,.cells [(.d T1 a.1),(.d T1 a.2)]),(1,.cells [N0,N0]),(2,.arr 3 T2 ((([] : LI) ++ (List.take (Int.toNat side) a.1)) ++ (List.drop (Int.toNat (i64.wrap (side + (1:Int)))) a.1))),(3,.cells [(.osl 5),(.osl 6)]),(4,.cells [(.d .bool x.2.1),(.d T4 x.2.2.1),(.d T4 x.2.2.2.1),(.d T4 x.2.2.2.2.1),(.d T4 x.2.2.2.2.2)]),(5,.arr 3 T2 q3_12.1),(6,.arr 33 T2 l5)],7⟩) (fun z=>[(4,⟨[(1,.dat T2 side),(2,P0 0 0),(4,P0 1 0),(6,O0 2),(7,P0 3 0),(8,.dat T2 i),(11,P0 4 0)],[(0,.cells [(.d T1 a.1),(.d T1 a.2)]),(1,.cells [N0,N0]),(2,.arr 3 T2 ((([] : LI) ++ (List.take (Int.toNat side) a.1)) ++ (List.drop (Int.toNat (i64.wrap (side + (1:Int)))) a.1))),(3,.cells [(.osl 5),(.osl 6)]),(4,.cells [(.d .bool z.1),(.d T4 z.2.1),(.d T4 z.2.2.1),(.d T4 z.2.2.2.1),(.d T4 z.2.2.2.2)]),(5,.arr 3 T2 q3_12.1),(6,.arr 33 T2 l5)],7⟩)]) (loopF (fun go x=>f55_l15 a side r18 go x.1 x.2.1 x.2.2.1 x.2.2.2.1 x.2.2.2.2.1 x.2.2.2.2.2)) fuelN ((0:Int),false,(0:Int),(0:Int),(0:Int),(0:Int)) z21 (AI hz21 (AI (E4 [(0,some 0),(1,some 1),(2,some 2),(3,some 3),(4,some 7),(5,some 4),(6,some 5)] (R5 (AI (R5 TV) (R7 TV)))) (AI (fun _ _ h=>lZ h) (AI (fun m=>curI (fun k=>curI (fun c4_0=>curI (fun c4_1=>curI (fun c4_2=>curI (fun c4_3=>fun c4_4 z q=>?_)))))) ?_))))
    ·have q : f55_l15 a side r18 (loopF (fun go x=>f55_l15 a side r18 go x.1 x.2.1 x.2.2.1 x.2.2.2.1 x.2.2.2.2.1 x.2.2.2.2.2) m) k c4_0 c4_1 c4_2 c4_3 c4_4 = some z := q
     unfold f55_l15 at q
     refine OL (OL (gI q (fun q=>?_)))
     refine cI q (fun q=>?_) (fun q=>?_)
     ·refine OL ?_
      obtain ⟨z22,hz22,q⟩ := bE q
      refine OQ ⟨[(0,⟨[(1,.dat T2 side),(2,P0 0 0),(4,P0 1 0),(6,O0 2),(7,P0 3 0),(8,.dat T2 i),(9,.dat T1 r18.2),(11,P0 4 0),(12,.dat T2 k),(13,O0 5)],[(0,.cells [(.d T1 a.1),(.d T1 a.2)]),(1,.cells [N0,N0]),(2,.arr 3 T2 ((([] : LI) ++ (List.take (Int.toNat side) a.1)) ++ (List.drop (Int.toNat (i64.wrap (side + (1:Int)))) a.1))),(3,.cells [(.osl 6),(.osl 7)]),(4,.cells [(.d .bool c4_0),(.d T4 c4_1),(.d T4 c4_2),(.d T4 c4_3),(.d T4 c4_4)]),(5,.arr 3 T2 (((([] : LI) ++ (List.take (Int.toNat side) r18.2)) ++ ([k])) ++ (List.drop (Int.toNat side) r18.2))),(6,.arr 3 T2 q3_12.1),(7,.arr 33 T2 l5)],8⟩)],?_,?_⟩
      ·have q := hz22
       clear hz22
       unfold f55_j16 at q
       obtain ⟨g13_0,q⟩ := gE q
       obtain ⟨g13_1,q⟩ := gE q
       obtain ⟨g13_2,q⟩ := gE q
       obtain ⟨g13_3,q⟩ := gE q
       obtain ⟨g13_4,q⟩ := gE q
       refine EI (.take 1 (.take 2 (.take 3 (.take 5 (.take 8 (.take 9 (.take 10 (.alt 0 (.alt 4 (.alt 6 (.alt 7 (.alt 11 (.take 12 .done) .done) .done) .done) (.alt 6 (.alt 4 (.alt 7 (.alt 11 (.take 12 .done) .done) .done) .done) .done)) (.alt 6 (.alt 0 (.alt 4 (.alt 7 (.alt 11 (.take 12 .done) .done) .done) .done) .done) .done))))))))) (EI [] (EI [] (AI rfl (AI g13_0 (AI g13_0 (AI (AI TV ?_) ?_))))))
       ·refine OL (AI TV (OL (AI TV (OL (AI g13_2 (AI TV (OL (AI g13_3 (AI TV (OL (AI g13_4 ?_)))))))))))
        cases sE q
        refine E4 [(0,some 0),(1,some 1),(2,some 2),(3,some 3),(4,some 4),(5,some 11),(6,some 5),(7,some 6)] (R5 (AI (R6 TV) (R8 TV)))
       refine OL (AI (AI TV ?_) ?_)
       ·refine OL (AI TV (OL (AI g13_2 (AI TV (OL (AI g13_3 (AI TV (OL (AI g13_4 ?_)))))))))
        cases sE q
        refine E4 [(0,some 0),(1,some 1),(2,some 2),(3,some 3),(4,some 4),(5,some 11),(6,some 5),(7,some 6)] (R5 (AI (R6 TV) (R8 TV)))
       refine OL (AI g13_2 (AI TV (OL (AI TV (OL (AI g13_3 (AI TV (OL (AI g13_4 ?_)))))))))
       cases sE q
       refine E4 [(0,some 0),(1,some 1),(2,some 2),(3,some 3),(4,some 4),(5,some 11),(6,some 5),(7,some 6)] (R5 (AI (R6 TV) (R8 TV)))
      refine AI (OL ?_) TV
      obtain ⟨q13_12,hq13_12,q⟩ := bE q
      refine OL (AI f98_in (cV (cQ C98 (a.1,(((([] : LI) ++ (List.take (Int.toNat side) r18.2)) ++ ([k])) ++ (List.drop (Int.toNat side) r18.2))) q13_12 [] true C98_holds hq13_12 rfl rfl (R2 (AI (fun _=>rfl) (R2 (AI TV (AI TV (EI (.take 0 (.take 1 (.take 2 (.take 3 (.take 4 (.take 5 (.alt 6 (.alt 7 (.alt 8 .done .done) .done) .done))))))) (EI [(8,[4])] (EI [] (AI rfl (gI q (fun q=>?_))))))))))))))
      refine AI TV ?_
      obtain ⟨q15_6,hq15_6,q⟩ := bE q
      refine OL (AI f99_in (cV (cQ C99 (rd (0:Int) a.2 q13_12.1) q15_6 [] false C99_holds hq15_6 rfl rfl (AI rfl (K0 (AI TV ?_))))))
      obtain ⟨q15_7,hq15_7,q⟩ := bE q
      refine OL (AI f92_in (cV (cQ C92 (c4_0,c4_1,c4_2,c4_3,c4_4,q15_6.1,q15_6.2,(0:Int),(0:Int),(0:Int)) q15_7 [] false C92_holds hq15_7 rfl rfl (AI NH (R2 (AI (R2 TV) (AI TV (AI TV (OL (EI ((i64.wrap (k + (1:Int))),q15_7.1,q15_7.2.1,q15_7.2.2.1,q15_7.2.2.2.1,q15_7.2.2.2.2) (AI q (E4 [(0,some 0),(1,some 1),(2,some 2),(3,some 3),(4,some 4),(5,some 6),(6,some 7)] (R5 (AI (R5 TV) (R7 TV)))))))))))))))
     cases sE q
     refine E4 I7 (R3 (AI (R5 TV) (R7 TV)))
    refine AI (EI (.take 0 (.take 1 (.take 2 (.take 3 (.alt 4 (.take 5 (.alt 6 .done .done)) .done))))) (EI [] (EI [] (AI rfl (AI TV ?_))))) TV
    obtain ⟨q16_4,hq16_4,q⟩ := bE q
    refine OL (AI f94_in (cV (cQ C94 (z21.1,z21.2.1,z21.2.2.1,z21.2.2.2.1,z21.2.2.2.2) q16_4 [] false C94_holds hq16_4 rfl rfl (AI NH (R2 (AJ (AI TV (gI q (fun q=>?_)))))))))
    refine AI TV (OL (EI ((i64.wrap (i + (1:Int))),(List.set l5 (Int.toNat i) q16_4)) (AI q (E4 [(0,some 0),(1,some 1),(2,some 2),(3,some 3),(4,some 5),(5,some 6)] (R3 (AI (R4 TV) (R6 TV)))))))
   cases sE q
   refine E4 [(0,some 1),(1,some 3),(2,some 4),(3,some 5)] (AI rfl (AI (R2 TV) (R4 TV)))
  refine AI (OL (OL ?_)) TV
  cases sE q
  refine AI rfl (E4 [(0,some 2),(1,some 3)] (R2 (AJ (R2 TV))))
 dsimp only [sumF] at q
 refine AI ?_ TV
 cases sE q
 refine AI rfl (E4 [(0,none),(1,none)] (R2 (AJ (R2 TV))))
theorem C55_holds : HP C55 55 := hH Tryz.f55 (by kernel_rfl) rfl (fun x y q=>C55_vc x.1 x.2 y q)
theorem f55_in : InP 55 := inP (by kernel_rfl)
def f100_l1 (a : LI×LI) (go : (Int×Bool×Int×Int×Int×Int) → Option (Bool×Int×Int×Int×Int)) (i:Int) (c2_0 : Bool) (c2_1:Int) (c2_2:Int) (c2_3:Int) (c2_4:Int) : Option (Bool×Int×Int×Int×Int) :=
 bif (decide (i < (List.length a.2:Int))) then
 guardF (0 ≤ i ∧ i < (List.length a.2:Int)) <|
 bindF (f99 (rd (0:Int) a.2 i)) fun q5_6 =>
 bindF (f92 c2_0 c2_1 c2_2 c2_3 c2_4 q5_6.1 q5_6.2 (0:Int) (0:Int) (0:Int)) fun q5_7 =>
 go ((i64.wrap (i + (1:Int))),q5_7.1,q5_7.2.1,q5_7.2.2.1,q5_7.2.2.2.1,q5_7.2.2.2.2)
 else
 some (c2_0,c2_1,c2_2,c2_3,c2_4)
def f100 (a : LI×LI) : Option (Bool×Int×Int×Int×Int) :=
 bindF (loopF (fun go x=>f100_l1 a go x.1 x.2.1 x.2.2.1 x.2.2.2.1 x.2.2.2.2.1 x.2.2.2.2.2) fuelN ((0:Int),false,(0:Int),(0:Int),(0:Int),(0:Int))) fun z1 =>
 some (z1.1,z1.2.1,z1.2.2.1,z1.2.2.2.1,z1.2.2.2.2)
def C100 : Con where
 X := LI×LI
 Y := Bool×Int×Int×Int×Int
 e := 0
 args x := [.dat T3 x]
 hin x := []
 F x := f100 x
 ret y := [.raw true [(.d .bool y.1),(.d T4 y.2.1),(.d T4 y.2.2.1),(.d T4 y.2.2.2.1),(.d T4 y.2.2.2.2)]]
 hout y := []
 nout := 0
theorem C100_vc (a : LI×LI) (y : Bool×Int×Int×Int×Int) (q : f100 a = some y) : VC Tryz.f100 C100 a y := by
 unfold f100 at q
 refine OL (OL (OL (OL (OL ?_))))
 obtain ⟨z1,hz1,q⟩ := bE q
 refine lI (Int×Bool×Int×Int×Int×Int) (Bool×Int×Int×Int×Int) (fun x=>⟨[(1,P0 0 0),(2,P0 1 0),(3,P0 2 0),(4,.dat T2 x.1)],[(0,.cells [(.d T1 a.1),(.d T1 a.2)]),(1,.cells [(.d .bool false),(.d T4 (0:Int)),(.d T4 (0:Int)),(.d T4 (0:Int)),(.d T4 (0:Int))]),(2,.cells [(.d .bool x.2.1),(.d T4 x.2.2.1),(.d T4 x.2.2.2.1),(.d T4 x.2.2.2.2.1),(.d T4 x.2.2.2.2.2)])],3⟩) (fun z=>[(2,⟨[(2,P0 0 0),(3,P0 1 0)],[(0,.cells [(.d .bool false),(.d T4 (0:Int)),(.d T4 (0:Int)),(.d T4 (0:Int)),(.d T4 (0:Int))]),(1,.cells [(.d .bool z.1),(.d T4 z.2.1),(.d T4 z.2.2.1),(.d T4 z.2.2.2.1),(.d T4 z.2.2.2.2)])],2⟩)]) (loopF (fun go x=>f100_l1 a go x.1 x.2.1 x.2.2.1 x.2.2.2.1 x.2.2.2.2.1 x.2.2.2.2.2)) fuelN ((0:Int),false,(0:Int),(0:Int),(0:Int),(0:Int)) z1 (AI hz1 (AI (E4 I3 (R2 (AI (R3 TV) (R3 TV)))) (AI (fun _ _ h=>lZ h) (AI (fun m=>curI (fun i=>curI (fun c2_0=>curI (fun c2_1=>curI (fun c2_2=>curI (fun c2_3=>fun c2_4 z q=>?_)))))) ?_))))
 ·have q : f100_l1 a (loopF (fun go x=>f100_l1 a go x.1 x.2.1 x.2.2.1 x.2.2.2.1 x.2.2.2.2.1 x.2.2.2.2.2) m) i c2_0 c2_1 c2_2 c2_3 c2_4 = some z := q
  unfold f100_l1 at q
  refine OL (OL (cI q (fun q=>?_) (fun q=>?_)))
  ·refine OL (EI (.take 0 (.take 1 (.take 2 (.take 3 (.take 4 (.take 5 (.alt 6 (.alt 7 (.alt 8 .done .done) .done) .done))))))) (EI [(8,[2])] (EI [] (AI rfl (gI q (fun q=>?_))))))
   refine AI TV ?_
   obtain ⟨q5_6,hq5_6,q⟩ := bE q
   refine OL (AI f99_in (cV (cQ C99 (rd (0:Int) a.2 i) q5_6 [] false C99_holds hq5_6 rfl rfl (AI rfl (K0 (AI TV ?_))))))
   obtain ⟨q5_7,hq5_7,q⟩ := bE q
   refine OL (AI f92_in (cV (cQ C92 (c2_0,c2_1,c2_2,c2_3,c2_4,q5_6.1,q5_6.2,(0:Int),(0:Int),(0:Int)) q5_7 [] false C92_holds hq5_7 rfl rfl (AI NH (R2 (AI (R2 TV) (AI TV (AI TV (OL (EI ((i64.wrap (i + (1:Int))),q5_7.1,q5_7.2.1,q5_7.2.2.1,q5_7.2.2.2.1,q5_7.2.2.2.2) (AI q (E4 I3 (R2 (AI (R3 TV) (R3 TV)))))))))))))))
  cases sE q
  refine E4 [(0,some 1),(1,some 2)] (AI rfl (AI (R2 TV) (R2 TV)))
 refine AI (OL (OL ?_)) TV
 cases sE q
 refine AI rfl (E4 [] (AI rfl (AJ TV)))
theorem C100_holds : HP C100 100 := hH Tryz.f100 (by kernel_rfl) rfl (fun x y q=>C100_vc x y q)
theorem f100_in : InP 100 := inP (by kernel_rfl)
def f58 (a : LI×LI) : Option Int :=
 bindF (f100 (a.1,a.2)) fun r1 =>
 bindF (f94 r1.1 r1.2.1 r1.2.2.1 r1.2.2.2.1 r1.2.2.2.2) fun r2 =>
 some r2
def C58 : Con where
 X := LI×LI
 Y := Int
 e := 0
 args x := [.dat T3 x]
 hin x := []
 F x := f58 x
 ret y := [.dat T2 y]
 hout y := []
 nout := 0
theorem C58_vc (a : LI×LI) (y:Int) (q : f58 a = some y) : VC Tryz.f58 C58 a y := by
 unfold f58 at q
 refine OL (OL ?_)
 obtain ⟨r1,hr1,q⟩ := bE q
 refine OL (AI f100_in (cV (cQ C100 (a.1,a.2) r1 [] false C100_holds hr1 rfl rfl (R2 (K0 ?_)))))
 obtain ⟨r2,hr2,q⟩ := bE q
 refine OL (AI f94_in (cV (cQ C94 (r1.1,r1.2.1,r1.2.2.1,r1.2.2.2.1,r1.2.2.2.2) r2 [] false C94_holds hr2 rfl rfl (AI NH (R2 (AJ (AI TV ?_)))))))
 cases sE q
 refine AI rfl (E4 [] (R2 (AI TV TV)))
theorem C58_holds : HP C58 58 := hH Tryz.f58 (by kernel_rfl) rfl (fun x y q=>C58_vc x y q)
theorem f58_in : InP 58 := inP (by kernel_rfl)
def f57 (v:Int) : Option (LI×LI) :=
 bindF (f87 ([]) v) fun r1 =>
 some (r1.1,r1.2)
def C57 : Con where
 X := Int
 Y := LI×LI
 e := 0
 args x := [.dat T2 x]
 hin x := []
 F x := f57 x
 ret y := [.raw true [(.osl 0),(.osl 1)]]
 hout y := [(0,.arr 3 T2 y.1),(1,.arr 33 T2 y.2)]
 nout := 2
theorem C57_vc (v:Int) (y : LI×LI) (q : f57 v = some y) : VC Tryz.f57 C57 v y := by
 unfold f57 at q
 refine OL (OL ?_)
 obtain ⟨r1,hr1,q⟩ := bE q
 refine OL (AI f87_in (cV (cQ C87 ([],v) r1 [] false C87_holds hr1 rfl rfl (R2 (K0 (OL ?_))))))
 cases sE q
 refine AI rfl (E4 [(0,some 1),(1,some 2)] (AI rfl (AJ (R2 TV))))
theorem C57_holds : HP C57 57 := hH Tryz.f57 (by kernel_rfl) rfl (fun x y q=>C57_vc x y q)
theorem f57_in : InP 57 := inP (by kernel_rfl)
def f101_j4 (r1:Int) (rest:Int) (r9:Int) : Option Bool :=
 bif ((Int.fdiv rest (2 ^ min (Int.toNat (63:Int)) u64.bits)) == (1:Int)) then
 some true
 else
 some (decide ((bitsOf IntKind.u64 (fun p q=>p ||| q) (u64.wrap (rest * 2 ^ min (Int.toNat (1:Int)) u64.bits)) r9) ≥ r1))
def f101_l3 (a_M_0:Int) (a_M_1:Int) (a_M_2:Int) (a_M_3:Int) (r1:Int) (go : (Int×Int×Int×Int×Int×Int) → Option (Int×Int×Int×Int×Int)) (rest:Int) (i:Int) (c2_1:Int) (c2_2:Int) (c2_3:Int) (c2_4:Int) : Option (Int×Int×Int×Int×Int) :=
 bif (decide (i ≥ (0:Int))) then
 bindF (f129 a_M_0 a_M_1 a_M_2 a_M_3 i) fun r9 =>
 bindF (f101_j4 r1 rest r9) fun z10 =>
 bif z10 then
 guardF (0 ≤ (i64.wrap (Int.tdiv i (64:Int))) ∧ (i64.wrap (Int.tdiv i (64:Int))) < (4:Int)) <|
 pickF (i64.wrap (Int.tdiv i (64:Int)))
 [(guardF (0 ≤ (u64.wrap (Int.tmod i (64:Int)))) <|
 go ((u64.wrap ((bitsOf IntKind.u64 (fun p q=>p ||| q) (u64.wrap (rest * 2 ^ min (Int.toNat (1:Int)) u64.bits)) r9) - r1)),(i64.wrap (i - (1:Int))),(bitsOf IntKind.u64 (fun p q=>p ||| q) c2_1 (u64.wrap ((1:Int) * 2 ^ min (Int.toNat (u64.wrap (Int.tmod i (64:Int)))) u64.bits))),c2_2,c2_3,c2_4)),
 (guardF (0 ≤ (u64.wrap (Int.tmod i (64:Int)))) <|
 go ((u64.wrap ((bitsOf IntKind.u64 (fun p q=>p ||| q) (u64.wrap (rest * 2 ^ min (Int.toNat (1:Int)) u64.bits)) r9) - r1)),(i64.wrap (i - (1:Int))),c2_1,(bitsOf IntKind.u64 (fun p q=>p ||| q) c2_2 (u64.wrap ((1:Int) * 2 ^ min (Int.toNat (u64.wrap (Int.tmod i (64:Int)))) u64.bits))),c2_3,c2_4)),
 (guardF (0 ≤ (u64.wrap (Int.tmod i (64:Int)))) <|
 go ((u64.wrap ((bitsOf IntKind.u64 (fun p q=>p ||| q) (u64.wrap (rest * 2 ^ min (Int.toNat (1:Int)) u64.bits)) r9) - r1)),(i64.wrap (i - (1:Int))),c2_1,c2_2,(bitsOf IntKind.u64 (fun p q=>p ||| q) c2_3 (u64.wrap ((1:Int) * 2 ^ min (Int.toNat (u64.wrap (Int.tmod i (64:Int)))) u64.bits))),c2_4)),
 (guardF (0 ≤ (u64.wrap (Int.tmod i (64:Int)))) <|
 go ((u64.wrap ((bitsOf IntKind.u64 (fun p q=>p ||| q) (u64.wrap (rest * 2 ^ min (Int.toNat (1:Int)) u64.bits)) r9) - r1)),(i64.wrap (i - (1:Int))),c2_1,c2_2,c2_3,(bitsOf IntKind.u64 (fun p q=>p ||| q) c2_4 (u64.wrap ((1:Int) * 2 ^ min (Int.toNat (u64.wrap (Int.tmod i (64:Int)))) u64.bits)))))]
 else
 go ((bitsOf IntKind.u64 (fun p q=>p ||| q) (u64.wrap (rest * 2 ^ min (Int.toNat (1:Int)) u64.bits)) r9),(i64.wrap (i - (1:Int))),c2_1,c2_2,c2_3,c2_4)
 else
 some (rest,c2_1,c2_2,c2_3,c2_4)
def f101_j5 (r1:Int) (z8 : Int×Int×Int×Int×Int) : Option Bool :=
 bif (decide (z8.1 > (u64.wrap (r1 - z8.1)))) then
 some true
 else
 bif (z8.1 == (u64.wrap (r1 - z8.1))) then
 some ((bitsOf IntKind.u64 (fun p q=>p &&& q) z8.2.1 (1:Int)) == (1:Int))
 else
 some false
def f101 (a_Neg : Bool) (a_M_0:Int) (a_M_1:Int) (a_M_2:Int) (a_M_3:Int) (by_:Int) : Option (Bool×Int×Int×Int×Int) :=
 bindF (f128 by_) fun r1 =>
 bindF (loopF (fun go x=>f101_l3 a_M_0 a_M_1 a_M_2 a_M_3 r1 go x.1 x.2.1 x.2.2.1 x.2.2.2.1 x.2.2.2.2.1 x.2.2.2.2.2) fuelN ((0:Int),(255:Int),(0:Int),(0:Int),(0:Int),(0:Int))) fun z8 =>
 bindF (f101_j5 r1 z8) fun z12 =>
 bif z12 then
 bindF (f125 z8.2.1 z8.2.2.1 z8.2.2.2.1 z8.2.2.2.2 (1:Int) (0:Int) (0:Int) (0:Int)) fun r13 =>
 some ((!(a_Neg == (decide (by_ < (0:Int))))),r13.1,r13.2.1,r13.2.2.1,r13.2.2.2)
 else
 some ((!(a_Neg == (decide (by_ < (0:Int))))),z8.2.1,z8.2.2.1,z8.2.2.2.1,z8.2.2.2.2)
def C101 : Con where
 X := Bool×Int×Int×Int×Int×Int
 Y := Bool×Int×Int×Int×Int
 e := 0
 args x := [.raw true [(.d .bool x.1),(.d T4 x.2.1),(.d T4 x.2.2.1),(.d T4 x.2.2.2.1),(.d T4 x.2.2.2.2.1)],.dat T2 x.2.2.2.2.2]
 hin x := []
 F x := f101 x.1 x.2.1 x.2.2.1 x.2.2.2.1 x.2.2.2.2.1 x.2.2.2.2.2
 ret y := [.raw true [(.d .bool y.1),(.d T4 y.2.1),(.d T4 y.2.2.1),(.d T4 y.2.2.2.1),(.d T4 y.2.2.2.2)]]
 hout y := []
 nout := 0
theorem C101_vc (a_Neg : Bool) (a_M_0:Int) (a_M_1:Int) (a_M_2:Int) (a_M_3:Int) (by_:Int) (y : Bool×Int×Int×Int×Int) (q : f101 a_Neg a_M_0 a_M_1 a_M_2 a_M_3 by_ = some y) : VC Tryz.f101 C101 (a_Neg,a_M_0,a_M_1,a_M_2,a_M_3,by_) y := by
 unfold f101 at q
 refine OL (OL ?_)
 obtain ⟨r1,hr1,q⟩ := bE q
 refine OL (AI f128_in (cV (cQ C128 by_ r1 [] false C128_holds hr1 rfl rfl (AI rfl (K0 (OL (OL (OL (OL (OL ?_))))))))))
 obtain ⟨z8,hz8,q⟩ := bE q
 refine lI (Int×Int×Int×Int×Int×Int) (Int×Int×Int×Int×Int) (fun x=>⟨[(2,P0 0 0),(4,P0 1 0),(5,.dat T4 r1),(6,P0 2 0),(7,.dat T4 x.1),(8,.dat T2 x.2.1)],[(0,.cells [(.d .bool a_Neg),(.d T4 a_M_0),(.d T4 a_M_1),(.d T4 a_M_2),(.d T4 a_M_3)]),(1,.cells [(.d .bool false),(.d T4 (0:Int)),(.d T4 (0:Int)),(.d T4 (0:Int)),(.d T4 (0:Int))]),(2,.cells [(.d .bool (!(a_Neg == (decide (by_ < (0:Int)))))),(.d T4 x.2.2.1),(.d T4 x.2.2.2.1),(.d T4 x.2.2.2.2.1),(.d T4 x.2.2.2.2.2)])],3⟩) (fun z=>[(2,⟨[(4,P0 0 0),(5,.dat T4 r1),(6,P0 1 0),(7,.dat T4 z.1)],[(0,.cells [(.d .bool false),(.d T4 (0:Int)),(.d T4 (0:Int)),(.d T4 (0:Int)),(.d T4 (0:Int))]),(1,.cells [(.d .bool (!(a_Neg == (decide (by_ < (0:Int)))))),(.d T4 z.2.1),(.d T4 z.2.2.1),(.d T4 z.2.2.2.1),(.d T4 z.2.2.2.2)])],2⟩)]) (loopF (fun go x=>f101_l3 a_M_0 a_M_1 a_M_2 a_M_3 r1 go x.1 x.2.1 x.2.2.1 x.2.2.2.1 x.2.2.2.2.1 x.2.2.2.2.2)) fuelN ((0:Int),(255:Int),(0:Int),(0:Int),(0:Int),(0:Int)) z8 (AI hz8 (AI (E4 I3 (R4 (AI (R3 TV) (R3 TV)))) (AI (fun _ _ h=>lZ h) (AI (fun m=>curI (fun rest=>curI (fun i=>curI (fun c2_1=>curI (fun c2_2=>curI (fun c2_3=>fun c2_4 z q=>?_)))))) ?_))))
 ·have q : f101_l3 a_M_0 a_M_1 a_M_2 a_M_3 r1 (loopF (fun go x=>f101_l3 a_M_0 a_M_1 a_M_2 a_M_3 r1 go x.1 x.2.1 x.2.2.1 x.2.2.2.1 x.2.2.2.2.1 x.2.2.2.2.2) m) rest i c2_1 c2_2 c2_3 c2_4 = some z := q
  unfold f101_l3 at q
  refine OL (OL (cI q (fun q=>?_) (fun q=>?_)))
  ·refine OL (OL (AI (by decide) (OL (AI (by decide) ?_))))
   obtain ⟨r9,hr9,q⟩ := bE q
   refine OL (AI f129_in (cV (cQ C129 (a_M_0,a_M_1,a_M_2,a_M_3,i) r9 [] false C129_holds hr9 rfl rfl (AI rfl (AI NH (R2 (AJ (AI TV ?_))))))))
   obtain ⟨z10,hz10,q⟩ := bE q
   refine OQ ⟨[(0,⟨[(2,P0 0 0),(4,P0 1 0),(5,.dat T4 r1),(6,P0 2 0),(7,.dat T4 (bitsOf IntKind.u64 (fun p q=>p ||| q) (u64.wrap (rest * 2 ^ min (Int.toNat (1:Int)) u64.bits)) r9)),(8,.dat T2 i),(37,.dat .bool z10)],[(0,.cells [(.d .bool a_Neg),(.d T4 a_M_0),(.d T4 a_M_1),(.d T4 a_M_2),(.d T4 a_M_3)]),(1,.cells [(.d .bool false),(.d T4 (0:Int)),(.d T4 (0:Int)),(.d T4 (0:Int)),(.d T4 (0:Int))]),(2,.cells [(.d .bool (!(a_Neg == (decide (by_ < (0:Int)))))),(.d T4 c2_1),(.d T4 c2_2),(.d T4 c2_3),(.d T4 c2_4)])],3⟩)],?_,?_⟩
   ·have q := hz10
    clear hz10
    unfold f101_j4 at q
    refine cN q (fun q=>?_) (fun q=>?_)
    ·refine gY (gY (cF ?_))
     cases sE q
     refine E4 I3 (R5 (AI (R3 TV) (R3 TV)))
    refine gN (gN (cT ?_))
    cases sE q
    refine E4 I3 (R5 (AI (R3 TV) (R3 TV)))
   refine AI (cI q (fun q=>?_) (fun q=>?_)) TV
   ·refine OL (AI (by decide) (AI (by decide) (gI q (fun q=>?_))))
    refine AI (fun hk11=>?_) ?_
    ·have q := pickE q hk11
     dsimp only [nthO] at q
     refine AI (by decide) (gI q (fun q=>?_))
     refine AI (rE hk11 (by decide)) (AI (fun _=>?_) (AI (fun h=>absurd (hk11.symm.trans h) (by decide)) (AI (fun h=>absurd (hk11.symm.trans h) (by decide)) (AI (fun h=>absurd (hk11.symm.trans h) (by decide)) TV))))
     refine OL (EI ((u64.wrap ((bitsOf IntKind.u64 (fun p q=>p ||| q) (u64.wrap (rest * 2 ^ min (Int.toNat (1:Int)) u64.bits)) r9) - r1)),(i64.wrap (i - (1:Int))),(bitsOf IntKind.u64 (fun p q=>p ||| q) c2_1 (u64.wrap ((1:Int) * 2 ^ min (Int.toNat (u64.wrap (Int.tmod i (64:Int)))) u64.bits))),c2_2,c2_3,c2_4) (AI q (E4 I3 (R4 (AI (R3 TV) (R3 TV))))))
    refine AI (fun hk11=>?_) ?_
    ·have q := pickE q hk11
     dsimp only [nthO] at q
     refine AI (by decide) (gI q (fun q=>?_))
     refine AI (rE hk11 (by decide)) (AI (fun h=>absurd (hk11.symm.trans h) (by decide)) ?_)
     refine AI (fun _=>?_) (AI (fun h=>absurd (hk11.symm.trans h) (by decide)) (AI (fun h=>absurd (hk11.symm.trans h) (by decide)) TV))
     refine OL (EI ((u64.wrap ((bitsOf IntKind.u64 (fun p q=>p ||| q) (u64.wrap (rest * 2 ^ min (Int.toNat (1:Int)) u64.bits)) r9) - r1)),(i64.wrap (i - (1:Int))),c2_1,(bitsOf IntKind.u64 (fun p q=>p ||| q) c2_2 (u64.wrap ((1:Int) * 2 ^ min (Int.toNat (u64.wrap (Int.tmod i (64:Int)))) u64.bits))),c2_3,c2_4) (AI q (E4 I3 (R4 (AI (R3 TV) (R3 TV))))))
    refine AI (fun hk11=>?_) ?_
    ·have q := pickE q hk11
     dsimp only [nthO] at q
     refine AI (by decide) (gI q (fun q=>?_))
     refine AI (rE hk11 (by decide)) (AI (fun h=>absurd (hk11.symm.trans h) (by decide)) ?_)
     refine AI (fun h=>absurd (hk11.symm.trans h) (by decide)) ?_
     refine AI (fun _=>?_) (AI (fun h=>absurd (hk11.symm.trans h) (by decide)) TV)
     refine OL (EI ((u64.wrap ((bitsOf IntKind.u64 (fun p q=>p ||| q) (u64.wrap (rest * 2 ^ min (Int.toNat (1:Int)) u64.bits)) r9) - r1)),(i64.wrap (i - (1:Int))),c2_1,c2_2,(bitsOf IntKind.u64 (fun p q=>p ||| q) c2_3 (u64.wrap ((1:Int) * 2 ^ min (Int.toNat (u64.wrap (Int.tmod i (64:Int)))) u64.bits))),c2_4) (AI q (E4 I3 (R4 (AI (R3 TV) (R3 TV))))))
    refine AI (fun hk11=>?_) TV
    have q := pickE q hk11
    dsimp only [nthO] at q
    refine AI (by decide) (gI q (fun q=>?_))
    refine AI (rE hk11 (by decide)) (AI (fun h=>absurd (hk11.symm.trans h) (by decide)) ?_)
    refine AI (fun h=>absurd (hk11.symm.trans h) (by decide)) ?_
    refine AI (fun h=>absurd (hk11.symm.trans h) (by decide)) ?_
    refine AI (fun _=>?_) TV
    refine OL (EI ((u64.wrap ((bitsOf IntKind.u64 (fun p q=>p ||| q) (u64.wrap (rest * 2 ^ min (Int.toNat (1:Int)) u64.bits)) r9) - r1)),(i64.wrap (i - (1:Int))),c2_1,c2_2,c2_3,(bitsOf IntKind.u64 (fun p q=>p ||| q) c2_4 (u64.wrap ((1:Int) * 2 ^ min (Int.toNat (u64.wrap (Int.tmod i (64:Int)))) u64.bits)))) (AI q (E4 I3 (R4 (AI (R3 TV) (R3 TV))))))
   refine EI ((bitsOf IntKind.u64 (fun p q=>p ||| q) (u64.wrap (rest * 2 ^ min (Int.toNat (1:Int)) u64.bits)) r9),(i64.wrap (i - (1:Int))),c2_1,c2_2,c2_3,c2_4) (AI q (E4 I3 (R4 (AI (R3 TV) (R3 TV)))))
  cases sE q
  refine E4 [(0,some 1),(1,some 2)] (R3 (AI (R2 TV) (R2 TV)))
 refine AI (OL ?_) TV
 obtain ⟨z12,hz12,q⟩ := bE q
 refine OQ ⟨[(0,⟨[(4,P0 0 0),(6,P0 1 0),(73,.dat .bool z12)],[(0,.cells [(.d .bool false),(.d T4 (0:Int)),(.d T4 (0:Int)),(.d T4 (0:Int)),(.d T4 (0:Int))]),(1,.cells [(.d .bool (!(a_Neg == (decide (by_ < (0:Int)))))),(.d T4 z8.2.1),(.d T4 z8.2.2.1),(.d T4 z8.2.2.2.1),(.d T4 z8.2.2.2.2)])],2⟩)],?_,?_⟩
 ·have q := hz12
  clear hz12
  unfold f101_j5 at q
  refine cN q (fun q=>?_) (fun q=>?_)
  ·refine gY (gY (gY (gY (gY (cI q (fun q=>?_) (fun q=>?_))))))
   ·refine gX (AI (by decide) (AI (fun _=>?_) (AI (fun h=>absurd h (by decide)) (AI (fun h=>absurd h (by decide)) (AI (fun h=>absurd h (by decide)) TV)))))
    refine gX (gX (gX (gY (cT (cF ?_)))))
    cases sE q
    refine E4 I2 (R2 (AI (R2 TV) (R2 TV)))
   refine gM (gM (gM (gM (gY (cF (cF ?_))))))
   cases sE q
   refine E4 I2 (R2 (AI (R2 TV) (R2 TV)))
  refine gN (gN (gN (gN (gN (gN (cT ?_))))))
  cases sE q
  refine E4 I2 (R2 (AI (R2 TV) (R2 TV)))
 refine AI (cI q (fun q=>?_) (fun q=>?_)) TV
 ·obtain ⟨r13,hr13,q⟩ := bE q
  refine OL (AI f125_in (cV (cQ C125 (z8.2.1,z8.2.2.1,z8.2.2.2.1,z8.2.2.2.2,(1:Int),(0:Int),(0:Int),(0:Int)) r13 [] false C125_holds hr13 rfl rfl (AI NH (R2 (AI (R2 TV) (AI TV (OL (OL (OL ?_))))))))))
  cases sE q
  refine AI rfl (E4 [] (AI rfl (AJ TV)))
 refine OL (OL ?_)
 cases sE q
 refine AI rfl (E4 [] (AI rfl (AJ TV)))
theorem C101_holds : HP C101 101 := hH Tryz.f101 (by kernel_rfl) rfl (fun x y q=>C101_vc x.1 x.2.1 x.2.2.1 x.2.2.2.1 x.2.2.2.2.1 x.2.2.2.2.2 y q)
theorem f101_in : InP 101 := inP (by kernel_rfl)
def f59 (a : LI×LI) : Option Int :=
 bindF (f100 (a.1,a.2)) fun q1_1 =>
 bindF (f101 q1_1.1 q1_1.2.1 q1_1.2.2.1 q1_1.2.2.2.1 q1_1.2.2.2.2 (List.length a.2:Int)) fun q1_5 =>
 bindF (f94 q1_5.1 q1_5.2.1 q1_5.2.2.1 q1_5.2.2.2.1 q1_5.2.2.2.2) fun q1_6 =>
 some q1_6
def C59 : Con where
 X := LI×LI
 Y := Int
 e := 0
 args x := [.dat T3 x]
 hin x := []
 F x := f59 x
 ret y := [.dat T2 y]
 hout y := []
 nout := 0
theorem C59_vc (a : LI×LI) (y:Int) (q : f59 a = some y) : VC Tryz.f59 C59 a y := by
 unfold f59 at q
 refine OL (OL (EI (.take 0 (.take 2 (.take 3 (.take 4 (.alt 1 (.alt 5 (.alt 6 (.take 7 .done) .done) .done) .done))))) (EI [] (EI [] (AI rfl (AI TV ?_))))))
 obtain ⟨q1_1,hq1_1,q⟩ := bE q
 refine OL (AI f100_in (cV (cQ C100 (a.1,a.2) q1_1 [] false C100_holds hq1_1 rfl rfl (R2 (K0 (AI TV ?_))))))
 obtain ⟨q1_5,hq1_5,q⟩ := bE q
 refine OL (AI f101_in (cV (cQ C101 (q1_1.1,q1_1.2.1,q1_1.2.2.1,q1_1.2.2.2.1,q1_1.2.2.2.2,(List.length a.2:Int)) q1_5 [] false C101_holds hq1_5 rfl rfl (AI rfl (AI NH (R2 (AJ (AI TV (AI TV ?_)))))))))
 obtain ⟨q1_6,hq1_6,q⟩ := bE q
 refine OL (AI f94_in (cV (cQ C94 (q1_5.1,q1_5.2.1,q1_5.2.2.1,q1_5.2.2.2.1,q1_5.2.2.2.2) q1_6 [] false C94_holds hq1_6 rfl rfl (AI NH (R2 (AJ (AI TV ?_)))))))
 cases sE q
 refine AI rfl (E4 [] (R2 (AI TV TV)))
theorem C59_holds : HP C59 59 := hH Tryz.f59 (by kernel_rfl) rfl (fun x y q=>C59_vc x y q)
theorem f59_in : InP 59 := inP (by kernel_rfl)
def f140_l1 (a_M_0:Int) (a_M_1:Int) (a_M_2:Int) (a_M_3:Int) (n:Int) (go : (Int×Int×Int×Int×Int) → Option (Int×Int×Int×Int)) (i:Int) (c2_1:Int) (c2_2:Int) (c2_3:Int) (c2_4:Int) : Option (Int×Int×Int×Int) :=
 bif (decide (i ≥ n)) then
 bindF (f129 a_M_0 a_M_1 a_M_2 a_M_3 (i64.wrap (i - n))) fun r6 =>
 bif (r6 == (1:Int)) then
 guardF (0 ≤ (i64.wrap (Int.tdiv i (64:Int))) ∧ (i64.wrap (Int.tdiv i (64:Int))) < (4:Int)) <|
 pickF (i64.wrap (Int.tdiv i (64:Int)))
 [(guardF (0 ≤ (u64.wrap (Int.tmod i (64:Int)))) <|
 go ((i64.wrap (i - (1:Int))),(bitsOf IntKind.u64 (fun p q=>p ||| q) c2_1 (u64.wrap ((1:Int) * 2 ^ min (Int.toNat (u64.wrap (Int.tmod i (64:Int)))) u64.bits))),c2_2,c2_3,c2_4)),
 (guardF (0 ≤ (u64.wrap (Int.tmod i (64:Int)))) <|
 go ((i64.wrap (i - (1:Int))),c2_1,(bitsOf IntKind.u64 (fun p q=>p ||| q) c2_2 (u64.wrap ((1:Int) * 2 ^ min (Int.toNat (u64.wrap (Int.tmod i (64:Int)))) u64.bits))),c2_3,c2_4)),
 (guardF (0 ≤ (u64.wrap (Int.tmod i (64:Int)))) <|
 go ((i64.wrap (i - (1:Int))),c2_1,c2_2,(bitsOf IntKind.u64 (fun p q=>p ||| q) c2_3 (u64.wrap ((1:Int) * 2 ^ min (Int.toNat (u64.wrap (Int.tmod i (64:Int)))) u64.bits))),c2_4)),
 (guardF (0 ≤ (u64.wrap (Int.tmod i (64:Int)))) <|
 go ((i64.wrap (i - (1:Int))),c2_1,c2_2,c2_3,(bitsOf IntKind.u64 (fun p q=>p ||| q) c2_4 (u64.wrap ((1:Int) * 2 ^ min (Int.toNat (u64.wrap (Int.tmod i (64:Int)))) u64.bits)))))]
 else
 go ((i64.wrap (i - (1:Int))),c2_1,c2_2,c2_3,c2_4)
 else
 some (c2_1,c2_2,c2_3,c2_4)
def f140 (a_Neg : Bool) (a_M_0:Int) (a_M_1:Int) (a_M_2:Int) (a_M_3:Int) (n:Int) : Option (Bool×Int×Int×Int×Int) :=
 bindF (loopF (fun go x=>f140_l1 a_M_0 a_M_1 a_M_2 a_M_3 n go x.1 x.2.1 x.2.2.1 x.2.2.2.1 x.2.2.2.2) fuelN ((255:Int),(0:Int),(0:Int),(0:Int),(0:Int))) fun z5 =>
 some (a_Neg,z5.1,z5.2.1,z5.2.2.1,z5.2.2.2)
def C140 : Con where
 X := Bool×Int×Int×Int×Int×Int
 Y := Bool×Int×Int×Int×Int
 e := 0
 args x := [.raw true [(.d .bool x.1),(.d T4 x.2.1),(.d T4 x.2.2.1),(.d T4 x.2.2.2.1),(.d T4 x.2.2.2.2.1)],.dat T2 x.2.2.2.2.2]
 hin x := []
 F x := f140 x.1 x.2.1 x.2.2.1 x.2.2.2.1 x.2.2.2.2.1 x.2.2.2.2.2
 ret y := [.raw true [(.d .bool y.1),(.d T4 y.2.1),(.d T4 y.2.2.1),(.d T4 y.2.2.2.1),(.d T4 y.2.2.2.2)]]
 hout y := []
 nout := 0
theorem C140_vc (a_Neg : Bool) (a_M_0:Int) (a_M_1:Int) (a_M_2:Int) (a_M_3:Int) (n:Int) (y : Bool×Int×Int×Int×Int) (q : f140 a_Neg a_M_0 a_M_1 a_M_2 a_M_3 n = some y) : VC Tryz.f140 C140 (a_Neg,a_M_0,a_M_1,a_M_2,a_M_3,n) y := by
 unfold f140 at q
 refine OL (OL (OL (OL (OL ?_))))
 obtain ⟨z5,hz5,q⟩ := bE q
 refine lI (Int×Int×Int×Int×Int) (Int×Int×Int×Int) (fun x=>⟨[(1,.dat T2 n),(2,P0 0 0),(4,P0 1 0),(5,P0 2 0),(6,.dat T2 x.1)],[(0,.cells [(.d .bool a_Neg),(.d T4 a_M_0),(.d T4 a_M_1),(.d T4 a_M_2),(.d T4 a_M_3)]),(1,.cells [(.d .bool false),(.d T4 (0:Int)),(.d T4 (0:Int)),(.d T4 (0:Int)),(.d T4 (0:Int))]),(2,.cells [(.d .bool a_Neg),(.d T4 x.2.1),(.d T4 x.2.2.1),(.d T4 x.2.2.2.1),(.d T4 x.2.2.2.2)])],3⟩) (fun z=>[(2,⟨[(4,P0 0 0),(5,P0 1 0)],[(0,.cells [(.d .bool false),(.d T4 (0:Int)),(.d T4 (0:Int)),(.d T4 (0:Int)),(.d T4 (0:Int))]),(1,.cells [(.d .bool a_Neg),(.d T4 z.1),(.d T4 z.2.1),(.d T4 z.2.2.1),(.d T4 z.2.2.2)])],2⟩)]) (loopF (fun go x=>f140_l1 a_M_0 a_M_1 a_M_2 a_M_3 n go x.1 x.2.1 x.2.2.1 x.2.2.2.1 x.2.2.2.2)) fuelN ((255:Int),(0:Int),(0:Int),(0:Int),(0:Int)) z5 (AI hz5 (AI (E4 I3 (R3 (AI (R3 TV) (R3 TV)))) (AI (fun _ _ h=>lZ h) (AI (fun m=>curI (fun i=>curI (fun c2_1=>curI (fun c2_2=>curI (fun c2_3=>fun c2_4 z q=>?_))))) ?_))))
 ·have q : f140_l1 a_M_0 a_M_1 a_M_2 a_M_3 n (loopF (fun go x=>f140_l1 a_M_0 a_M_1 a_M_2 a_M_3 n go x.1 x.2.1 x.2.2.1 x.2.2.2.1 x.2.2.2.2) m) i c2_1 c2_2 c2_3 c2_4 = some z := q
  unfold f140_l1 at q
  refine OL (OL (cI q (fun q=>?_) (fun q=>?_)))
  ·refine OL (OL ?_)
   obtain ⟨r6,hr6,q⟩ := bE q
   refine OL (AI f129_in (cV (cQ C129 (a_M_0,a_M_1,a_M_2,a_M_3,(i64.wrap (i - n))) r6 [] false C129_holds hr6 rfl rfl (AI rfl (AI NH (R2 (AJ (AI TV (cI q (fun q=>?_) (fun q=>?_))))))))))
   ·refine AI (by decide) (AI (by decide) (gI q (fun q=>?_)))
    refine AI (fun hk7=>?_) ?_
    ·have q := pickE q hk7
     dsimp only [nthO] at q
     refine AI (by decide) (gI q (fun q=>?_))
     refine AI (rE hk7 (by decide)) (AI (fun _=>?_) (AI (fun h=>absurd (hk7.symm.trans h) (by decide)) (AI (fun h=>absurd (hk7.symm.trans h) (by decide)) (AI (fun h=>absurd (hk7.symm.trans h) (by decide)) TV))))
     refine OL (EI ((i64.wrap (i - (1:Int))),(bitsOf IntKind.u64 (fun p q=>p ||| q) c2_1 (u64.wrap ((1:Int) * 2 ^ min (Int.toNat (u64.wrap (Int.tmod i (64:Int)))) u64.bits))),c2_2,c2_3,c2_4) (AI q (E4 I3 (R3 (AI (R3 TV) (R3 TV))))))
    refine AI (fun hk7=>?_) ?_
    ·have q := pickE q hk7
     dsimp only [nthO] at q
     refine AI (by decide) (gI q (fun q=>?_))
     refine AI (rE hk7 (by decide)) (AI (fun h=>absurd (hk7.symm.trans h) (by decide)) ?_)
     refine AI (fun _=>?_) (AI (fun h=>absurd (hk7.symm.trans h) (by decide)) (AI (fun h=>absurd (hk7.symm.trans h) (by decide)) TV))
     refine OL (EI ((i64.wrap (i - (1:Int))),c2_1,(bitsOf IntKind.u64 (fun p q=>p ||| q) c2_2 (u64.wrap ((1:Int) * 2 ^ min (Int.toNat (u64.wrap (Int.tmod i (64:Int)))) u64.bits))),c2_3,c2_4) (AI q (E4 I3 (R3 (AI (R3 TV) (R3 TV))))))
    refine AI (fun hk7=>?_) ?_
    ·have q := pickE q hk7
     dsimp only [nthO] at q
     refine AI (by decide) (gI q (fun q=>?_))
     refine AI (rE hk7 (by decide)) (AI (fun h=>absurd (hk7.symm.trans h) (by decide)) ?_)
     refine AI (fun h=>absurd (hk7.symm.trans h) (by decide)) ?_
     refine AI (fun _=>?_) (AI (fun h=>absurd (hk7.symm.trans h) (by decide)) TV)
     refine OL (EI ((i64.wrap (i - (1:Int))),c2_1,c2_2,(bitsOf IntKind.u64 (fun p q=>p ||| q) c2_3 (u64.wrap ((1:Int) * 2 ^ min (Int.toNat (u64.wrap (Int.tmod i (64:Int)))) u64.bits))),c2_4) (AI q (E4 I3 (R3 (AI (R3 TV) (R3 TV))))))
    refine AI (fun hk7=>?_) TV
    have q := pickE q hk7
    dsimp only [nthO] at q
    refine AI (by decide) (gI q (fun q=>?_))
    refine AI (rE hk7 (by decide)) (AI (fun h=>absurd (hk7.symm.trans h) (by decide)) ?_)
    refine AI (fun h=>absurd (hk7.symm.trans h) (by decide)) ?_
    refine AI (fun h=>absurd (hk7.symm.trans h) (by decide)) ?_
    refine AI (fun _=>?_) TV
    refine OL (EI ((i64.wrap (i - (1:Int))),c2_1,c2_2,c2_3,(bitsOf IntKind.u64 (fun p q=>p ||| q) c2_4 (u64.wrap ((1:Int) * 2 ^ min (Int.toNat (u64.wrap (Int.tmod i (64:Int)))) u64.bits)))) (AI q (E4 I3 (R3 (AI (R3 TV) (R3 TV))))))
   refine EI ((i64.wrap (i - (1:Int))),c2_1,c2_2,c2_3,c2_4) (AI q (E4 I3 (R3 (AI (R3 TV) (R3 TV)))))
  cases sE q
  refine E4 [(0,some 1),(1,some 2)] (AI rfl (AI (R2 TV) (R2 TV)))
 refine AI (OL (OL ?_)) TV
 cases sE q
 refine AI rfl (E4 [] (AI rfl (AJ TV)))
theorem C140_holds : HP C140 140 := hH Tryz.f140 (by kernel_rfl) rfl (fun x y q=>C140_vc x.1 x.2.1 x.2.2.1 x.2.2.2.1 x.2.2.2.2.1 x.2.2.2.2.2 y q)
theorem f140_in : InP 140 := inP (by kernel_rfl)
def f131 (n:Int) : Option Int :=
 bindF (f99 n) fun r1 =>
 bindF (f140 r1.1 r1.2 (0:Int) (0:Int) (0:Int) (32:Int)) fun r2 =>
 bindF (f94 r2.1 r2.2.1 r2.2.2.1 r2.2.2.2.1 r2.2.2.2.2) fun r3 =>
 some r3
def C131 : Con where
 X := Int
 Y := Int
 e := 0
 args x := [.dat T2 x]
 hin x := []
 F x := f131 x
 ret y := [.dat T2 y]
 hout y := []
 nout := 0
theorem C131_vc (n:Int) (y:Int) (q : f131 n = some y) : VC Tryz.f131 C131 n y := by
 unfold f131 at q
 refine OL (OL ?_)
 obtain ⟨r1,hr1,q⟩ := bE q
 refine OL (AI f99_in (cV (cQ C99 n r1 [] false C99_holds hr1 rfl rfl (AI rfl (K0 ?_)))))
 obtain ⟨r2,hr2,q⟩ := bE q
 refine OL (AI f140_in (cV (cQ C140 (r1.1,r1.2,(0:Int),(0:Int),(0:Int),(32:Int)) r2 [] false C140_holds hr2 rfl rfl (AI rfl (AI NH (R2 (AJ (AI TV ?_))))))))
 obtain ⟨r3,hr3,q⟩ := bE q
 refine OL (AI f94_in (cV (cQ C94 (r2.1,r2.2.1,r2.2.2.1,r2.2.2.2.1,r2.2.2.2.2) r3 [] false C94_holds hr3 rfl rfl (AI NH (R2 (AJ (AI TV ?_)))))))
 cases sE q
 refine AI rfl (E4 [] (R2 (AI TV TV)))
theorem C131_holds : HP C131 131 := hH Tryz.f131 (by kernel_rfl) rfl (fun x y q=>C131_vc x y q)
theorem f131_in : InP 131 := inP (by kernel_rfl)
def f139 (neg : Bool) (none_ : Bool) : Option Int :=
 bif none_ then
 some (0:Int)
 else
 bif neg then
 some (-9223372036854775808:Int)
 else
 some (9223372036854775807:Int)
def C139 : Con where
 X := Bool×Bool
 Y := Int
 e := 0
 args x := [.dat .bool x.1,.dat .bool x.2]
 hin x := []
 F x := f139 x.1 x.2
 ret y := [.dat T2 y]
 hout y := []
 nout := 0
theorem C139_vc (neg : Bool) (none_ : Bool) (y:Int) (q : f139 neg none_ = some y) : VC Tryz.f139 C139 (neg,none_) y := by
 unfold f139 at q
 refine OL (OL (OL (cI q (fun q=>?_) (fun q=>?_))))
 ·cases sE q
  refine OL (AI rfl (E4 [] (R2 (AI TV TV))))
 refine OL (cI q (fun q=>?_) (fun q=>?_))
 ·cases sE q
  refine OL (AI rfl (E4 [] (R2 (AI TV TV))))
 cases sE q
 refine OL (AI rfl (E4 [] (R2 (AI TV TV))))
theorem C139_holds : HP C139 139 := hH Tryz.f139 (by kernel_rfl) rfl (fun x y q=>C139_vc x.1 x.2 y q)
theorem f139_in : InP 139 := inP (by kernel_rfl)
def f130 (a:Int) (b:Int) : Option Int :=
 bif (b == (0:Int)) then
 bindF (f139 (decide (a < (0:Int))) (a == (0:Int))) fun r1 =>
 some r1
 else
 bindF (f99 a) fun r2 =>
 bindF (f140 r2.1 r2.2 (0:Int) (0:Int) (0:Int) (32:Int)) fun r3 =>
 bindF (f101 r3.1 r3.2.1 r3.2.2.1 r3.2.2.2.1 r3.2.2.2.2 b) fun r4 =>
 bindF (f94 r4.1 r4.2.1 r4.2.2.1 r4.2.2.2.1 r4.2.2.2.2) fun r5 =>
 some r5
def C130 : Con where
 X := Int×Int
 Y := Int
 e := 0
 args x := [.dat T2 x.1,.dat T2 x.2]
 hin x := []
 F x := f130 x.1 x.2
 ret y := [.dat T2 y]
 hout y := []
 nout := 0
theorem C130_vc (a:Int) (b:Int) (y:Int) (q : f130 a b = some y) : VC Tryz.f130 C130 (a,b) y := by
 unfold f130 at q
 refine OL (OL (OL (cI q (fun q=>?_) (fun q=>?_))))
 ·refine OL ?_
  obtain ⟨r1,hr1,q⟩ := bE q
  refine OL (AI f139_in (cV (cQ C139 ((decide (a < (0:Int))),(a == (0:Int))) r1 [] false C139_holds hr1 rfl rfl (R2 (K0 ?_)))))
  cases sE q
  refine AI rfl (E4 [] (R2 (AI TV TV)))
 refine OL ?_
 obtain ⟨r2,hr2,q⟩ := bE q
 refine OL (AI f99_in (cV (cQ C99 a r2 [] false C99_holds hr2 rfl rfl (AI rfl (K0 ?_)))))
 obtain ⟨r3,hr3,q⟩ := bE q
 refine OL (AI f140_in (cV (cQ C140 (r2.1,r2.2,(0:Int),(0:Int),(0:Int),(32:Int)) r3 [] false C140_holds hr3 rfl rfl (AI rfl (AI NH (R2 (AJ (AI TV ?_))))))))
 obtain ⟨r4,hr4,q⟩ := bE q
 refine OL (AI f101_in (cV (cQ C101 (r3.1,r3.2.1,r3.2.2.1,r3.2.2.2.1,r3.2.2.2.2,b) r4 [] false C101_holds hr4 rfl rfl (AI rfl (AI NH (R2 (AJ (AI TV ?_))))))))
 obtain ⟨r5,hr5,q⟩ := bE q
 refine OL (AI f94_in (cV (cQ C94 (r4.1,r4.2.1,r4.2.2.1,r4.2.2.2.1,r4.2.2.2.2) r5 [] false C94_holds hr5 rfl rfl (AI NH (R2 (AJ (AI TV ?_)))))))
 cases sE q
 refine AI rfl (E4 [] (R2 (AI TV TV)))
theorem C130_holds : HP C130 130 := hH Tryz.f130 (by kernel_rfl) rfl (fun x y q=>C130_vc x.1 x.2 y q)
theorem f130_in : InP 130 := inP (by kernel_rfl)
def f132 (a:Int) : Option Int :=
 bindF (f90 (0:Int) a) fun r1 =>
 some r1
def C132 : Con where
 X := Int
 Y := Int
 e := 0
 args x := [.dat T2 x]
 hin x := []
 F x := f132 x
 ret y := [.dat T2 y]
 hout y := []
 nout := 0
theorem C132_vc (a:Int) (y:Int) (q : f132 a = some y) : VC Tryz.f132 C132 a y := by
 unfold f132 at q
 refine OL (OL ?_)
 obtain ⟨r1,hr1,q⟩ := bE q
 refine OL (AI f90_in (cV (cQ C90 ((0:Int),a) r1 [] false C90_holds hr1 rfl rfl (R2 (K0 ?_)))))
 cases sE q
 refine AI rfl (E4 [] (R2 (AI TV TV)))
theorem C132_holds : HP C132 132 := hH Tryz.f132 (by kernel_rfl) rfl (fun x y q=>C132_vc x y q)
theorem f132_in : InP 132 := inP (by kernel_rfl)
def f102 (kind:Int) (x_:Int) : Option Int :=
 bif (kind == (1:Int)) then
 bif (decide (x_ < (0:Int))) then
 some (0:Int)
 else
 some x_
 else
 bif (kind == (2:Int)) then
 bif (decide (x_ > (0:Int))) then
 some x_
 else
 bindF (f131 (8:Int)) fun r1 =>
 bindF (f130 x_ r1) fun r2 =>
 some r2
 else
 bif (kind == (3:Int)) then
 bif (decide (x_ > (4294967296:Int))) then
 some (4294967296:Int)
 else
 bif (decide (x_ < (-4294967296:Int))) then
 some (-4294967296:Int)
 else
 some x_
 else
 bif (kind == (4:Int)) then
 bif (decide (x_ < (0:Int))) then
 bindF (f132 x_) fun r3 =>
 some r3
 else
 some x_
 else
 bindF (f131 (2:Int)) fun r4 =>
 bindF (f130 x_ r4) fun r5 =>
 bindF (f89 r5 (2147483648:Int)) fun r6 =>
 bif (decide (r6 < (0:Int))) then
 some (0:Int)
 else
 bif (decide (r6 > (4294967296:Int))) then
 some (4294967296:Int)
 else
 some r6
def C102 : Con where
 X := Int×Int
 Y := Int
 e := 0
 args x := [.dat T2 x.1,.dat T2 x.2]
 hin x := []
 F x := f102 x.1 x.2
 ret y := [.dat T2 y]
 hout y := []
 nout := 0
theorem C102_vc (kind:Int) (x_:Int) (y:Int) (q : f102 kind x_ = some y) : VC Tryz.f102 C102 (kind,x_) y := by
 unfold f102 at q
 refine OL (OL (OL (OL (cI q (fun q=>?_) (fun q=>?_)))))
 ·refine OL (OL (cI q (fun q=>?_) (fun q=>?_)))
  ·cases sE q
   refine OL (AI rfl (E4 [] (R2 (AI TV TV))))
  cases sE q
  refine OL (AI rfl (E4 [] (R2 (AI TV TV))))
 refine OL (cI q (fun q=>?_) (fun q=>?_))
 ·refine OL (OL (cI q (fun q=>?_) (fun q=>?_)))
  ·cases sE q
   refine OL (AI rfl (E4 [] (R2 (AI TV TV))))
  refine OL ?_
  obtain ⟨r1,hr1,q⟩ := bE q
  refine OL (AI f131_in (cV (cQ C131 (8:Int) r1 [] false C131_holds hr1 rfl rfl (AI rfl (K0 ?_)))))
  obtain ⟨r2,hr2,q⟩ := bE q
  refine OL (AI f130_in (cV (cQ C130 (x_,r1) r2 [] false C130_holds hr2 rfl rfl (R2 (K0 ?_)))))
  cases sE q
  refine AI rfl (E4 [] (R2 (AI TV TV)))
 refine OL (cI q (fun q=>?_) (fun q=>?_))
 ·refine OL (OL (cI q (fun q=>?_) (fun q=>?_)))
  ·cases sE q
   refine OL (AI rfl (E4 [] (R2 (AI TV TV))))
  refine OL (OL (cI q (fun q=>?_) (fun q=>?_)))
  ·cases sE q
   refine OL (AI rfl (E4 [] (R2 (AI TV TV))))
  cases sE q
  refine OL (AI rfl (E4 [] (R2 (AI TV TV))))
 refine OL (cI q (fun q=>?_) (fun q=>?_))
 ·refine OL (OL (cI q (fun q=>?_) (fun q=>?_)))
  ·refine OL ?_
   obtain ⟨r3,hr3,q⟩ := bE q
   refine OL (AI f132_in (cV (cQ C132 x_ r3 [] false C132_holds hr3 rfl rfl (AI rfl (K0 ?_)))))
   cases sE q
   refine AI rfl (E4 [] (R2 (AI TV TV)))
  cases sE q
  refine OL (AI rfl (E4 [] (R2 (AI TV TV))))
 refine OL ?_
 obtain ⟨r4,hr4,q⟩ := bE q
 refine OL (AI f131_in (cV (cQ C131 (2:Int) r4 [] false C131_holds hr4 rfl rfl (AI rfl (K0 ?_)))))
 obtain ⟨r5,hr5,q⟩ := bE q
 refine OL (AI f130_in (cV (cQ C130 (x_,r4) r5 [] false C130_holds hr5 rfl rfl (R2 (K0 ?_)))))
 obtain ⟨r6,hr6,q⟩ := bE q
 refine OL (AI f89_in (cV (cQ C89 (r5,(2147483648:Int)) r6 [] false C89_holds hr6 rfl rfl (R2 (K0 (OL (OL (cI q (fun q=>?_) (fun q=>?_)))))))))
 ·cases sE q
  refine OL (AI rfl (E4 [] (R2 (AI TV TV))))
 refine OL (OL (cI q (fun q=>?_) (fun q=>?_)))
 ·cases sE q
  refine OL (AI rfl (E4 [] (R2 (AI TV TV))))
 cases sE q
 refine OL (AI rfl (E4 [] (R2 (AI TV TV))))
theorem C102_holds : HP C102 102 := hH Tryz.f102 (by kernel_rfl) rfl (fun x y q=>C102_vc x.1 x.2 y q)
theorem f102_in : InP 102 := inP (by kernel_rfl)
end Go.Proofs
