import Derived.Test.YtoicgngppmpapaaGreatGradPartsS2
set_option linter.unusedVariables false
set_option maxRecDepth 100000
set_option maxHeartbeats 8000000
namespace Go.Proofs
open Go.AM
open IntKind (i64 u64 i32 u32 i16 u16 i8 u8)
def f225 (n:Int) : Option Bool :=
 bif (decide (n ≥ (1:Int))) then
 some (decide (n ≤ (4096:Int)))
 else
 some false
def C225 : Con where
 X := Int
 Y := Bool
 e := 0
 args x := [.dat T2 x]
 hin x := []
 F x := f225 x
 ret y := [.dat .bool y]
 hout y := []
 nout := 0
theorem C225_vc (n:Int) (y : Bool) (q : f225 n = some y) : VC Tryz.f225 C225 n y := by
 unfold f225 at q
 refine OL (OL (cI q (fun q=>?_) (fun q=>?_)))
 ·refine gX (cT ?_)
  cases sE q
  refine AI rfl (E4 [] (R2 (AI TV TV)))
 refine gM (cF ?_)
 cases sE q
 refine AI rfl (E4 [] (R2 (AI TV TV)))
theorem C225_holds : HP C225 225 := hH Tryz.f225 (by kernel_rfl) rfl (fun x y q=>C225_vc x y q)
theorem f225_in : InP 225 := inP (by kernel_rfl)
def f172_j4 (g : LI×LI) (k : LI×LI) (step:Int) (long:Int) : Option Bool :=
 bindF (f59 (g.1,g.2)) fun r15 =>
 bif (!r15) then
 some true
 else
 bindF (f59 (k.1,k.2)) fun r16 =>
 bif (!r16) then
 some true
 else
 bindF (f224 step) fun r17 =>
 bif (!r17) then
 some true
 else
 bindF (f225 long) fun r18 =>
 some (!r18)
def f172_j5 (g : LI×LI) (k : LI×LI) (step:Int) (long:Int) : Option Bool :=
 bif ((List.length g.1:Int) != (2:Int)) then
 some true
 else
 bif ((List.length k.1:Int) != (3:Int)) then
 some true
 else
 guardF (0 ≤ (0:Int) ∧ (0:Int) < (List.length k.1:Int)) <|
 guardF (0 ≤ (0:Int) ∧ (0:Int) < (List.length g.1:Int)) <|
 bif ((rd (0:Int) k.1 (0:Int)) != (rd (0:Int) g.1 (0:Int))) then
 some true
 else
 guardF (0 ≤ (2:Int) ∧ (2:Int) < (List.length k.1:Int)) <|
 guardF (0 ≤ (1:Int) ∧ (1:Int) < (List.length g.1:Int)) <|
 bindF (f226 long (rd (0:Int) k.1 (2:Int)) step) fun q3_28 =>
 some (q3_28 != (rd (0:Int) g.1 (1:Int)))
def f172_j3 (g : LI×LI) (k : LI×LI) (step:Int) (long:Int) : Option (Sum Unit Int) :=
 bindF (f172_j4 g k step long) fun z14 =>
 bif z14 then
 some (Sum.inr (1:Int))
 else
 bindF (f172_j5 g k step long) fun z19 =>
 bif z19 then
 some (Sum.inr (4:Int))
 else
 some (Sum.inl ())
def f172_j45 (g : LI×LI) (step:Int) (long:Int) (v110:Int) (v127:Int) : Option Bool :=
 guardF (step ≠ 0) <|
 bif ((Int.tmod (i64.wrap ((Int.tmod v110 long) - v127)) step) == (0:Int)) then
 some (decide ((i64.wrap (Int.tdiv (i64.wrap ((Int.tmod v110 long) - v127)) step)) < (rd (0:Int) g.1 (1:Int))))
 else
 some false
def f172_l44 (g : LI×LI) (k : LI×LI) (step:Int) (long:Int) (v110:Int) (v120:Int) (go : (Int×Int×Int×Int) → Option (Int×Int×Int)) (v127:Int) (c4_0_2:Int) (c4_1_2:Int) (c4_2_2:Int) : Option (Int×Int×Int) :=
 bif (decide (v127 < (if (i64.wrap ((Int.tmod v110 long) + (1:Int))) < (rd (0:Int) k.1 (2:Int)) then (i64.wrap ((Int.tmod v110 long) + (1:Int))) else (rd (0:Int) k.1 (2:Int))))) then
 guardF (step ≠ 0) <|
 bindF (f172_j45 g step long v110 v127) fun z59 =>
 bif z59 then
 guardF (0 ≤ (i64.wrap ((i64.wrap (v120 * (rd (0:Int) g.1 (1:Int)))) + (i64.wrap (Int.tdiv (i64.wrap ((Int.tmod v110 long) - v127)) step)))) ∧ (i64.wrap ((i64.wrap (v120 * (rd (0:Int) g.1 (1:Int)))) + (i64.wrap (Int.tdiv (i64.wrap ((Int.tmod v110 long) - v127)) step)))) < (List.length g.2:Int)) <|
 guardF (0 ≤ (i64.wrap ((i64.wrap ((i64.wrap ((i64.wrap (v120 * (rd (0:Int) k.1 (1:Int)))) + (i64.wrap (Int.tdiv v110 long)))) * (rd (0:Int) k.1 (2:Int)))) + v127)) ∧ (i64.wrap ((i64.wrap ((i64.wrap ((i64.wrap (v120 * (rd (0:Int) k.1 (1:Int)))) + (i64.wrap (Int.tdiv v110 long)))) * (rd (0:Int) k.1 (2:Int)))) + v127)) < (List.length k.2:Int)) <|
 bindF (f228 c4_0_2 c4_1_2 c4_2_2 (rd (0:Int) g.2 (i64.wrap ((i64.wrap (v120 * (rd (0:Int) g.1 (1:Int)))) + (i64.wrap (Int.tdiv (i64.wrap ((Int.tmod v110 long) - v127)) step))))) (rd (0:Int) k.2 (i64.wrap ((i64.wrap ((i64.wrap ((i64.wrap (v120 * (rd (0:Int) k.1 (1:Int)))) + (i64.wrap (Int.tdiv v110 long)))) * (rd (0:Int) k.1 (2:Int)))) + v127)))) fun q22_22 =>
 go ((i64.wrap (v127 + (1:Int))),q22_22.1,q22_22.2.1,q22_22.2.2)
 else
 go ((i64.wrap (v127 + (1:Int))),c4_0_2,c4_1_2,c4_2_2)
 else
 some (c4_0_2,c4_1_2,c4_2_2)
def f172_l41 (g : LI×LI) (k : LI×LI) (step:Int) (long:Int) (v110:Int) (go : (Int×Int×Int×Int) → Option (Int×Int×Int)) (v120:Int) (c4_0:Int) (c4_1:Int) (c4_2:Int) : Option (Int×Int×Int) :=
 bif (decide (v120 < (rd (0:Int) k.1 (0:Int)))) then
 bindF (loopF (fun go x=>f172_l44 g k step long v110 v120 go x.1 x.2.1 x.2.2.1 x.2.2.2) fuelN ((0:Int),c4_0,c4_1,c4_2)) fun z58 =>
 go ((i64.wrap (v120 + (1:Int))),z58.1,z58.2.1,z58.2.2)
 else
 some (c4_0,c4_1,c4_2)
def f172_l32 (g : LI×LI) (k : LI×LI) (step:Int) (long:Int) (q5_19 : Int×LI×LI) (go : (Int×LI) → Option LI) (v110:Int) (l5 : LI) : Option LI :=
 bif (decide (v110 < (List.length q5_19.2.2:Int))) then
 guardF (long ≠ 0) <|
 guardF (long ≠ 0) <|
 bindF (loopF (fun go x=>f172_l41 g k step long v110 go x.1 x.2.1 x.2.2.1 x.2.2.2) fuelN ((0:Int),(0:Int),(0:Int),(0:Int))) fun z55 =>
 bindF (f229 z55.1 z55.2.1 z55.2.2 (32:Int)) fun q25_3 =>
 guardF (0 ≤ v110 ∧ v110 < (List.length l5:Int)) <|
 go ((i64.wrap (v110 + (1:Int))),(List.set l5 (Int.toNat v110) q25_3.1))
 else
 some l5
def f172 (g : LI×LI) (k : LI×LI) (step:Int) (long:Int) : Option (Int×LI×LI) :=
 bindF (f172_j3 g k step long) fun z10 =>
 sumF z10 (fun z10a =>
 guardF (0 ≤ (0:Int) ∧ (0:Int) < (List.length k.1:Int)) <|
 guardF (0 ≤ (1:Int) ∧ (1:Int) < (List.length k.1:Int)) <|
 guardF (0 ≤ (2:Int) ∧ (2:Int) < (List.length k.1:Int)) <|
 guardF (0 ≤ (1:Int) ∧ (1:Int) < (List.length g.1:Int)) <|
 bindF (f227 ([(rd (0:Int) k.1 (1:Int)),long])) fun q5_19 =>
 bif (q5_19.1 != (0:Int)) then
 some (q5_19.1,[],[])
 else
 bindF (loopF (fun go x=>f172_l32 g k step long q5_19 go x.1 x.2) fuelN ((0:Int),q5_19.2.2)) fun z46 =>
 some ((0:Int),q5_19.2.1,z46)) (fun z10b =>
 some (z10b,[],[]))
def C172 : Con where
 X := (LI×LI)×(LI×LI)×Int×Int
 Y := Int×LI×LI
 e := 0
 args x := [.dat T3 x.1,.dat T3 x.2.1,.dat T2 x.2.2.1,.dat T2 x.2.2.2]
 hin x := []
 F x := f172 x.1 x.2.1 x.2.2.1 x.2.2.2
 ret y := [.raw true [(.osl 0),(.osl 1)],.dat T2 y.1]
 hout y := [(0,.arr 3 T2 y.2.1),(1,.arr 40 T2 y.2.2)]
 nout := 2
theorem C172_vc (g : LI×LI) (k : LI×LI) (step:Int) (long:Int) (y : Int×LI×LI) (q : f172 g k step long = some y) : VC Tryz.f172 C172 (g,k,step,long) y := by
 unfold f172 at q
 refine OL ?_
 obtain ⟨z10,hz10,q⟩ := bE q
 refine OQ ⟨Sum.elim (fun z10a=>[(0,⟨[(2,.dat T2 step),(3,.dat T2 long),(4,P0 0 0),(5,P0 1 0),(8,P0 2 0)],[(0,.cells [(.d T1 g.1),(.d T1 g.2)]),(1,.cells [(.d T1 k.1),(.d T1 k.2)]),(2,.cells [N0,N0])],3⟩)]) (fun z10b=>[(1,⟨[(8,P0 0 0),(9,.dat T2 z10b)],[(0,.cells [N0,N0])],1⟩)]) z10,?_,?_⟩
 ·have q := hz10
  clear hz10
  unfold f172_j3 at q
  obtain ⟨z14,hz14,q⟩ := bE q
  refine OQ ⟨[(0,⟨[(2,.dat T2 step),(3,.dat T2 long),(4,P0 0 0),(5,P0 1 0),(8,P0 2 0),(23,.dat .bool z14)],[(0,.cells [(.d T1 g.1),(.d T1 g.2)]),(1,.cells [(.d T1 k.1),(.d T1 k.2)]),(2,.cells [N0,N0])],3⟩)],?_,?_⟩
  ·have q := hz14
   clear hz14
   unfold f172_j4 at q
   obtain ⟨r15,hr15,q⟩ := bE q
   refine OL (AI f59_in (cV (cQ C59 (g.1,g.2) r15 [] false C59_holds hr15 rfl rfl (R2 (K0 (cN q (fun q=>?_) (fun q=>?_)))))))
   ·refine gY ?_
    obtain ⟨r16,hr16,q⟩ := bE q
    refine OL (AI f59_in (cV (cQ C59 (k.1,k.2) r16 [] false C59_holds hr16 rfl rfl (R2 (K0 (gY (cF (cN q (fun q=>?_) (fun q=>?_)))))))))
    ·refine gY ?_
     obtain ⟨r17,hr17,q⟩ := bE q
     refine OL (AI f224_in (cV (cQ C224 step r17 [] false C224_holds hr17 rfl rfl (AI rfl (K0 (gY (cF (cN q (fun q=>?_) (fun q=>?_)))))))))
     ·refine gY ?_
      obtain ⟨r18,hr18,q⟩ := bE q
      refine OL (AI f225_in (cV (cQ C225 long r18 [] false C225_holds hr18 rfl rfl (AI rfl (K0 (gY (cF ?_)))))))
      cases sE q
      refine E4 I3 (R4 (AI (R3 TV) (R3 TV)))
     refine gN (gN (cT ?_))
     cases sE q
     refine E4 I3 (R4 (AI (R3 TV) (R3 TV)))
    refine gN (gN (cT (gN (gN (gN (cT ?_))))))
    cases sE q
    refine E4 I3 (R4 (AI (R3 TV) (R3 TV)))
   refine gN (gN (cT (gN (gN (gN (cT (gN (gN (gN (cT ?_))))))))))
   cases sE q
   refine E4 I3 (R4 (AI (R3 TV) (R3 TV)))
  refine AI (cI q (fun q=>?_) (fun q=>?_)) TV
  ·refine OL (OL ?_)
   cases sE q
   refine E4 [(0,some 2)] (R2 (AJ (AI rfl TV)))
  obtain ⟨z19,hz19,q⟩ := bE q
  refine OQ ⟨[(0,⟨[(2,.dat T2 step),(3,.dat T2 long),(4,P0 0 0),(5,P0 1 0),(8,P0 2 0),(43,.dat .bool z19)],[(0,.cells [(.d T1 g.1),(.d T1 g.2)]),(1,.cells [(.d T1 k.1),(.d T1 k.2)]),(2,.cells [N0,N0])],3⟩)],?_,?_⟩
  ·have q := hz19
   clear hz19
   unfold f172_j5 at q
   refine EI (.take 0 (.take 1 (.take 2 (.take 3 (.take 4 (.take 5 (.take 6 (.take 7 (.take 8 (.take 9 (.take 10 (.take 11 (.take 12 (.take 13 (.take 14 (.take 15 (.take 16 (.take 17 (.take 18 (.take 19 (.take 20 (.take 21 (.take 22 (.take 23 (.take 24 (.take 25 (.take 26 (.take 27 (.take 29 (.take 30 (.take 31 (.take 32 (.alt 28 (.take 33 (.take 34 (.take 35 .done))) .done))))))))))))))))))))))))))))))))) (EI [] (EI [] (AI rfl (cN q (fun q=>?_) (fun q=>?_)))))
   ·refine gY (gY (gY (cF (cN q (fun q=>?_) (fun q=>?_)))))
    ·refine gY (gY (gI q (fun q=>?_)))
     refine gY (gY (gY (gY (gI q (fun q=>?_)))))
     refine gY (gY (cF (cN q (fun q=>?_) (fun q=>?_))))
     ·refine gY (gY (gY (gI q (fun q=>?_))))
      refine gY (gY (gY (gY (gY (gI q (fun q=>?_))))))
      refine gY (AI TV (gY ?_))
      obtain ⟨q3_28,hq3_28,q⟩ := bE q
      refine OL (AI f226_in (cV (cQ C226 (long,(rd (0:Int) k.1 (2:Int)),step) q3_28 [] false C226_holds hq3_28 rfl rfl (R3 (K0 (gY (cF ?_)))))))
      cases sE q
      refine E4 I3 (R4 (AI (R3 TV) (R3 TV)))
     refine gN (gN (gN (gN (gN (gN (gN (gN (gN (AI TV (gN (gN (cT ?_))))))))))))
     cases sE q
     refine E4 I3 (R4 (AI (R3 TV) (R3 TV)))
    refine gN (gN (gN (gN (gN (gN (gN (gN (cT (gN (gN (gN (gN (gN (gN (gN (gN (gN (gN (AI TV (gN (gN (cT ?_))))))))))))))))))))))
    cases sE q
    refine E4 I3 (R4 (AI (R3 TV) (R3 TV)))
   refine gN (gN (gN (cT (gN (gN (gN (gN (gN (gN (gN (gN (gN (cT (gN (gN (gN (gN (gN (gN (gN (gN (gN (gN (AI TV (gN (gN (cT ?_)))))))))))))))))))))))))))
   cases sE q
   refine E4 I3 (R4 (AI (R3 TV) (R3 TV)))
  refine AI (cI q (fun q=>?_) (fun q=>?_)) TV
  ·refine OL (OL ?_)
   cases sE q
   refine E4 [(0,some 2)] (R2 (AJ (AI rfl TV)))
  cases sE q
  refine E4 I3 (R3 (AI (R3 TV) (R3 TV)))
 rcases z10 with z10a | z10b
 ·dsimp only [sumF] at q
  refine AI (OL (EI (.take 0 (.take 1 (.take 2 (.take 3 (.take 4 (.take 5 (.take 6 (.take 7 (.take 8 (.take 9 (.take 10 (.take 11 (.take 12 (.take 13 (.take 14 (.take 15 (.take 16 (.take 17 (.take 18 (.take 19 .done)))))))))))))))))))) (EI [] (EI [] (AI rfl (gI q (fun q=>?_))))))) TV
  refine gI q (fun q=>?_)
  refine gI q (fun q=>?_)
  refine gI q (fun q=>?_)
  refine OL (OL ?_)
  obtain ⟨q5_19,hq5_19,q⟩ := bE q
  refine OL (AI f227_in (cV (cQ C227 [(rd (0:Int) k.1 (1:Int)),long] q5_19 [] true C227_holds hq5_19 rfl rfl (AI rfl (AI (fun _=>rfl) (R2 (AI TV (AI TV (OL (OL (OL (cI q (fun q=>?_) (fun q=>?_)))))))))))))
  ·refine OL (OL ?_)
   cases sE q
   refine AI rfl (E4 [(0,none),(1,none)] (R2 (AJ (R2 TV))))
  refine OL (OL ?_)
  obtain ⟨z46,hz46,q⟩ := bE q
  refine lI (Int×LI) LI (fun x=>⟨[(2,.dat T2 step),(3,.dat T2 long),(4,P0 0 0),(5,P0 1 0),(8,P0 2 0),(10,.dat T2 (rd (0:Int) k.1 (0:Int))),(11,.dat T2 (rd (0:Int) k.1 (1:Int))),(12,.dat T2 (rd (0:Int) k.1 (2:Int))),(13,.dat T2 (rd (0:Int) g.1 (1:Int))),(14,P0 3 0),(109,.dat T2 (List.length q5_19.2.2:Int)),(110,.dat T2 x.1)],[(0,.cells [(.d T1 g.1),(.d T1 g.2)]),(1,.cells [(.d T1 k.1),(.d T1 k.2)]),(2,.cells [N0,N0]),(3,.cells [(.osl 4),(.osl 5)]),(4,.arr 3 T2 q5_19.2.1),(5,.arr 40 T2 x.2)],6⟩) (fun z=>[(3,⟨[(8,P0 0 0),(14,P0 1 0)],[(0,.cells [N0,N0]),(1,.cells [(.osl 2),(.osl 3)]),(2,.arr 3 T2 q5_19.2.1),(3,.arr 40 T2 z)],4⟩)]) (loopF (fun go x=>f172_l32 g k step long q5_19 go x.1 x.2)) fuelN ((0:Int),q5_19.2.2) z46 (AI hz46 (AI (E4 [(0,some 0),(1,some 1),(2,some 2),(3,some 6),(4,some 4),(5,some 5)] (R9 (AI (R4 TV) (R6 TV)))) (AI (fun _ _ h=>lZ h) (AI (fun m=>curI (fun v110=>fun l5 z q=>?_)) ?_))))
  ·have q : f172_l32 g k step long q5_19 (loopF (fun go x=>f172_l32 g k step long q5_19 go x.1 x.2) m) v110 l5 = some z := q
   unfold f172_l32 at q
   refine OL (OL (cI q (fun q=>?_) (fun q=>?_)))
   ·refine OL (OL (OL (EI (.take 0 (.take 1 (.take 2 (.take 3 (.take 4 (.take 5 (.take 6 (.take 7 .done)))))))) (EI [] (EI [] (AI rfl (gI q (fun q=>?_))))))))
    refine gI q (fun q=>?_)
    refine OL (OL (OL ?_))
    obtain ⟨z55,hz55,q⟩ := bE q
    refine lI (Int×Int×Int×Int) (Int×Int×Int) (fun x=>⟨[(2,.dat T2 step),(3,.dat T2 long),(4,P0 0 0),(5,P0 1 0),(8,P0 2 0),(10,.dat T2 (rd (0:Int) k.1 (0:Int))),(11,.dat T2 (rd (0:Int) k.1 (1:Int))),(12,.dat T2 (rd (0:Int) k.1 (2:Int))),(13,.dat T2 (rd (0:Int) g.1 (1:Int))),(14,P0 3 0),(16,.dat T2 v110),(17,.dat T2 (i64.wrap (Int.tdiv v110 long))),(18,.dat T2 (Int.tmod v110 long)),(19,P0 4 0),(109,.dat T2 (List.length q5_19.2.2:Int)),(110,.dat T2 v110),(119,.dat T2 (rd (0:Int) k.1 (0:Int))),(120,.dat T2 x.1)],[(0,.cells [(.d T1 g.1),(.d T1 g.2)]),(1,.cells [(.d T1 k.1),(.d T1 k.2)]),(2,.cells [N0,N0]),(3,.cells [(.osl 5),(.osl 6)]),(4,.cells [(.d T2 x.2.1),(.d T2 x.2.2.1),(.d T4 x.2.2.2)]),(5,.arr 3 T2 q5_19.2.1),(6,.arr 40 T2 l5)],7⟩) (fun z=>[(5,⟨[(2,.dat T2 step),(3,.dat T2 long),(4,P0 0 0),(5,P0 1 0),(8,P0 2 0),(10,.dat T2 (rd (0:Int) k.1 (0:Int))),(11,.dat T2 (rd (0:Int) k.1 (1:Int))),(12,.dat T2 (rd (0:Int) k.1 (2:Int))),(13,.dat T2 (rd (0:Int) g.1 (1:Int))),(14,P0 3 0),(16,.dat T2 v110),(19,P0 4 0),(109,.dat T2 (List.length q5_19.2.2:Int)),(110,.dat T2 v110)],[(0,.cells [(.d T1 g.1),(.d T1 g.2)]),(1,.cells [(.d T1 k.1),(.d T1 k.2)]),(2,.cells [N0,N0]),(3,.cells [(.osl 5),(.osl 6)]),(4,.cells [(.d T2 z.1),(.d T2 z.2.1),(.d T4 z.2.2)]),(5,.arr 3 T2 q5_19.2.1),(6,.arr 40 T2 l5)],7⟩)]) (loopF (fun go x=>f172_l41 g k step long v110 go x.1 x.2.1 x.2.2.1 x.2.2.2)) fuelN ((0:Int),(0:Int),(0:Int),(0:Int)) z55 (AI hz55 (AI (E4 [(0,some 0),(1,some 1),(2,some 2),(3,some 3),(4,some 6),(5,some 4),(6,some 5)] (R14 (AI (R5 TV) (R7 TV)))) (AI (fun _ _ h=>lZ h) (AI (fun m=>curI (fun v120=>curI (fun c4_0=>curI (fun c4_1=>fun c4_2 z q=>?_)))) ?_))))
    ·have q : f172_l41 g k step long v110 (loopF (fun go x=>f172_l41 g k step long v110 go x.1 x.2.1 x.2.2.1 x.2.2.2) m) v120 c4_0 c4_1 c4_2 = some z := q
     unfold f172_l41 at q
     refine OL (OL (cI q (fun q=>?_) (fun q=>?_)))
     ·refine OL (OL (OL ?_))
      obtain ⟨z58,hz58,q⟩ := bE q
      refine lI (Int×Int×Int×Int) (Int×Int×Int) (fun x=>⟨[(2,.dat T2 step),(3,.dat T2 long),(4,P0 0 0),(5,P0 1 0),(8,P0 2 0),(10,.dat T2 (rd (0:Int) k.1 (0:Int))),(11,.dat T2 (rd (0:Int) k.1 (1:Int))),(12,.dat T2 (rd (0:Int) k.1 (2:Int))),(13,.dat T2 (rd (0:Int) g.1 (1:Int))),(14,P0 3 0),(16,.dat T2 v110),(17,.dat T2 (i64.wrap (Int.tdiv v110 long))),(18,.dat T2 (Int.tmod v110 long)),(19,P0 4 0),(20,.dat T2 v120),(109,.dat T2 (List.length q5_19.2.2:Int)),(110,.dat T2 v110),(119,.dat T2 (rd (0:Int) k.1 (0:Int))),(120,.dat T2 v120),(126,.dat T2 (if (i64.wrap ((Int.tmod v110 long) + (1:Int))) < (rd (0:Int) k.1 (2:Int)) then (i64.wrap ((Int.tmod v110 long) + (1:Int))) else (rd (0:Int) k.1 (2:Int)))),(127,.dat T2 x.1)],[(0,.cells [(.d T1 g.1),(.d T1 g.2)]),(1,.cells [(.d T1 k.1),(.d T1 k.2)]),(2,.cells [N0,N0]),(3,.cells [(.osl 5),(.osl 6)]),(4,.cells [(.d T2 x.2.1),(.d T2 x.2.2.1),(.d T4 x.2.2.2)]),(5,.arr 3 T2 q5_19.2.1),(6,.arr 40 T2 l5)],7⟩) (fun z=>[(7,⟨[(2,.dat T2 step),(3,.dat T2 long),(4,P0 0 0),(5,P0 1 0),(8,P0 2 0),(10,.dat T2 (rd (0:Int) k.1 (0:Int))),(11,.dat T2 (rd (0:Int) k.1 (1:Int))),(12,.dat T2 (rd (0:Int) k.1 (2:Int))),(13,.dat T2 (rd (0:Int) g.1 (1:Int))),(14,P0 3 0),(16,.dat T2 v110),(17,.dat T2 (i64.wrap (Int.tdiv v110 long))),(18,.dat T2 (Int.tmod v110 long)),(19,P0 4 0),(109,.dat T2 (List.length q5_19.2.2:Int)),(110,.dat T2 v110),(119,.dat T2 (rd (0:Int) k.1 (0:Int))),(120,.dat T2 v120)],[(0,.cells [(.d T1 g.1),(.d T1 g.2)]),(1,.cells [(.d T1 k.1),(.d T1 k.2)]),(2,.cells [N0,N0]),(3,.cells [(.osl 5),(.osl 6)]),(4,.cells [(.d T2 z.1),(.d T2 z.2.1),(.d T4 z.2.2)]),(5,.arr 3 T2 q5_19.2.1),(6,.arr 40 T2 l5)],7⟩)]) (loopF (fun go x=>f172_l44 g k step long v110 v120 go x.1 x.2.1 x.2.2.1 x.2.2.2)) fuelN ((0:Int),c4_0,c4_1,c4_2) z58 (AI hz58 (AI (E4 I7 (R17 (AI (R5 TV) (R7 TV)))) (AI (fun _ _ h=>lZ h) (AI (fun m=>curI (fun v127=>curI (fun c4_0_2=>curI (fun c4_1_2=>fun c4_2_2 z q=>?_)))) ?_))))
      ·have q : f172_l44 g k step long v110 v120 (loopF (fun go x=>f172_l44 g k step long v110 v120 go x.1 x.2.1 x.2.2.1 x.2.2.2) m) v127 c4_0_2 c4_1_2 c4_2_2 = some z := q
       unfold f172_l44 at q
       refine OL (OL (cI q (fun q=>?_) (fun q=>?_)))
       ·refine OL (OL (OL (gI q (fun q=>?_))))
        obtain ⟨z59,hz59,q⟩ := bE q
        refine OQ ⟨[(0,⟨[(2,.dat T2 step),(3,.dat T2 long),(4,P0 0 0),(5,P0 1 0),(8,P0 2 0),(10,.dat T2 (rd (0:Int) k.1 (0:Int))),(11,.dat T2 (rd (0:Int) k.1 (1:Int))),(12,.dat T2 (rd (0:Int) k.1 (2:Int))),(13,.dat T2 (rd (0:Int) g.1 (1:Int))),(14,P0 3 0),(16,.dat T2 v110),(17,.dat T2 (i64.wrap (Int.tdiv v110 long))),(18,.dat T2 (Int.tmod v110 long)),(19,P0 4 0),(20,.dat T2 v120),(21,.dat T2 v127),(22,.dat T2 (i64.wrap (Int.tdiv (i64.wrap ((Int.tmod v110 long) - v127)) step))),(109,.dat T2 (List.length q5_19.2.2:Int)),(110,.dat T2 v110),(119,.dat T2 (rd (0:Int) k.1 (0:Int))),(120,.dat T2 v120),(126,.dat T2 (if (i64.wrap ((Int.tmod v110 long) + (1:Int))) < (rd (0:Int) k.1 (2:Int)) then (i64.wrap ((Int.tmod v110 long) + (1:Int))) else (rd (0:Int) k.1 (2:Int)))),(127,.dat T2 v127),(145,.dat .bool z59)],[(0,.cells [(.d T1 g.1),(.d T1 g.2)]),(1,.cells [(.d T1 k.1),(.d T1 k.2)]),(2,.cells [N0,N0]),(3,.cells [(.osl 5),(.osl 6)]),(4,.cells [(.d T2 c4_0_2),(.d T2 c4_1_2),(.d T4 c4_2_2)]),(5,.arr 3 T2 q5_19.2.1),(6,.arr 40 T2 l5)],7⟩)],?_,?_⟩
        ·have q := hz59
         clear hz59
         unfold f172_j45 at q
         refine gI q (fun q=>?_)
         refine cI q (fun q=>?_) (fun q=>?_)
         ·refine gX (gX (cT ?_))
          cases sE q
          refine E4 I7 (R20 (AI (R5 TV) (R7 TV)))
         refine gM (gM (cF ?_))
         cases sE q
         refine E4 I7 (R20 (AI (R5 TV) (R7 TV)))
        refine AI (cI q (fun q=>?_) (fun q=>?_)) TV
        ·refine EI (.take 0 (.take 1 (.take 2 (.take 3 (.take 4 (.take 5 (.take 6 (.take 7 (.take 8 (.take 9 (.take 10 (.take 11 (.take 12 (.take 13 (.take 14 (.take 15 (.take 16 (.take 17 (.take 18 (.take 19 (.take 20 (.take 21 (.alt 22 .done .done))))))))))))))))))))))) (EI [] (EI [] (AI rfl (gI q (fun q=>?_)))))
         refine gI q (fun q=>?_)
         refine AI TV ?_
         obtain ⟨q22_22,hq22_22,q⟩ := bE q
         refine OL (AI f228_in (cV (cQ C228 (c4_0_2,c4_1_2,c4_2_2,(rd (0:Int) g.2 (i64.wrap ((i64.wrap (v120 * (rd (0:Int) g.1 (1:Int)))) + (i64.wrap (Int.tdiv (i64.wrap ((Int.tmod v110 long) - v127)) step))))),(rd (0:Int) k.2 (i64.wrap ((i64.wrap ((i64.wrap ((i64.wrap (v120 * (rd (0:Int) k.1 (1:Int)))) + (i64.wrap (Int.tdiv v110 long)))) * (rd (0:Int) k.1 (2:Int)))) + v127)))) q22_22 [(0,some 4)] false C228_holds hq22_22 rfl rfl (R2 (AI NH (R2 (AJ (AJ (EI ((i64.wrap (v127 + (1:Int))),q22_22.1,q22_22.2.1,q22_22.2.2) (AI q (E4 I7 (R17 (AI (R5 TV) (R7 TV))))))))))))))
        refine EI ((i64.wrap (v127 + (1:Int))),c4_0_2,c4_1_2,c4_2_2) (AI q (E4 I7 (R17 (AI (R5 TV) (R7 TV)))))
       cases sE q
       refine E4 I7 (R14 (AI (R5 TV) (R7 TV)))
      refine AI (EI ((i64.wrap (v120 + (1:Int))),z58.1,z58.2.1,z58.2.2) (AI q (E4 I7 (R14 (AI (R5 TV) (R7 TV)))))) TV
     cases sE q
     refine E4 I7 (R10 (AI (R5 TV) (R7 TV)))
    refine AI (EI (.take 0 (.take 1 (.take 2 (.alt 3 (.take 4 (.alt 5 .done .done)) .done)))) (EI [] (EI [] (AI rfl (AI TV ?_))))) TV
    obtain ⟨q25_3,hq25_3,q⟩ := bE q
    refine OL (AI f229_in (cV (cQ C229 (z55.1,z55.2.1,z55.2.2,(32:Int)) q25_3 [(0,some 4)] false C229_holds hq25_3 rfl rfl (AI rfl (AI NH (R2 (AJ (AJ (gI q (fun q=>?_))))))))))
    refine AI TV (OL (EI ((i64.wrap (v110 + (1:Int))),(List.set l5 (Int.toNat v110) q25_3.1)) (AI q (E4 [(0,some 0),(1,some 1),(2,some 2),(3,some 3),(4,some 5),(5,some 6)] (R9 (AI (R4 TV) (R6 TV)))))))
   cases sE q
   refine E4 [(0,some 2),(1,some 3),(2,some 4),(3,some 5)] (AI rfl (AI (R2 TV) (R4 TV)))
  refine AI (OL (OL ?_)) TV
  cases sE q
  refine AI rfl (E4 [(0,some 2),(1,some 3)] (R2 (AJ (R2 TV))))
 dsimp only [sumF] at q
 refine AI ?_ TV
 cases sE q
 refine AI rfl (E4 [(0,none),(1,none)] (R2 (AJ (R2 TV))))
theorem C172_holds : HP C172 172 := hH Tryz.f172 (by kernel_rfl) rfl (fun x y q=>C172_vc x.1 x.2.1 x.2.2.1 x.2.2.2 y q)
theorem f172_in : InP 172 := inP (by kernel_rfl)
def f173_l1 (g : LI×LI) (r1 : Int×LI×LI×LI) (go : (Int×LI) → Option LI) (v29:Int) (l5 : LI) : Option LI :=
 bif (decide (v29 < (List.length r1.2.2.2:Int))) then
 guardF (0 ≤ v29 ∧ v29 < (List.length r1.2.2.2:Int)) <|
 guardF (0 ≤ v29 ∧ v29 < (List.length g.2:Int)) <|
 guardF (0 ≤ (rd (0:Int) r1.2.2.2 v29) ∧ (rd (0:Int) r1.2.2.2 v29) < (List.length l5:Int)) <|
 go ((i64.wrap (v29 + (1:Int))),(List.set l5 (Int.toNat (rd (0:Int) r1.2.2.2 v29)) (rd (0:Int) g.2 v29)))
 else
 some l5
def f173 (g : LI×LI) (a : LI×LI) (wide:Int) : Option (LI×LI) :=
 bindF (f68 a.1 (0:Int)) fun q6_9 =>
 bindF (f206 (a.1,a.2) wide) fun r1 =>
 bindF (loopF (fun go x=>f173_l1 g r1 go x.1 x.2) fuelN ((0:Int),q6_9.2.2)) fun z2 =>
 some (q6_9.2.1,z2)
def C173 : Con where
 X := (LI×LI)×(LI×LI)×Int
 Y := LI×LI
 e := 0
 args x := [.dat T3 x.1,.dat T3 x.2.1,.dat T2 x.2.2]
 hin x := []
 F x := f173 x.1 x.2.1 x.2.2
 ret y := [.raw true [(.osl 0),(.osl 1)]]
 hout y := [(0,.arr 3 T2 y.1),(1,.arr 40 T2 y.2)]
 nout := 2
theorem C173_vc (g : LI×LI) (a : LI×LI) (wide:Int) (y : LI×LI) (q : f173 g a wide = some y) : VC Tryz.f173 C173 (g,a,wide) y := by
 unfold f173 at q
 refine OL (OL ?_)
 obtain ⟨q6_9,hq6_9,q⟩ := bE q
 refine OL (AI f68_in (cV (cQ C68 (a.1,(0:Int)) q6_9 [] false C68_holds hq6_9 rfl rfl (R2 (K0 (OL (OL ?_)))))))
 obtain ⟨r1,hr1,q⟩ := bE q
 refine OL (AI f206_in (cV (cQ C206 ((a.1,a.2),wide) r1 [] false C206_holds hr1 rfl rfl (R3 (K0 (OL (OL (OL ?_))))))))
 obtain ⟨z2,hz2,q⟩ := bE q
 refine lI (Int×LI) LI (fun x=>⟨[(3,P0 0 0),(6,P0 1 0),(7,P0 2 0),(27,O0 3),(28,.dat T2 (List.length r1.2.2.2:Int)),(29,.dat T2 x.1)],[(0,.cells [(.d T1 g.1),(.d T1 g.2)]),(1,.cells [N0,N0]),(2,.cells [(.osl 4),(.osl 5)]),(3,.arr 3 T2 r1.2.2.2),(4,.arr 3 T2 q6_9.2.1),(5,.arr 40 T2 x.2)],6⟩) (fun z=>[(2,⟨[(6,P0 0 0),(7,P0 1 0)],[(0,.cells [N0,N0]),(1,.cells [(.osl 2),(.osl 3)]),(2,.arr 3 T2 q6_9.2.1),(3,.arr 40 T2 z)],4⟩)]) (loopF (fun go x=>f173_l1 g r1 go x.1 x.2)) fuelN ((0:Int),q6_9.2.2) z2 (AI hz2 (AI (E4 [(0,some 0),(1,some 2),(2,some 5),(3,some 8),(4,some 3),(5,some 4)] (R3 (AI (R4 TV) (R6 TV)))) (AI (fun _ _ h=>lZ h) (AI (fun m=>curI (fun v29=>fun l5 z q=>?_)) ?_))))
 ·have q : f173_l1 g r1 (loopF (fun go x=>f173_l1 g r1 go x.1 x.2) m) v29 l5 = some z := q
  unfold f173_l1 at q
  refine OL (OL (cI q (fun q=>?_) (fun q=>?_)))
  ·refine OL (OL (gI q (fun q=>?_)))
   refine EI (.take 0 (.take 1 (.take 2 (.take 3 (.take 4 (.take 5 (.take 6 (.take 7 (.take 8 (.alt 9 .done .done)))))))))) (EI [] (EI [] (AI rfl (gI q (fun q=>?_)))))
   refine gI q (fun q=>?_)
   refine AI TV (OL (EI ((i64.wrap (v29 + (1:Int))),(List.set l5 (Int.toNat (rd (0:Int) r1.2.2.2 v29)) (rd (0:Int) g.2 v29))) (AI q (E4 I6 (R3 (AI (R4 TV) (R6 TV)))))))
  cases sE q
  refine E4 [(0,some 1),(1,some 2),(2,some 4),(3,some 5)] (AI rfl (AI (R2 TV) (R4 TV)))
 refine AI (OL (OL ?_)) TV
 cases sE q
 refine AI rfl (E4 [(0,some 2),(1,some 3)] (AI rfl (AJ (R2 TV))))
theorem C173_holds : HP C173 173 := hH Tryz.f173 (by kernel_rfl) rfl (fun x y q=>C173_vc x.1 x.2.1 x.2.2 y q)
theorem f173_in : InP 173 := inP (by kernel_rfl)
def f111_j1 (n : ND) : Option Bool :=
 bif (n.1 == (2:Int)) then
 some (n.1 == (2:Int))
 else
 some (n.1 == (3:Int))
def f111 (n : ND) (a : LI×LI) (b : LI×LI) (g : LI×LI) : Option (Int×LI×LI) :=
 bindF (f111_j1 n) fun z1 =>
 bif z1 then
 bindF (f163 (g.1,g.2) a.1) fun r2 =>
 some (r2.1,r2.2.1,r2.2.2)
 else
 bif (n.1 == (4:Int)) then
 bindF (f164 (g.1,g.2) (b.1,b.2)) fun r3 =>
 bindF (f165 (r3.2.1,r3.2.2) r3.1 a.1) fun r4 =>
 some (r4.1,r4.2.1,r4.2.2)
 else
 bif (n.1 == (5:Int)) then
 bindF (f166 (g.1,g.2) n.2.2.2.1) fun r5 =>
 some (r5.1,r5.2.1,r5.2.2)
 else
 bif (n.1 == (6:Int)) then
 bindF (f167 (g.1,g.2) (b.1,b.2) false) fun r6 =>
 some (r6.1,r6.2.1,r6.2.2)
 else
 bif (n.1 == (7:Int)) then
 bindF (f168 (g.1,g.2)) fun r7 =>
 some (r7.1,r7.2.1,r7.2.2)
 else
 bif (n.1 == (8:Int)) then
 bindF (f169 (g.1,g.2) a.1 n.2.2.2.1) fun r8 =>
 some ((0:Int),r8.1,r8.2)
 else
 bif (n.1 == (9:Int)) then
 guardF (0 ≤ (0:Int) ∧ (0:Int) < (List.length g.2:Int)) <|
 bindF (f68 a.1 (rd (0:Int) g.2 (0:Int))) fun q17_6 =>
 some (q17_6.1,q17_6.2.1,q17_6.2.2)
 else
 bif (n.1 == (10:Int)) then
 guardF (0 ≤ (0:Int) ∧ (0:Int) < (List.length g.2:Int)) <|
 bindF (f84 (rd (0:Int) g.2 (0:Int))) fun q19_6 =>
 bindF (f170 (q19_6.1,q19_6.2) (List.length a.2:Int)) fun q19_10 =>
 bindF (f68 a.1 q19_10) fun q19_11 =>
 some (q19_11.1,q19_11.2.1,q19_11.2.2)
 else
 bif (n.1 == (11:Int)) then
 bindF (f171 n.2.2.2.1 (a.1,a.2) (g.1,g.2)) fun q19_15 =>
 some (q19_15.1,q19_15.2.1,q19_15.2.2)
 else
 bif (n.1 == (12:Int)) then
 guardF (0 ≤ (1:Int) ∧ (1:Int) < (List.length a.1:Int)) <|
 bindF (f172 (g.1,g.2) (b.1,b.2) n.2.2.2.1 (rd (0:Int) a.1 (1:Int))) fun q23_8 =>
 some (q23_8.1,q23_8.2.1,q23_8.2.2)
 else
 bif (n.1 == (13:Int)) then
 bindF (f173 (g.1,g.2) (a.1,a.2) n.2.2.2.1) fun q23_12 =>
 some ((0:Int),q23_12.1,q23_12.2)
 else
 bif (n.1 == (14:Int)) then
 bindF (f174 (g.1,g.2) a.1) fun r9 =>
 some (r9.1,r9.2.1,r9.2.2)
 else
 some ((0:Int),[],[])
def C111 : Con where
 X := (ND)×(LI×LI)×(LI×LI)×(LI×LI)
 Y := Int×LI×LI
 e := 0
 args x := [.dat T0 x.1,.dat T3 x.2.1,.dat T3 x.2.2.1,.dat T3 x.2.2.2]
 hin x := []
 F x := f111 x.1 x.2.1 x.2.2.1 x.2.2.2
 ret y := [.raw true [(.osl 0),(.osl 1)],.dat T2 y.1]
 hout y := [(0,.arr 3 T2 y.2.1),(1,.arr 40 T2 y.2.2)]
 nout := 2
theorem C111_vc (n : ND) (a : LI×LI) (b : LI×LI) (g : LI×LI) (y : Int×LI×LI) (q : f111 n a b g = some y) : VC Tryz.f111 C111 (n,a,b,g) y := by
 unfold f111 at q
 refine OL (OL (OL ?_))
 obtain ⟨z1,hz1,q⟩ := bE q
 refine OQ ⟨[(0,⟨[(4,P0 0 0),(5,P0 1 0),(6,P0 2 0),(7,P0 3 0),(8,P0 4 0),(13,.dat T2 n.1),(14,.dat .bool z1)],[(0,.cells [(.d T2 n.1),(.d T2 n.2.1),(.d T2 n.2.2.1),(.d T2 n.2.2.2.1),(.d T1 n.2.2.2.2.1),(.d T1 n.2.2.2.2.2)]),(1,.cells [(.d T1 a.1),(.d T1 a.2)]),(2,.cells [(.d T1 b.1),(.d T1 b.2)]),(3,.cells [(.d T1 g.1),(.d T1 g.2)]),(4,.cells [N0,N0])],5⟩)],?_,?_⟩
 ·have q := hz1
  clear hz1
  unfold f111_j1 at q
  refine OL (cI q (fun q=>?_) (fun q=>?_))
  ·cases sE q
   refine E4 I5 (R3 (AI (R5 TV) (R5 TV)))
  cases sE q
  refine E4 I5 (R3 (AI (R5 TV) (R5 TV)))
 refine AI (cI q (fun q=>?_) (fun q=>?_)) TV
 ·refine OL ?_
  obtain ⟨r2,hr2,q⟩ := bE q
  refine OL (AI f163_in (cV (cQ C163 ((g.1,g.2),a.1) r2 [] false C163_holds hr2 rfl rfl (R3 (K0 (OL ?_))))))
  cases sE q
  refine AI rfl (E4 [(0,some 5),(1,some 6)] (R2 (AJ (R2 TV))))
 refine OL (cI q (fun q=>?_) (fun q=>?_))
 ·refine OL ?_
  obtain ⟨r3,hr3,q⟩ := bE q
  refine OL (AI f164_in (cV (cQ C164 ((g.1,g.2),(b.1,b.2)) r3 [] false C164_holds hr3 rfl rfl (R4 (K0 (OL (OL ?_)))))))
  obtain ⟨r4,hr4,q⟩ := bE q
  refine OL (AI f165_in (cV (cQ C165 ((r3.2.1,r3.2.2),r3.1,a.1) r4 [] true C165_holds hr4 rfl rfl (R4 (AI (fun _=>rfl) (R2 (AI TV (AI TV (OL ?_)))))))))
  cases sE q
  refine AI rfl (E4 [(0,some 8),(1,some 9)] (R2 (AJ (R2 TV))))
 refine OL (cI q (fun q=>?_) (fun q=>?_))
 ·refine OL ?_
  obtain ⟨r5,hr5,q⟩ := bE q
  refine OL (AI f166_in (cV (cQ C166 ((g.1,g.2),n.2.2.2.1) r5 [] false C166_holds hr5 rfl rfl (R3 (K0 (OL ?_))))))
  cases sE q
  refine AI rfl (E4 [(0,some 5),(1,some 6)] (R2 (AJ (R2 TV))))
 refine OL (cI q (fun q=>?_) (fun q=>?_))
 ·refine OL ?_
  obtain ⟨r6,hr6,q⟩ := bE q
  refine OL (AI f167_in (cV (cQ C167 ((g.1,g.2),(b.1,b.2),false) r6 [] false C167_holds hr6 rfl rfl (R5 (K0 (OL ?_))))))
  cases sE q
  refine AI rfl (E4 [(0,some 5),(1,some 6)] (R2 (AJ (R2 TV))))
 refine OL (cI q (fun q=>?_) (fun q=>?_))
 ·refine OL ?_
  obtain ⟨r7,hr7,q⟩ := bE q
  refine OL (AI f168_in (cV (cQ C168 (g.1,g.2) r7 [] false C168_holds hr7 rfl rfl (R2 (K0 (OL ?_))))))
  cases sE q
  refine AI rfl (E4 [(0,some 5),(1,some 6)] (R2 (AJ (R2 TV))))
 refine OL (cI q (fun q=>?_) (fun q=>?_))
 ·refine OL ?_
  obtain ⟨r8,hr8,q⟩ := bE q
  refine OL (AI f169_in (cV (cQ C169 ((g.1,g.2),a.1,n.2.2.2.1) r8 [] false C169_holds hr8 rfl rfl (R4 (K0 (OL ?_))))))
  cases sE q
  refine AI rfl (E4 [(0,some 5),(1,some 6)] (R2 (AJ (R2 TV))))
 refine OL (cI q (fun q=>?_) (fun q=>?_))
 ·refine OL (EI (.take 0 (.take 1 (.take 2 (.take 3 (.take 4 (.take 5 (.alt 6 (.take 7 (.take 8 (.alt 9 (.take 10 .done) .done))) .done))))))) (EI [] (EI [] (AI rfl (gI q (fun q=>?_))))))
  refine AI TV ?_
  obtain ⟨q17_6,hq17_6,q⟩ := bE q
  refine OL (AI f68_in (cV (cQ C68 (a.1,(rd (0:Int) g.2 (0:Int))) q17_6 [] false C68_holds hq17_6 rfl rfl (R2 (K0 (AI TV (OL ?_)))))))
  cases sE q
  refine AI rfl (E4 [(0,some 5),(1,some 6)] (R2 (AJ (R2 TV))))
 refine OL (cI q (fun q=>?_) (fun q=>?_))
 ·refine OL (EI (.take 0 (.take 1 (.take 2 (.take 3 (.take 4 (.take 5 (.take 7 (.take 8 (.take 9 (.alt 6 (.alt 10 (.alt 11 (.take 12 (.take 13 (.alt 14 (.take 15 .done) .done))) .done) .done) .done)))))))))) (EI [] (EI [] (AI rfl (gI q (fun q=>?_))))))
  refine AI TV ?_
  obtain ⟨q19_6,hq19_6,q⟩ := bE q
  refine OL (AI f84_in (cV (cQ C84 (rd (0:Int) g.2 (0:Int)) q19_6 [] false C84_holds hq19_6 rfl rfl (AI rfl (K0 (AI TV ?_))))))
  obtain ⟨q19_10,hq19_10,q⟩ := bE q
  refine OL (AI f170_in (cV (cQ C170 ((q19_6.1,q19_6.2),(List.length a.2:Int)) q19_10 [] false C170_holds hq19_10 rfl rfl (R3 (K0 (AI TV ?_))))))
  obtain ⟨q19_11,hq19_11,q⟩ := bE q
  refine OL (AI f68_in (cV (cQ C68 (a.1,q19_10) q19_11 [] false C68_holds hq19_11 rfl rfl (R2 (K0 (AI TV (OL ?_)))))))
  cases sE q
  refine AI rfl (E4 [(0,some 5),(1,some 6)] (R2 (AJ (R2 TV))))
 refine OL (cI q (fun q=>?_) (fun q=>?_))
 ·refine OL ?_
  obtain ⟨q19_15,hq19_15,q⟩ := bE q
  refine OL (AI f171_in (cV (cQ C171 (n.2.2.2.1,(a.1,a.2),(g.1,g.2)) q19_15 [] false C171_holds hq19_15 rfl rfl (R5 (K0 (OL ?_))))))
  cases sE q
  refine AI rfl (E4 [(0,some 5),(1,some 6)] (R2 (AJ (R2 TV))))
 refine OL (cI q (fun q=>?_) (fun q=>?_))
 ·refine OL (EI (.take 0 (.take 1 (.take 2 (.take 3 (.take 4 (.take 5 (.take 6 (.take 7 (.alt 8 (.take 9 (.take 10 (.alt 11 (.take 12 .done) .done))) .done))))))))) (EI [] (EI [] (AI rfl (gI q (fun q=>?_))))))
  refine AI TV ?_
  obtain ⟨q23_8,hq23_8,q⟩ := bE q
  refine OL (AI f172_in (cV (cQ C172 ((g.1,g.2),(b.1,b.2),n.2.2.2.1,(rd (0:Int) a.1 (1:Int))) q23_8 [] false C172_holds hq23_8 rfl rfl (R6 (K0 (AI TV (OL ?_)))))))
  cases sE q
  refine AI rfl (E4 [(0,some 5),(1,some 6)] (R2 (AJ (R2 TV))))
 refine OL (cI q (fun q=>?_) (fun q=>?_))
 ·refine OL ?_
  obtain ⟨q23_12,hq23_12,q⟩ := bE q
  refine OL (AI f173_in (cV (cQ C173 ((g.1,g.2),(a.1,a.2),n.2.2.2.1) q23_12 [] false C173_holds hq23_12 rfl rfl (R5 (K0 (OL ?_))))))
  cases sE q
  refine AI rfl (E4 [(0,some 5),(1,some 6)] (R2 (AJ (R2 TV))))
 refine OL (cI q (fun q=>?_) (fun q=>?_))
 ·refine OL ?_
  obtain ⟨r9,hr9,q⟩ := bE q
  refine OL (AI f174_in (cV (cQ C174 ((g.1,g.2),a.1) r9 [] false C174_holds hr9 rfl rfl (R3 (K0 (OL ?_))))))
  cases sE q
  refine AI rfl (E4 [(0,some 5),(1,some 6)] (R2 (AJ (R2 TV))))
 refine OL (OL ?_)
 cases sE q
 refine AI rfl (E4 [(0,none),(1,none)] (R2 (AJ (R2 TV))))
theorem C111_holds : HP C111 111 := hH Tryz.f111 (by kernel_rfl) rfl (fun x y q=>C111_vc x.1 x.2.1 x.2.2.1 x.2.2.2 y q)
theorem f111_in : InP 111 := inP (by kernel_rfl)
def f175_j4 (g : LI×LI) (a : LI×LI) (step:Int) (wid:Int) : Option Bool :=
 bindF (f59 (g.1,g.2)) fun r15 =>
 bif (!r15) then
 some true
 else
 bindF (f59 (a.1,a.2)) fun r16 =>
 bif (!r16) then
 some true
 else
 bindF (f224 step) fun r17 =>
 bif (!r17) then
 some true
 else
 bindF (f225 wid) fun r18 =>
 some (!r18)
def f175_j5 (g : LI×LI) (a : LI×LI) (step:Int) (wid:Int) : Option Bool :=
 bif ((List.length g.1:Int) != (2:Int)) then
 some true
 else
 bif ((List.length a.1:Int) != (2:Int)) then
 some true
 else
 guardF (0 ≤ (1:Int) ∧ (1:Int) < (List.length a.1:Int)) <|
 guardF (0 ≤ (1:Int) ∧ (1:Int) < (List.length g.1:Int)) <|
 bindF (f226 (rd (0:Int) a.1 (1:Int)) wid step) fun q3_17 =>
 some (q3_17 != (rd (0:Int) g.1 (1:Int)))
def f175_j3 (g : LI×LI) (a : LI×LI) (step:Int) (wid:Int) : Option (Sum Unit Int) :=
 bindF (f175_j4 g a step wid) fun z14 =>
 bif z14 then
 some (Sum.inr (1:Int))
 else
 bindF (f175_j5 g a step wid) fun z19 =>
 bif z19 then
 some (Sum.inr (4:Int))
 else
 some (Sum.inl ())
def f175_l9 (g : LI×LI) (a : LI×LI) (step:Int) (wid:Int) (v97:Int) (go : (Int×Int×Int×Int) → Option (Int×Int×Int)) (v114:Int) (c4_0:Int) (c4_1:Int) (c4_2:Int) : Option (Int×Int×Int) :=
 bif (decide (v114 < (rd (0:Int) g.1 (1:Int)))) then
 guardF (0 ≤ (i64.wrap ((i64.wrap ((i64.wrap (Int.tdiv v97 (i64.wrap ((rd (0:Int) a.1 (0:Int)) * wid)))) * (rd (0:Int) g.1 (1:Int)))) + v114)) ∧ (i64.wrap ((i64.wrap ((i64.wrap (Int.tdiv v97 (i64.wrap ((rd (0:Int) a.1 (0:Int)) * wid)))) * (rd (0:Int) g.1 (1:Int)))) + v114)) < (List.length g.2:Int)) <|
 guardF (0 ≤ (i64.wrap ((i64.wrap ((i64.wrap ((Int.tmod (i64.wrap (Int.tdiv v97 wid)) (rd (0:Int) a.1 (0:Int))) * (rd (0:Int) a.1 (1:Int)))) + (i64.wrap (v114 * step)))) + (Int.tmod v97 wid))) ∧ (i64.wrap ((i64.wrap ((i64.wrap ((Int.tmod (i64.wrap (Int.tdiv v97 wid)) (rd (0:Int) a.1 (0:Int))) * (rd (0:Int) a.1 (1:Int)))) + (i64.wrap (v114 * step)))) + (Int.tmod v97 wid))) < (List.length a.2:Int)) <|
 bindF (f228 c4_0 c4_1 c4_2 (rd (0:Int) g.2 (i64.wrap ((i64.wrap ((i64.wrap (Int.tdiv v97 (i64.wrap ((rd (0:Int) a.1 (0:Int)) * wid)))) * (rd (0:Int) g.1 (1:Int)))) + v114))) (rd (0:Int) a.2 (i64.wrap ((i64.wrap ((i64.wrap ((Int.tmod (i64.wrap (Int.tdiv v97 wid)) (rd (0:Int) a.1 (0:Int))) * (rd (0:Int) a.1 (1:Int)))) + (i64.wrap (v114 * step)))) + (Int.tmod v97 wid))))) fun q17_22 =>
 go ((i64.wrap (v114 + (1:Int))),q17_22.1,q17_22.2.1,q17_22.2.2)
 else
 some (c4_0,c4_1,c4_2)
def f175_l8 (g : LI×LI) (a : LI×LI) (step:Int) (wid:Int) (q5_14 : Int×LI×LI) (go : (Int×LI) → Option LI) (v97:Int) (l5 : LI) : Option LI :=
 bif (decide (v97 < (List.length q5_14.2.2:Int))) then
 guardF ((i64.wrap ((rd (0:Int) a.1 (0:Int)) * wid)) ≠ 0) <|
 guardF (wid ≠ 0) <|
 guardF ((rd (0:Int) a.1 (0:Int)) ≠ 0) <|
 guardF (wid ≠ 0) <|
 bindF (loopF (fun go x=>f175_l9 g a step wid v97 go x.1 x.2.1 x.2.2.1 x.2.2.2) fuelN ((0:Int),(0:Int),(0:Int),(0:Int))) fun z23 =>
 bindF (f229 z23.1 z23.2.1 z23.2.2 (32:Int)) fun q19_3 =>
 guardF (0 ≤ v97 ∧ v97 < (List.length l5:Int)) <|
 go ((i64.wrap (v97 + (1:Int))),(List.set l5 (Int.toNat v97) q19_3.1))
 else
 some l5
def f175 (g : LI×LI) (a : LI×LI) (step:Int) (wid:Int) : Option (Int×LI×LI) :=
 bindF (f175_j3 g a step wid) fun z10 =>
 sumF z10 (fun z10a =>
 guardF (0 ≤ (0:Int) ∧ (0:Int) < (List.length a.1:Int)) <|
 guardF (0 ≤ (1:Int) ∧ (1:Int) < (List.length a.1:Int)) <|
 guardF (0 ≤ (1:Int) ∧ (1:Int) < (List.length g.1:Int)) <|
 guardF (0 ≤ (0:Int) ∧ (0:Int) < (List.length g.1:Int)) <|
 bindF (f227 ([(rd (0:Int) g.1 (0:Int)),(rd (0:Int) a.1 (0:Int)),wid])) fun q5_14 =>
 bif (q5_14.1 != (0:Int)) then
 some (q5_14.1,[],[])
 else
 bindF (loopF (fun go x=>f175_l8 g a step wid q5_14 go x.1 x.2) fuelN ((0:Int),q5_14.2.2)) fun z22 =>
 some ((0:Int),q5_14.2.1,z22)) (fun z10b =>
 some (z10b,[],[]))
def C175 : Con where
 X := (LI×LI)×(LI×LI)×Int×Int
 Y := Int×LI×LI
 e := 0
 args x := [.dat T3 x.1,.dat T3 x.2.1,.dat T2 x.2.2.1,.dat T2 x.2.2.2]
 hin x := []
 F x := f175 x.1 x.2.1 x.2.2.1 x.2.2.2
 ret y := [.raw true [(.osl 0),(.osl 1)],.dat T2 y.1]
 hout y := [(0,.arr 3 T2 y.2.1),(1,.arr 40 T2 y.2.2)]
 nout := 2
theorem C175_vc (g : LI×LI) (a : LI×LI) (step:Int) (wid:Int) (y : Int×LI×LI) (q : f175 g a step wid = some y) : VC Tryz.f175 C175 (g,a,step,wid) y := by
 unfold f175 at q
 refine OL ?_
 obtain ⟨z10,hz10,q⟩ := bE q
 refine OQ ⟨Sum.elim (fun z10a=>[(0,⟨[(2,.dat T2 step),(3,.dat T2 wid),(4,P0 0 0),(5,P0 1 0),(8,P0 2 0)],[(0,.cells [(.d T1 g.1),(.d T1 g.2)]),(1,.cells [(.d T1 a.1),(.d T1 a.2)]),(2,.cells [N0,N0])],3⟩)]) (fun z10b=>[(1,⟨[(8,P0 0 0),(9,.dat T2 z10b)],[(0,.cells [N0,N0])],1⟩)]) z10,?_,?_⟩
 ·have q := hz10
  clear hz10
  unfold f175_j3 at q
  obtain ⟨z14,hz14,q⟩ := bE q
  refine OQ ⟨[(0,⟨[(2,.dat T2 step),(3,.dat T2 wid),(4,P0 0 0),(5,P0 1 0),(8,P0 2 0),(21,.dat .bool z14)],[(0,.cells [(.d T1 g.1),(.d T1 g.2)]),(1,.cells [(.d T1 a.1),(.d T1 a.2)]),(2,.cells [N0,N0])],3⟩)],?_,?_⟩
  ·have q := hz14
   clear hz14
   unfold f175_j4 at q
   obtain ⟨r15,hr15,q⟩ := bE q
   refine OL (AI f59_in (cV (cQ C59 (g.1,g.2) r15 [] false C59_holds hr15 rfl rfl (R2 (K0 (cN q (fun q=>?_) (fun q=>?_)))))))
   ·refine gY ?_
    obtain ⟨r16,hr16,q⟩ := bE q
    refine OL (AI f59_in (cV (cQ C59 (a.1,a.2) r16 [] false C59_holds hr16 rfl rfl (R2 (K0 (gY (cF (cN q (fun q=>?_) (fun q=>?_)))))))))
    ·refine gY ?_
     obtain ⟨r17,hr17,q⟩ := bE q
     refine OL (AI f224_in (cV (cQ C224 step r17 [] false C224_holds hr17 rfl rfl (AI rfl (K0 (gY (cF (cN q (fun q=>?_) (fun q=>?_)))))))))
     ·refine gY ?_
      obtain ⟨r18,hr18,q⟩ := bE q
      refine OL (AI f225_in (cV (cQ C225 wid r18 [] false C225_holds hr18 rfl rfl (AI rfl (K0 (gY (cF ?_)))))))
      cases sE q
      refine E4 I3 (R4 (AI (R3 TV) (R3 TV)))
     refine gN (gN (cT ?_))
     cases sE q
     refine E4 I3 (R4 (AI (R3 TV) (R3 TV)))
    refine gN (gN (cT (gN (gN (gN (cT ?_))))))
    cases sE q
    refine E4 I3 (R4 (AI (R3 TV) (R3 TV)))
   refine gN (gN (cT (gN (gN (gN (cT (gN (gN (gN (cT ?_))))))))))
   cases sE q
   refine E4 I3 (R4 (AI (R3 TV) (R3 TV)))
  refine AI (cI q (fun q=>?_) (fun q=>?_)) TV
  ·refine OL (OL ?_)
   cases sE q
   refine E4 [(0,some 2)] (R2 (AJ (AI rfl TV)))
  obtain ⟨z19,hz19,q⟩ := bE q
  refine OQ ⟨[(0,⟨[(2,.dat T2 step),(3,.dat T2 wid),(4,P0 0 0),(5,P0 1 0),(8,P0 2 0),(41,.dat .bool z19)],[(0,.cells [(.d T1 g.1),(.d T1 g.2)]),(1,.cells [(.d T1 a.1),(.d T1 a.2)]),(2,.cells [N0,N0])],3⟩)],?_,?_⟩
  ·have q := hz19
   clear hz19
   unfold f175_j5 at q
   refine EI (.take 0 (.take 1 (.take 2 (.take 3 (.take 4 (.take 5 (.take 6 (.take 7 (.take 8 (.take 9 (.take 10 (.take 11 (.take 12 (.take 13 (.take 14 (.take 15 (.take 16 (.take 18 (.take 19 (.take 20 (.take 21 (.alt 17 (.take 22 (.take 23 (.take 24 .done))) .done)))))))))))))))))))))) (EI [] (EI [] (AI rfl (cN q (fun q=>?_) (fun q=>?_)))))
   ·refine gY (gY (gY (cF (cN q (fun q=>?_) (fun q=>?_)))))
    ·refine gY (gY (gI q (fun q=>?_)))
     refine gY (gY (gY (gY (gY (gY (gI q (fun q=>?_)))))))
     refine gY (AI TV (gY ?_))
     obtain ⟨q3_17,hq3_17,q⟩ := bE q
     refine OL (AI f226_in (cV (cQ C226 ((rd (0:Int) a.1 (1:Int)),wid,step) q3_17 [] false C226_holds hq3_17 rfl rfl (R3 (K0 (gY (cF ?_)))))))
     cases sE q
     refine E4 I3 (R4 (AI (R3 TV) (R3 TV)))
    refine gN (gN (gN (gN (gN (gN (gN (gN (gN (AI TV (gN (gN (cT ?_))))))))))))
    cases sE q
    refine E4 I3 (R4 (AI (R3 TV) (R3 TV)))
   refine gN (gN (gN (cT (gN (gN (gN (gN (gN (gN (gN (gN (gN (gN (AI TV (gN (gN (cT ?_)))))))))))))))))
   cases sE q
   refine E4 I3 (R4 (AI (R3 TV) (R3 TV)))
  refine AI (cI q (fun q=>?_) (fun q=>?_)) TV
  ·refine OL (OL ?_)
   cases sE q
   refine E4 [(0,some 2)] (R2 (AJ (AI rfl TV)))
  cases sE q
  refine E4 I3 (R3 (AI (R3 TV) (R3 TV)))
 rcases z10 with z10a | z10b
 ·dsimp only [sumF] at q
  refine AI (OL (EI (.take 0 (.take 1 (.take 2 (.take 3 (.take 4 (.take 5 (.take 6 (.take 7 (.take 8 (.take 9 (.take 10 (.take 11 (.take 12 (.take 13 (.take 14 .done))))))))))))))) (EI [] (EI [] (AI rfl (gI q (fun q=>?_))))))) TV
  refine gI q (fun q=>?_)
  refine gI q (fun q=>?_)
  refine OL (gI q (fun q=>?_))
  refine OL ?_
  obtain ⟨q5_14,hq5_14,q⟩ := bE q
  refine OL (AI f227_in (cV (cQ C227 [(rd (0:Int) g.1 (0:Int)),(rd (0:Int) a.1 (0:Int)),wid] q5_14 [] true C227_holds hq5_14 rfl rfl (AI rfl (AI (fun _=>rfl) (R2 (AI TV (AI TV (OL (OL (OL (cI q (fun q=>?_) (fun q=>?_)))))))))))))
  ·refine OL (OL ?_)
   cases sE q
   refine AI rfl (E4 [(0,none),(1,none)] (R2 (AJ (R2 TV))))
  refine OL (OL ?_)
  obtain ⟨z22,hz22,q⟩ := bE q
  refine lI (Int×LI) LI (fun x=>⟨[(2,.dat T2 step),(3,.dat T2 wid),(4,P0 0 0),(5,P0 1 0),(8,P0 2 0),(10,.dat T2 (rd (0:Int) a.1 (0:Int))),(11,.dat T2 (rd (0:Int) a.1 (1:Int))),(12,.dat T2 (rd (0:Int) g.1 (1:Int))),(13,P0 3 0),(96,.dat T2 (List.length q5_14.2.2:Int)),(97,.dat T2 x.1)],[(0,.cells [(.d T1 g.1),(.d T1 g.2)]),(1,.cells [(.d T1 a.1),(.d T1 a.2)]),(2,.cells [N0,N0]),(3,.cells [(.osl 4),(.osl 5)]),(4,.arr 3 T2 q5_14.2.1),(5,.arr 40 T2 x.2)],6⟩) (fun z=>[(3,⟨[(8,P0 0 0),(13,P0 1 0)],[(0,.cells [N0,N0]),(1,.cells [(.osl 2),(.osl 3)]),(2,.arr 3 T2 q5_14.2.1),(3,.arr 40 T2 z)],4⟩)]) (loopF (fun go x=>f175_l8 g a step wid q5_14 go x.1 x.2)) fuelN ((0:Int),q5_14.2.2) z22 (AI hz22 (AI (E4 [(0,some 0),(1,some 1),(2,some 2),(3,some 6),(4,some 4),(5,some 5)] (R8 (AI (R4 TV) (R6 TV)))) (AI (fun _ _ h=>lZ h) (AI (fun m=>curI (fun v97=>fun l5 z q=>?_)) ?_))))
  ·have q : f175_l8 g a step wid q5_14 (loopF (fun go x=>f175_l8 g a step wid q5_14 go x.1 x.2) m) v97 l5 = some z := q
   unfold f175_l8 at q
   refine OL (OL (cI q (fun q=>?_) (fun q=>?_)))
   ·refine OL (OL (OL (EI (.take 0 (.take 1 (.take 2 (.take 3 (.take 4 (.take 5 (.take 6 (.take 7 (.take 8 (.take 9 (.take 10 (.take 11 (.take 12 (.take 13 (.take 14 (.take 15 .done)))))))))))))))) (EI [] (EI [] (AI rfl (gI q (fun q=>?_))))))))
    refine gI q (fun q=>?_)
    refine gI q (fun q=>?_)
    refine gI q (fun q=>?_)
    refine OL (OL (OL ?_))
    obtain ⟨z23,hz23,q⟩ := bE q
    refine lI (Int×Int×Int×Int) (Int×Int×Int) (fun x=>⟨[(2,.dat T2 step),(3,.dat T2 wid),(4,P0 0 0),(5,P0 1 0),(8,P0 2 0),(10,.dat T2 (rd (0:Int) a.1 (0:Int))),(11,.dat T2 (rd (0:Int) a.1 (1:Int))),(12,.dat T2 (rd (0:Int) g.1 (1:Int))),(13,P0 3 0),(15,.dat T2 v97),(16,.dat T2 (i64.wrap (Int.tdiv v97 (i64.wrap ((rd (0:Int) a.1 (0:Int)) * wid))))),(17,.dat T2 (Int.tmod (i64.wrap (Int.tdiv v97 wid)) (rd (0:Int) a.1 (0:Int)))),(18,.dat T2 (Int.tmod v97 wid)),(19,P0 4 0),(96,.dat T2 (List.length q5_14.2.2:Int)),(97,.dat T2 v97),(113,.dat T2 (rd (0:Int) g.1 (1:Int))),(114,.dat T2 x.1)],[(0,.cells [(.d T1 g.1),(.d T1 g.2)]),(1,.cells [(.d T1 a.1),(.d T1 a.2)]),(2,.cells [N0,N0]),(3,.cells [(.osl 5),(.osl 6)]),(4,.cells [(.d T2 x.2.1),(.d T2 x.2.2.1),(.d T4 x.2.2.2)]),(5,.arr 3 T2 q5_14.2.1),(6,.arr 40 T2 l5)],7⟩) (fun z=>[(5,⟨[(2,.dat T2 step),(3,.dat T2 wid),(4,P0 0 0),(5,P0 1 0),(8,P0 2 0),(10,.dat T2 (rd (0:Int) a.1 (0:Int))),(11,.dat T2 (rd (0:Int) a.1 (1:Int))),(12,.dat T2 (rd (0:Int) g.1 (1:Int))),(13,P0 3 0),(15,.dat T2 v97),(19,P0 4 0),(96,.dat T2 (List.length q5_14.2.2:Int)),(97,.dat T2 v97)],[(0,.cells [(.d T1 g.1),(.d T1 g.2)]),(1,.cells [(.d T1 a.1),(.d T1 a.2)]),(2,.cells [N0,N0]),(3,.cells [(.osl 5),(.osl 6)]),(4,.cells [(.d T2 z.1),(.d T2 z.2.1),(.d T4 z.2.2)]),(5,.arr 3 T2 q5_14.2.1),(6,.arr 40 T2 l5)],7⟩)]) (loopF (fun go x=>f175_l9 g a step wid v97 go x.1 x.2.1 x.2.2.1 x.2.2.2)) fuelN ((0:Int),(0:Int),(0:Int),(0:Int)) z23 (AI hz23 (AI (E4 [(0,some 0),(1,some 1),(2,some 2),(3,some 3),(4,some 6),(5,some 4),(6,some 5)] (R14 (AI (R5 TV) (R7 TV)))) (AI (fun _ _ h=>lZ h) (AI (fun m=>curI (fun v114=>curI (fun c4_0=>curI (fun c4_1=>fun c4_2 z q=>?_)))) ?_))))
    ·have q : f175_l9 g a step wid v97 (loopF (fun go x=>f175_l9 g a step wid v97 go x.1 x.2.1 x.2.2.1 x.2.2.2) m) v114 c4_0 c4_1 c4_2 = some z := q
     unfold f175_l9 at q
     refine OL (OL (cI q (fun q=>?_) (fun q=>?_)))
     ·refine OL (OL (EI (.take 0 (.take 1 (.take 2 (.take 3 (.take 4 (.take 5 (.take 6 (.take 7 (.take 8 (.take 9 (.take 10 (.take 11 (.take 12 (.take 13 (.take 14 (.take 15 (.take 16 (.take 17 (.take 18 (.take 19 (.take 20 (.take 21 (.alt 22 .done .done))))))))))))))))))))))) (EI [] (EI [] (AI rfl (gI q (fun q=>?_)))))))
      refine gI q (fun q=>?_)
      refine AI TV ?_
      obtain ⟨q17_22,hq17_22,q⟩ := bE q
      refine OL (AI f228_in (cV (cQ C228 (c4_0,c4_1,c4_2,(rd (0:Int) g.2 (i64.wrap ((i64.wrap ((i64.wrap (Int.tdiv v97 (i64.wrap ((rd (0:Int) a.1 (0:Int)) * wid)))) * (rd (0:Int) g.1 (1:Int)))) + v114))),(rd (0:Int) a.2 (i64.wrap ((i64.wrap ((i64.wrap ((Int.tmod (i64.wrap (Int.tdiv v97 wid)) (rd (0:Int) a.1 (0:Int))) * (rd (0:Int) a.1 (1:Int)))) + (i64.wrap (v114 * step)))) + (Int.tmod v97 wid))))) q17_22 [(0,some 4)] false C228_holds hq17_22 rfl rfl (R2 (AI NH (R2 (AJ (AJ (EI ((i64.wrap (v114 + (1:Int))),q17_22.1,q17_22.2.1,q17_22.2.2) (AI q (E4 I7 (R14 (AI (R5 TV) (R7 TV))))))))))))))
     cases sE q
     refine E4 I7 (R9 (AI (R5 TV) (R7 TV)))
    refine AI (EI (.take 0 (.take 1 (.take 2 (.alt 3 (.take 4 (.alt 5 .done .done)) .done)))) (EI [] (EI [] (AI rfl (AI TV ?_))))) TV
    obtain ⟨q19_3,hq19_3,q⟩ := bE q
    refine OL (AI f229_in (cV (cQ C229 (z23.1,z23.2.1,z23.2.2,(32:Int)) q19_3 [(0,some 4)] false C229_holds hq19_3 rfl rfl (AI rfl (AI NH (R2 (AJ (AJ (gI q (fun q=>?_))))))))))
    refine AI TV (OL (EI ((i64.wrap (v97 + (1:Int))),(List.set l5 (Int.toNat v97) q19_3.1)) (AI q (E4 [(0,some 0),(1,some 1),(2,some 2),(3,some 3),(4,some 5),(5,some 6)] (R8 (AI (R4 TV) (R6 TV)))))))
   cases sE q
   refine E4 [(0,some 2),(1,some 3),(2,some 4),(3,some 5)] (AI rfl (AI (R2 TV) (R4 TV)))
  refine AI (OL (OL ?_)) TV
  cases sE q
  refine AI rfl (E4 [(0,some 2),(1,some 3)] (R2 (AJ (R2 TV))))
 dsimp only [sumF] at q
 refine AI ?_ TV
 cases sE q
 refine AI rfl (E4 [(0,none),(1,none)] (R2 (AJ (R2 TV))))
theorem C175_holds : HP C175 175 := hH Tryz.f175 (by kernel_rfl) rfl (fun x y q=>C175_vc x.1 x.2.1 x.2.2.1 x.2.2.2 y q)
theorem f175_in : InP 175 := inP (by kernel_rfl)
def f112 (n : ND) (a : LI×LI) (b : LI×LI) (g : LI×LI) : Option (Int×LI×LI) :=
 bif (n.1 == (2:Int)) then
 bindF (f163 (g.1,g.2) b.1) fun q13_12 =>
 some (q13_12.1,q13_12.2.1,q13_12.2.2)
 else
 bif (n.1 == (3:Int)) then
 bindF (f166 (g.1,g.2) (-4294967296:Int)) fun r1 =>
 bindF (f165 (r1.2.1,r1.2.2) r1.1 b.1) fun r2 =>
 some (r2.1,r2.2.1,r2.2.2)
 else
 bif (n.1 == (4:Int)) then
 bindF (f164 (g.1,g.2) (a.1,a.2)) fun r3 =>
 bindF (f165 (r3.2.1,r3.2.2) r3.1 b.1) fun r4 =>
 some (r4.1,r4.2.1,r4.2.2)
 else
 bif (n.1 == (6:Int)) then
 bindF (f167 (a.1,a.2) (g.1,g.2) true) fun r5 =>
 some (r5.1,r5.2.1,r5.2.2)
 else
 bif (n.1 == (12:Int)) then
 guardF (0 ≤ (2:Int) ∧ (2:Int) < (List.length b.1:Int)) <|
 bindF (f175 (g.1,g.2) (a.1,a.2) n.2.2.2.1 (rd (0:Int) b.1 (2:Int))) fun q13_8 =>
 some (q13_8.1,q13_8.2.1,q13_8.2.2)
 else
 some ((0:Int),[],[])
def C112 : Con where
 X := (ND)×(LI×LI)×(LI×LI)×(LI×LI)
 Y := Int×LI×LI
 e := 0
 args x := [.dat T0 x.1,.dat T3 x.2.1,.dat T3 x.2.2.1,.dat T3 x.2.2.2]
 hin x := []
 F x := f112 x.1 x.2.1 x.2.2.1 x.2.2.2
 ret y := [.raw true [(.osl 0),(.osl 1)],.dat T2 y.1]
 hout y := [(0,.arr 3 T2 y.2.1),(1,.arr 40 T2 y.2.2)]
 nout := 2
theorem C112_vc (n : ND) (a : LI×LI) (b : LI×LI) (g : LI×LI) (y : Int×LI×LI) (q : f112 n a b g = some y) : VC Tryz.f112 C112 (n,a,b,g) y := by
 unfold f112 at q
 refine OL (OL (OL (OL (cI q (fun q=>?_) (fun q=>?_)))))
 ·refine OL ?_
  obtain ⟨q13_12,hq13_12,q⟩ := bE q
  refine OL (AI f163_in (cV (cQ C163 ((g.1,g.2),b.1) q13_12 [] false C163_holds hq13_12 rfl rfl (R3 (K0 (OL ?_))))))
  cases sE q
  refine AI rfl (E4 [(0,some 5),(1,some 6)] (R2 (AJ (R2 TV))))
 refine OL (cI q (fun q=>?_) (fun q=>?_))
 ·refine OL ?_
  obtain ⟨r1,hr1,q⟩ := bE q
  have hr1 : C166.F ((g.1,g.2),(-4294967296:Int)) = some r1 := hr1
  refine OL (AI f166_in (cV (cQ C166 _ r1 [] false C166_holds hr1 rfl rfl (R3 (K0 (OL (OL ?_)))))))
  obtain ⟨r2,hr2,q⟩ := bE q
  refine OL (AI f165_in (cV (cQ C165 ((r1.2.1,r1.2.2),r1.1,b.1) r2 [] true C165_holds hr2 rfl rfl (R4 (AI (fun _=>rfl) (R2 (AI TV (AI TV (OL ?_)))))))))
  cases sE q
  refine AI rfl (E4 [(0,some 8),(1,some 9)] (R2 (AJ (R2 TV))))
 refine OL (cI q (fun q=>?_) (fun q=>?_))
 ·refine OL ?_
  obtain ⟨r3,hr3,q⟩ := bE q
  refine OL (AI f164_in (cV (cQ C164 ((g.1,g.2),(a.1,a.2)) r3 [] false C164_holds hr3 rfl rfl (R4 (K0 (OL (OL ?_)))))))
  obtain ⟨r4,hr4,q⟩ := bE q
  refine OL (AI f165_in (cV (cQ C165 ((r3.2.1,r3.2.2),r3.1,b.1) r4 [] true C165_holds hr4 rfl rfl (R4 (AI (fun _=>rfl) (R2 (AI TV (AI TV (OL ?_)))))))))
  cases sE q
  refine AI rfl (E4 [(0,some 8),(1,some 9)] (R2 (AJ (R2 TV))))
 refine OL (cI q (fun q=>?_) (fun q=>?_))
 ·refine OL ?_
  obtain ⟨r5,hr5,q⟩ := bE q
  refine OL (AI f167_in (cV (cQ C167 ((a.1,a.2),(g.1,g.2),true) r5 [] false C167_holds hr5 rfl rfl (R5 (K0 (OL ?_))))))
  cases sE q
  refine AI rfl (E4 [(0,some 5),(1,some 6)] (R2 (AJ (R2 TV))))
 refine OL (cI q (fun q=>?_) (fun q=>?_))
 ·refine OL (EI (.take 0 (.take 1 (.take 2 (.take 3 (.take 4 (.take 5 (.take 6 (.take 7 (.alt 8 (.take 9 (.take 10 (.alt 11 (.take 12 .done) .done))) .done))))))))) (EI [] (EI [] (AI rfl (gI q (fun q=>?_))))))
  refine AI TV ?_
  obtain ⟨q13_8,hq13_8,q⟩ := bE q
  refine OL (AI f175_in (cV (cQ C175 ((g.1,g.2),(a.1,a.2),n.2.2.2.1,(rd (0:Int) b.1 (2:Int))) q13_8 [] false C175_holds hq13_8 rfl rfl (R6 (K0 (AI TV (OL ?_)))))))
  cases sE q
  refine AI rfl (E4 [(0,some 5),(1,some 6)] (R2 (AJ (R2 TV))))
 refine OL (OL ?_)
 cases sE q
 refine AI rfl (E4 [(0,none),(1,none)] (R2 (AJ (R2 TV))))
theorem C112_holds : HP C112 112 := hH Tryz.f112 (by kernel_rfl) rfl (fun x y q=>C112_vc x.1 x.2.1 x.2.2.1 x.2.2.2 y q)
theorem f112_in : InP 112 := inP (by kernel_rfl)
def f74_j3 (g : LI×LI) (q12_4 : Int×Int×Int×Int×Bool×LI×LI×NL) : Option Bool :=
 bif (!q12_4.2.2.2.2.1) then
 some true
 else
 bindF (f59 (g.1,g.2)) fun r10 =>
 bif (!r10) then
 some true
 else
 bindF (f110 g.1 q12_4.2.2.2.2.2.1) fun r11 =>
 some (!r11)
def f74_j2 (g : LI×LI) (q12_4 : Int×Int×Int×Int×Bool×LI×LI×NL) : Option (Sum Unit Unit) :=
 bindF (f74_j3 g q12_4) fun z9 =>
 bif z9 then
 some (Sum.inr ())
 else
 some (Sum.inl ())
def f74 (t_l : NL) (n:Int) (g : LI×LI) : Option (Int×LI×LI×LI×LI×NL) :=
 bindF (f24 t_l n) fun q12_4 =>
 bindF (f74_j2 g q12_4) fun z6 =>
 sumF z6 (fun z6a =>
 bindF (f58 q12_4.2.2.2.2.2.2.2 q12_4.2.1) fun r12 =>
 bindF (f58 r12.2.2.2 q12_4.2.2.1) fun r13 =>
 bindF (f111 (q12_4.1,q12_4.2.1,q12_4.2.2.1,q12_4.2.2.2.1,q12_4.2.2.2.2.2.1,q12_4.2.2.2.2.2.2.1) (r12.2.1,r12.2.2.1) (r13.2.1,r13.2.2.1) (g.1,g.2)) fun r14 =>
 bif (r14.1 != (0:Int)) then
 some (r14.1,[],[],[],[],r13.2.2.2)
 else
 bindF (f112 (q12_4.1,q12_4.2.1,q12_4.2.2.1,q12_4.2.2.2.1,q12_4.2.2.2.2.2.1,q12_4.2.2.2.2.2.2.1) (r12.2.1,r12.2.2.1) (r13.2.1,r13.2.2.1) (g.1,g.2)) fun r15 =>
 bif (r15.1 != (0:Int)) then
 some (r15.1,[],[],[],[],r13.2.2.2)
 else
 some ((0:Int),r14.2.1,r14.2.2,r15.2.1,r15.2.2,r13.2.2.2)) (fun z6b =>
 some ((1:Int),[],[],[],[],q12_4.2.2.2.2.2.2.2))
def C74 : Con where
 X := NL×Int×(LI×LI)
 Y := Int×LI×LI×LI×LI×NL
 e := 2
 args x := [P0 0 0,.dat T2 x.2.1,.dat T3 x.2.2]
 hin x := [(0,.cells [(.osl 1)]),(1,.arr 42 T0 x.1)]
 F x := f74 x.1 x.2.1 x.2.2
 ret y := [.raw true [(.osl 2),(.osl 3)],.raw true [(.osl 4),(.osl 5)],.dat T2 y.1]
 hout y := [(0,.cells [(.osl 1)]),(1,.arr 42 T0 y.2.2.2.2.2),(2,.arr 3 T2 y.2.1),(3,.arr 40 T2 y.2.2.1),(4,.arr 3 T2 y.2.2.2.1),(5,.arr 40 T2 y.2.2.2.2.1)]
 nout := 6
theorem C74_vc (t_l : NL) (n:Int) (g : LI×LI) (y : Int×LI×LI×LI×LI×NL) (q : f74 t_l n g = some y) : VE Tryz.f74 2 C74 (t_l,n,g) y := by
 unfold f74 at q
 refine OL (OL ?_)
 obtain ⟨q12_4,hq12_4,q⟩ := bE q
 refine OL (AI f24_in (cV (cQ C24 (t_l,n) q12_4 I2 false C24_holds hq12_4 rfl rfl (AI rfl (AI NH (R2 (AJ (AI (R2 TV) (OL ?_)))))))))
 obtain ⟨z6,hz6,q⟩ := bE q
 refine OQ ⟨Sum.elim (fun z6a=>[(0,⟨[(0,P0 0 0),(5,P0 2 0),(6,P0 3 0),(7,P0 4 0),(9,P0 5 0)],[(0,.cells [(.osl 1)]),(1,.arr 42 T0 q12_4.2.2.2.2.2.2.2),(2,.cells [(.d T1 g.1),(.d T1 g.2)]),(3,.cells [N0,N0]),(4,.cells [N0,N0]),(5,.cells [(.d T2 q12_4.1),(.d T2 q12_4.2.1),(.d T2 q12_4.2.2.1),(.d T2 q12_4.2.2.2.1),(.osl 6),(.osl 7)]),(6,.arr 3 T2 q12_4.2.2.2.2.2.1),(7,.arr 40 T2 q12_4.2.2.2.2.2.2.1)],8⟩)]) (fun z6b=>[(1,⟨[(6,P0 2 0),(7,P0 3 0),(8,D0 1)],[(0,.cells [(.osl 1)]),(1,.arr 42 T0 q12_4.2.2.2.2.2.2.2),(2,.cells [N0,N0]),(3,.cells [N0,N0])],4⟩)]) z6,?_,?_⟩
 ·have q := hz6
  clear hz6
  unfold f74_j2 at q
  obtain ⟨z9,hz9,q⟩ := bE q
  refine OQ ⟨[(0,⟨[(0,P0 0 0),(5,P0 2 0),(6,P0 3 0),(7,P0 4 0),(9,P0 5 0),(39,.dat .bool z9)],[(0,.cells [(.osl 1)]),(1,.arr 42 T0 q12_4.2.2.2.2.2.2.2),(2,.cells [(.d T1 g.1),(.d T1 g.2)]),(3,.cells [N0,N0]),(4,.cells [N0,N0]),(5,.cells [(.d T2 q12_4.1),(.d T2 q12_4.2.1),(.d T2 q12_4.2.2.1),(.d T2 q12_4.2.2.2.1),(.osl 6),(.osl 7)]),(6,.arr 3 T2 q12_4.2.2.2.2.2.1),(7,.arr 40 T2 q12_4.2.2.2.2.2.2.1)],8⟩)],?_,?_⟩
  ·have q := hz9
   clear hz9
   unfold f74_j3 at q
   refine cN q (fun q=>?_) (fun q=>?_)
   ·refine gY ?_
    obtain ⟨r10,hr10,q⟩ := bE q
    refine OL (AI f59_in (cV (cQ C59 (g.1,g.2) r10 [] false C59_holds hr10 rfl rfl (R2 (K0 (gY (cF (cN q (fun q=>?_) (fun q=>?_)))))))))
    ·refine gY (gY (gY (gY (gY ?_))))
     obtain ⟨r11,hr11,q⟩ := bE q
     refine OL (AI f110_in (cV (cQ C110 (g.1,q12_4.2.2.2.2.2.1) r11 [] true C110_holds hr11 rfl rfl (R2 (AI (fun _=>rfl) (R2 (AI TV (AI TV (gY (cF ?_))))))))))
     cases sE q
     refine E4 [(0,some 0),(1,some 1),(2,some 2),(3,some 3),(4,some 4),(5,some 9),(6,some 7),(7,some 8)] (R2 (AI (R5 TV) (R8 TV)))
    refine gN (gN (gN (gN (gN (gN (cT ?_))))))
    cases sE q
    refine E4 [(0,some 0),(1,some 1),(2,some 2),(3,some 3),(4,some 4),(5,some 9),(6,some 7),(7,some 8)] (R2 (AI (R5 TV) (R8 TV)))
   refine gN (gN (cT (gN (gN (gN (gN (gN (gN (gN (cT ?_))))))))))
   cases sE q
   refine E4 [(0,some 0),(1,some 1),(2,some 2),(3,some 3),(4,some 4),(5,some 9),(6,some 7),(7,some 8)] (R2 (AI (R5 TV) (R8 TV)))
  refine AI (cI q (fun q=>?_) (fun q=>?_)) TV
  ·refine OL (OL (OL ?_))
   cases sE q
   refine E4 [(0,some 0),(1,some 1),(2,some 3),(3,some 4)] (R2 (AI (R2 TV) (R4 TV)))
  cases sE q
  refine E4 I8 (AI rfl (AI (R5 TV) (R8 TV)))
 rcases z6 with z6a | z6b
 ·dsimp only [sumF] at q
  refine AI (OL ?_) TV
  obtain ⟨r12,hr12,q⟩ := bE q
  refine OL (AI f58_in (cV (cQ C58 (q12_4.2.2.2.2.2.2.2,q12_4.2.1) r12 I2 false C58_holds hr12 rfl rfl (AI rfl (AI NH (R2 (AJ (AI (R2 TV) (OL (OL ?_))))))))))
  obtain ⟨r13,hr13,q⟩ := bE q
  refine OL (AI f58_in (cV (cQ C58 (r12.2.2.2,q12_4.2.2.1) r13 I2 false C58_holds hr13 rfl rfl (AI rfl (AI NH (R2 (AJ (AI (R2 TV) (OL (OL ?_))))))))))
  obtain ⟨r14,hr14,q⟩ := bE q
  refine OL (AI f111_in (cV (cQ C111 ((q12_4.1,q12_4.2.1,q12_4.2.2.1,q12_4.2.2.2.1,q12_4.2.2.2.2.2.1,q12_4.2.2.2.2.2.2.1),(r12.2.1,r12.2.2.1),(r13.2.1,r13.2.2.1),(g.1,g.2)) r14 [] true C111_holds hr14 rfl rfl (R8 (AI (fun _=>rfl) (R2 (AI TV (AI TV (OL (OL (OL (cI q (fun q=>?_) (fun q=>?_)))))))))))))
  ·refine OL (OL (OL ?_))
   cases sE q
   refine AI rfl (E4 [(0,some 0),(1,some 1),(2,none),(3,none),(4,none),(5,none)] (R2 (AI (R2 TV) (R6 TV))))
  refine OL ?_
  obtain ⟨r15,hr15,q⟩ := bE q
  refine OL (AI f112_in (cV (cQ C112 ((q12_4.1,q12_4.2.1,q12_4.2.2.1,q12_4.2.2.2.1,q12_4.2.2.2.2.2.1,q12_4.2.2.2.2.2.2.1),(r12.2.1,r12.2.2.1),(r13.2.1,r13.2.2.1),(g.1,g.2)) r15 [] true C112_holds hr15 rfl rfl (R8 (AI (fun _=>rfl) (R2 (AI TV (AI TV (OL (OL (OL (cI q (fun q=>?_) (fun q=>?_)))))))))))))
  ·refine OL (OL (OL ?_))
   cases sE q
   refine AI rfl (E4 [(0,some 0),(1,some 1),(2,none),(3,none),(4,none),(5,none)] (R2 (AI (R2 TV) (R6 TV))))
  refine OL (EI (.take 0 (.take 1 (.alt 2 (.alt 3 (.take 4 .done) .done) .done))) (EI [] (EI [] (AI rfl (AI TV (OL (AI TV (OL ?_))))))))
  cases sE q
  refine AI rfl (E4 [(0,some 0),(1,some 1),(2,some 18),(3,some 19),(4,some 21),(5,some 22)] (R2 (AI (R2 TV) (R6 TV))))
 dsimp only [sumF] at q
 refine AI ?_ TV
 cases sE q
 refine AI rfl (E4 [(0,some 0),(1,some 1),(2,none),(3,none),(4,none),(5,none)] (R2 (AI (R2 TV) (R6 TV))))
theorem C74_holds : HP C74 74 := hH Tryz.f74 (by kernel_rfl) rfl (fun x y q=>C74_vc x.1 x.2.1 x.2.2 y q)
theorem f74_in : InP 74 := inP (by kernel_rfl)
def f75 (s_l : List (LI×LI)) (s_given : List Bool) (n:Int) (g : LI×LI) : Option (Int×(List (LI×LI))×(List Bool)) :=
 bif (decide (n < (0:Int))) then
 some ((0:Int),s_l,s_given)
 else
 guardF (0 ≤ n ∧ n < (List.length s_l:Int)) <|
 bindF (f113 ((rd (Ty.z T3) s_l n).1,(rd (Ty.z T3) s_l n).2) (g.1,g.2)) fun q4_13 =>
 guardF (0 ≤ n ∧ n < (List.length s_l:Int)) <|
 guardF (0 ≤ n ∧ n < (List.length s_given:Int)) <|
 some (q4_13.1,(List.set s_l (Int.toNat n) (q4_13.2.1,q4_13.2.2)),(List.set s_given (Int.toNat n) true))
def C75 : Con where
 X := (List (LI×LI))×(List Bool)×Int×(LI×LI)
 Y := Int×(List (LI×LI))×(List Bool)
 e := 3
 args x := [P0 0 0,.dat T2 x.2.2.1,.dat T3 x.2.2.2]
 hin x := [(0,.cells [(.osl 1),(.osl 2)]),(1,.arr 35 T3 x.1),(2,.arr 4 .bool x.2.1)]
 F x := f75 x.1 x.2.1 x.2.2.1 x.2.2.2
 ret y := [.dat T2 y.1]
 hout y := [(0,.cells [(.osl 1),(.osl 2)]),(1,.arr 35 T3 y.2.1),(2,.arr 4 .bool y.2.2)]
 nout := 3
theorem C75_vc (s_l : List (LI×LI)) (s_given : List Bool) (n:Int) (g : LI×LI) (y : Int×(List (LI×LI))×(List Bool)) (q : f75 s_l s_given n g = some y) : VE Tryz.f75 3 C75 (s_l,s_given,n,g) y := by
 unfold f75 at q
 refine OL (OL (OL (cI q (fun q=>?_) (fun q=>?_))))
 ·cases sE q
  refine OL (AI rfl (E4 I3 (R2 (AI TV (R3 TV)))))
 refine OL (OL (EI (.take 0 (.take 1 (.take 2 (.take 3 (.take 4 (.take 5 (.take 6 (.take 7 (.take 8 (.take 9 (.take 10 (.take 11 (.take 12 (.alt 13 (.take 14 (.take 15 (.take 16 (.take 17 (.alt 18 (.take 19 .done) .done))))) .done)))))))))))))) (EI [(18,[1])] (EI [] (AI rfl (gI q (fun q=>?_)))))))
 refine AI TV ?_
 obtain ⟨q4_13,hq4_13,q⟩ := bE q
 refine OL (AI f113_in (cV (cQ C113 (((rd (Ty.z T3) s_l n).1,(rd (Ty.z T3) s_l n).2),(g.1,g.2)) q4_13 [] false C113_holds hq4_13 rfl rfl (R4 (K0 (gI q (fun q=>?_)))))))
 refine AI TV (OL (OL (gI q (fun q=>?_))))
 refine OL (OL ?_)
 cases sE q
 refine AI rfl (E4 I3 (R2 (AI TV (R3 TV))))
theorem C75_holds : HP C75 75 := hH Tryz.f75 (by kernel_rfl) rfl (fun x y q=>C75_vc x.1 x.2.1 x.2.2.1 x.2.2.2 y q)
theorem f75_in : InP 75 := inP (by kernel_rfl)
def f26_l1 (root:Int) (go : (Int×NL×(List (LI×LI))×Int×LI×LI) → Option (NL×(List (LI×LI))×Int×LI×LI)) (v43:Int) (l1 : NL) (l3 : List (LI×LI)) (i3:Int) (l5 : LI) (l6 : LI) : Option (NL×(List (LI×LI))×Int×LI×LI) :=
 bif (decide (v43 < (i64.wrap (root + (1:Int))))) then
 bindF (f58 l1 v43) fun q12_10 =>
 bindF (f68 q12_10.2.1 (0:Int)) fun r6 =>
 guardF ((List.length (List.set l3 (Int.toNat i3) (l5,l6)) + 1) * 48 ≤ 140737488355328) <|
 go ((i64.wrap (v43 + (1:Int))),q12_10.2.2.2,((List.set l3 (Int.toNat i3) (l5,l6)) ++ [(Ty.z T3)]),(List.length (List.set l3 (Int.toNat i3) (l5,l6)):Int),r6.2.1,r6.2.2)
 else
 some (l1,l3,i3,l5,l6)
def f26_l2 (go : (Int×NL×(List (LI×LI))×(List Bool)) → Option (Sum (Int×NL) ((List (LI×LI))×(List Bool)×NL))) (n:Int) (l1 : NL) (l3 : List (LI×LI)) (l4 : List Bool) : Option (Sum (Int×NL) ((List (LI×LI))×(List Bool)×NL)) :=
 bif (decide (n ≥ (0:Int))) then
 guardF (0 ≤ n ∧ n < (List.length l4:Int)) <|
 bif (!(rd false l4 n)) then
 go ((i64.wrap (n - (1:Int))),l1,l3,l4)
 else
 bindF (f24 l1 n) fun r15 =>
 guardF (0 ≤ n ∧ n < (List.length l3:Int)) <|
 bindF (f74 r15.2.2.2.2.2.2.2 n ((rd (Ty.z T3) l3 n).1,(rd (Ty.z T3) l3 n).2)) fun r16 =>
 bif (r16.1 != (0:Int)) then
 some (Sum.inl (r16.1,r16.2.2.2.2.2))
 else
 bindF (f75 l3 l4 r15.2.1 (r16.2.1,r16.2.2.1)) fun r17 =>
 bif (r17.1 != (0:Int)) then
 some (Sum.inl (r17.1,r16.2.2.2.2.2))
 else
 bindF (f75 r17.2.1 r17.2.2 r15.2.2.1 (r16.2.2.2.1,r16.2.2.2.2.1)) fun r18 =>
 bif (r18.1 != (0:Int)) then
 some (Sum.inl (r18.1,r16.2.2.2.2.2))
 else
 go ((i64.wrap (n - (1:Int))),r16.2.2.2.2.2,r18.2.1,r18.2.2)
 else
 some (Sum.inr (l3,l4,l1))
def f26 (t_l : NL) (root:Int) : Option (Int×(List (LI×LI))×NL) :=
 bindF (f58 t_l root) fun r1 =>
 bif (!r1.1) then
 some ((1:Int),[],r1.2.2.2)
 else
 bif (decide ((List.length r1.2.2.1:Int) > (1:Int))) then
 some ((4:Int),[],r1.2.2.2)
 else
 guardF (0 ≤ (i64.wrap (root + (1:Int))) ∧ (i64.wrap (root + (1:Int))) ≤ (i64.wrap (root + (1:Int))) ∧ Int.toNat (i64.wrap (root + (1:Int))) * 1 ≤ 140737488355328) <|
 bindF (loopF (fun go x=>f26_l1 root go x.1 x.2.1 x.2.2.1 x.2.2.2.1 x.2.2.2.2.1 x.2.2.2.2.2) fuelN ((0:Int),r1.2.2.2,[],(0:Int),[],[])) fun z5 =>
 guardF (0 ≤ root ∧ root < (List.length z5.2.1:Int)) <|
 guardF (root = z5.2.2.1) <|
 guardF (0 ≤ (0:Int) ∧ (0:Int) < (List.length z5.2.2.2.2:Int)) <|
 guardF (0 ≤ root ∧ root < (List.length (List.replicate (Int.toNat (i64.wrap (root + (1:Int)))) false):Int)) <|
 bindF (loopF (fun go x=>f26_l2 go x.1 x.2.1 x.2.2.1 x.2.2.2) fuelN (root,z5.1,(List.set z5.2.1 (Int.toNat z5.2.2.1) (z5.2.2.2.1,(List.set z5.2.2.2.2 (Int.toNat (0:Int)) (4294967296:Int)))),(List.set (List.replicate (Int.toNat (i64.wrap (root + (1:Int)))) false) (Int.toNat root) true))) fun z14 =>
 sumF z14 (fun z14a =>
 some (z14a.1,[],z14a.2)) (fun z14b =>
 some ((0:Int),z14b.1,z14b.2.2))
def C26 : Con where
 X := NL×Int
 Y := Int×(List (LI×LI))×NL
 e := 2
 args x := [P0 0 0,.dat T2 x.2]
 hin x := [(0,.cells [(.osl 1)]),(1,.arr 42 T0 x.1)]
 F x := f26 x.1 x.2
 ret y := [O0 2,.dat T2 y.1]
 hout y := [(0,.cells [(.osl 1)]),(1,.arr 42 T0 y.2.2),(2,.arr 35 T3 y.2.1)]
 nout := 3
theorem C26_vc (t_l : NL) (root:Int) (y : Int×(List (LI×LI))×NL) (q : f26 t_l root = some y) : VE Tryz.f26 2 C26 (t_l,root) y := by
 unfold f26 at q
 refine OL (OL ?_)
 obtain ⟨r1,hr1,q⟩ := bE q
 refine OL (AI f58_in (cV (cQ C58 (t_l,root) r1 I2 false C58_holds hr1 rfl rfl (AI rfl (AI NH (R2 (AJ (AI (R2 TV) (OL (OL (OL (cI q (fun q=>?_) (fun q=>?_)))))))))))))
 ·cases sE q
  refine OL (AI rfl (E4 [(0,some 0),(1,some 1),(2,none)] (R2 (AJ (R3 TV)))))
 refine OL (cI q (fun q=>?_) (fun q=>?_))
 ·cases sE q
  refine OL (AI rfl (E4 [(0,some 0),(1,some 1),(2,none)] (R2 (AJ (R3 TV)))))
 refine OL (gI q (fun q=>?_))
 refine OL (OL ?_)
 obtain ⟨z5,hz5,q⟩ := bE q
 refine lI (Int×NL×(List (LI×LI))×Int×LI×LI) (NL×(List (LI×LI))×Int×LI×LI) (fun x=>⟨[(0,P0 0 0),(1,.dat T2 root),(8,P0 2 0),(42,.dat T2 (i64.wrap (root + (1:Int)))),(43,.dat T2 x.1)],[(0,.cells [(.osl 1)]),(1,.arr 42 T0 x.2.1),(2,.cells [(.osl 3),(.osl 4)]),(3,.hol 35 T3 x.2.2.1 x.2.2.2.1 [(.osl 5),(.osl 6)]),(4,.arr 4 .bool (List.replicate (Int.toNat (i64.wrap (root + (1:Int)))) false)),(5,.arr 3 T2 x.2.2.2.2.1),(6,.arr 40 T2 x.2.2.2.2.2)],7⟩) (fun z=>[(3,⟨[(0,P0 0 0),(1,.dat T2 root),(8,P0 2 0)],[(0,.cells [(.osl 1)]),(1,.arr 42 T0 z.1),(2,.cells [(.osl 3),(.osl 4)]),(3,.hol 35 T3 z.2.1 z.2.2.1 [(.osl 5),(.osl 6)]),(4,.arr 4 .bool (List.replicate (Int.toNat (i64.wrap (root + (1:Int)))) false)),(5,.arr 3 T2 z.2.2.2.1),(6,.arr 40 T2 z.2.2.2.2)],7⟩)]) (loopF (fun go x=>f26_l1 root go x.1 x.2.1 x.2.2.1 x.2.2.2.1 x.2.2.2.2.1 x.2.2.2.2.2)) fuelN ((0:Int),r1.2.2.2,[],(0:Int),[],[]) z5 (AI hz5 (AI (E4 [(0,some 0),(1,some 1),(2,some 8),(3,none),(4,some 7),(5,none),(6,none)] (R4 (AI (R2 TV) (R7 TV)))) (AI (fun _ _ h=>lZ h) (AI (fun m=>curI (fun v43=>curI (fun l1=>curI (fun l3=>curI (fun i3=>curI (fun l5=>fun l6 z q=>?_)))))) ?_))))
 ·have q : f26_l1 root (loopF (fun go x=>f26_l1 root go x.1 x.2.1 x.2.2.1 x.2.2.2.1 x.2.2.2.2.1 x.2.2.2.2.2) m) v43 l1 l3 i3 l5 l6 = some z := q
  unfold f26_l1 at q
  refine OL (OL (cI q (fun q=>?_) (fun q=>?_)))
  ·refine OL (OL (OL ?_))
   obtain ⟨q12_10,hq12_10,q⟩ := bE q
   refine OL (AI f58_in (cV (cQ C58 (l1,v43) q12_10 I2 false C58_holds hq12_10 rfl rfl (AI rfl (AI NH (R2 (AJ (AI (R2 TV) (OL (OL ?_))))))))))
   obtain ⟨r6,hr6,q⟩ := bE q
   refine OL (AI f68_in (cV (cQ C68 (q12_10.2.1,(0:Int)) r6 [] true C68_holds hr6 rfl rfl (R2 (AI (fun _=>rfl) (R2 (AI TV (AI TV (OL (EI (.take 0 (.take 1 (.take 2 (.take 3 (.take 4 (.take 5 (.alt 6 (.alt 7 (.take 8 (.take 9 (.alt 10 .done .done))) .done) .done))))))) (EI [(10,[2])] (EI [] (AI rfl (AI TV (OQ (AI TV (OQ (AI rfl (AI (AI rfl rfl) (gI q (fun q=>?_)))))))))))))))))))))
   refine AI TV (OL (EI ((i64.wrap (v43 + (1:Int))),q12_10.2.2.2,((List.set l3 (Int.toNat i3) (l5,l6)) ++ [(Ty.z T3)]),(List.length (List.set l3 (Int.toNat i3) (l5,l6)):Int),r6.2.1,r6.2.2) (AI q (E4 [(0,some 0),(1,some 1),(2,some 2),(3,some 16),(4,some 4),(5,some 12),(6,some 13)] (R4 (AI (R2 TV) (R7 TV)))))))
  cases sE q
  refine E4 I7 (R2 (AI (R2 TV) (R7 TV)))
 refine AI (OL (EI (.take 0 (.take 1 (.take 2 (.take 3 (.take 4 (.take 5 (.take 6 (.take 7 (.take 8 (.take 9 (.take 10 (.take 11 (.take 12 (.take 13 (.alt 14 (.take 15 (.alt 16 .done .done)) .done))))))))))))))) (EI [] (EI [] (AI rfl (gI q (fun q=>?_))))))) TV
 refine gI q (fun q=>?_)
 refine gI q (fun q=>?_)
 refine AI TV (OL (gI q (fun q=>?_)))
 refine AI TV (OL (OL (OL ?_)))
 obtain ⟨z14,hz14,q⟩ := bE q
 refine lI (Int×NL×(List (LI×LI))×(List Bool)) (Sum (Int×NL) ((List (LI×LI))×(List Bool)×NL)) (fun x=>⟨[(0,P0 0 0),(8,P0 2 0),(14,.dat T2 x.1)],[(0,.cells [(.osl 1)]),(1,.arr 42 T0 x.2.1),(2,.cells [(.osl 3),(.osl 4)]),(3,.arr 35 T3 x.2.2.1),(4,.arr 4 .bool x.2.2.2)],5⟩) (fun z=>Sum.elim (fun za=>[(1,⟨[(4,.raw false [N0]),(5,.dat T2 za.1)],[(0,.cells [(.osl 1)]),(1,.arr 42 T0 za.2)],2⟩)]) (fun zb=>[(5,⟨[(8,P0 2 0)],[(0,.cells [(.osl 1)]),(1,.arr 42 T0 zb.2.2),(2,.cells [(.osl 3),(.osl 4)]),(3,.arr 35 T3 zb.1),(4,.arr 4 .bool zb.2.1)],5⟩)]) z) (loopF (fun go x=>f26_l2 go x.1 x.2.1 x.2.2.1 x.2.2.2)) fuelN (root,z5.1,(List.set z5.2.1 (Int.toNat z5.2.2.1) (z5.2.2.2.1,(List.set z5.2.2.2.2 (Int.toNat (0:Int)) (4294967296:Int)))),(List.set (List.replicate (Int.toNat (i64.wrap (root + (1:Int)))) false) (Int.toNat root) true)) z14 (AI hz14 (AI (EI [3] (AI rfl (EI [] (EI [] (EI [] (EI I5 (R2 (AI (R2 TV) (R5 TV))))))))) (AI (fun _ _ h=>lZ h) (AI (fun m=>curI (fun n=>curI (fun l1=>curI (fun l3=>fun l4 z q=>?_)))) ?_))))
 ·have q : f26_l2 (loopF (fun go x=>f26_l2 go x.1 x.2.1 x.2.2.1 x.2.2.2) m) n l1 l3 l4 = some z := q
  unfold f26_l2 at q
  refine OL (OL (cI q (fun q=>?_) (fun q=>?_)))
  ·refine OL (OL (OL (gI q (fun q=>?_))))
   refine cI q (fun q=>?_) (fun q=>?_)
   ·refine EI ((i64.wrap (n - (1:Int))),l1,l3,l4) (AI q (E4 I5 (R2 (AI (R2 TV) (R5 TV)))))
   refine OL ?_
   obtain ⟨r15,hr15,q⟩ := bE q
   refine OL (AI f24_in (cV (cQ C24 (l1,n) r15 I2 false C24_holds hr15 rfl rfl (AI rfl (AI NH (R2 (AJ (AI (R2 TV) (OL (OL (gI q (fun q=>?_))))))))))))
   obtain ⟨r16,hr16,q⟩ := bE q
   refine OL (AI f74_in (cV (cQ C74 (r15.2.2.2.2.2.2.2,n,((rd (Ty.z T3) l3 n).1,(rd (Ty.z T3) l3 n).2)) r16 I2 false C74_holds hr16 rfl rfl (R3 (AI NH (R2 (AJ (AI (R2 TV) (OL (OL (OL (OL (cI q (fun q=>?_) (fun q=>?_))))))))))))))
   ·cases sE q
    refine OL (E4 I2 (R2 (AJ (R2 TV))))
   refine OL (OL ?_)
   obtain ⟨r17,hr17,q⟩ := bE q
   refine OL (AI f75_in (cV (cQ C75 (l3,l4,r15.2.1,(r16.2.1,r16.2.2.1)) r17 [(0,some 2),(1,some 3),(2,some 4)] false C75_holds hr17 rfl rfl (R3 (AI NH (R2 (AJ (AI (R3 TV) (OL (cI q (fun q=>?_) (fun q=>?_)))))))))))
   ·cases sE q
    refine OL (E4 I2 (R2 (AJ (R2 TV))))
   refine OL ?_
   obtain ⟨r18,hr18,q⟩ := bE q
   refine OL (AI f75_in (cV (cQ C75 (r17.2.1,r17.2.2,r15.2.2.1,(r16.2.2.2.1,r16.2.2.2.2.1)) r18 [(0,some 2),(1,some 3),(2,some 4)] false C75_holds hr18 rfl rfl (R3 (AI NH (R2 (AJ (AI (R3 TV) (OL (cI q (fun q=>?_) (fun q=>?_)))))))))))
   ·cases sE q
    refine OL (E4 I2 (R2 (AJ (R2 TV))))
   refine EI ((i64.wrap (n - (1:Int))),r16.2.2.2.2.2,r18.2.1,r18.2.2) (AI q (E4 I5 (R2 (AI (R2 TV) (R5 TV)))))
  cases sE q
  refine E4 I5 (AI rfl (AJ (R5 TV)))
 rcases z14 with z14a | z14b
 ·dsimp only [sumF] at q
  refine AI ?_ TV
  cases sE q
  refine AI rfl (E4 [(0,some 0),(1,some 1),(2,none)] (R2 (AJ (R3 TV))))
 dsimp only [sumF] at q
 refine AI (OL ?_) TV
 cases sE q
 refine AI rfl (E4 [(0,some 0),(1,some 1),(2,some 3)] (R2 (AJ (R3 TV))))
theorem C26_holds : HP C26 26 := hH Tryz.f26 (by kernel_rfl) rfl (fun x y q=>C26_vc x.1 x.2 y q)
theorem f26_in : InP 26 := inP (by kernel_rfl)
def f78 : Option Unit :=
 some ()
def C78 : Con where
 X := Unit
 Y := Unit
 e := 0
 args x := []
 hin x := []
 F x := f78
 ret y := [.raw true [(.osl 0),(.osl 1)]]
 hout y := [(0,.arr 3 T2 ([(1:Int)])),(1,.arr 95 T6 ([((ByteArray.mk #[100,101,110,115,101]),(1:Int),(0:Int))]))]
 nout := 2
theorem C78_vc (y : Unit) (q : f78 = some y) : VC Tryz.f78 C78 () y := by
 unfold f78 at q
 refine OL (OL (OL (OL (OL ?_))))
 cases sE q
 refine AI rfl (E4 [(0,some 1),(1,some 2)] (AI rfl (AJ (R2 TV))))
theorem C78_holds : HP C78 78 := hH Tryz.f78 (by kernel_rfl) rfl (fun x y q=>C78_vc y q)
theorem f78_in : InP 78 := inP (by kernel_rfl)
def f249_j1 (kind : ByteArray) : Option Bool :=
 bif (ByteArray.toList kind == ByteArray.toList (ByteArray.mk #[100,101,110,115,101])) then
 some (ByteArray.toList kind == ByteArray.toList (ByteArray.mk #[100,101,110,115,101]))
 else
 bif (ByteArray.toList kind == ByteArray.toList (ByteArray.mk #[112,111,111,108])) then
 some (ByteArray.toList kind == ByteArray.toList (ByteArray.mk #[112,111,111,108]))
 else
 some (ByteArray.toList kind == ByteArray.toList (ByteArray.mk #[98,101,110,100]))
def f249 (kind : ByteArray) : Option Int :=
 bindF (f249_j1 kind) fun z1 =>
 bif z1 then
 some (1:Int)
 else
 bif (ByteArray.toList kind == ByteArray.toList (ByteArray.mk #[99,111,110,118])) then
 some (2:Int)
 else
 bif (ByteArray.toList kind == ByteArray.toList (ByteArray.mk #[115,107,105,112])) then
 some (0:Int)
 else
 some (-1:Int)
def C249 : Con where
 X := ByteArray
 Y := Int
 e := 0
 args x := [.dat .str x]
 hin x := []
 F x := f249 x
 ret y := [.dat T2 y]
 hout y := []
 nout := 0
theorem C249_vc (kind : ByteArray) (y:Int) (q : f249 kind = some y) : VC Tryz.f249 C249 kind y := by
 unfold f249 at q
 refine OL (OL (OL ?_))
 obtain ⟨z1,hz1,q⟩ := bE q
 refine OQ ⟨[(0,⟨[(3,.dat .str kind),(4,.dat .bool z1)],[],0⟩)],?_,?_⟩
 ·have q := hz1
  clear hz1
  unfold f249_j1 at q
  refine OL (cI q (fun q=>?_) (fun q=>?_))
  ·cases sE q
   refine E4 [] (R3 (AI TV TV))
  refine OL (cI q (fun q=>?_) (fun q=>?_))
  ·cases sE q
   refine E4 [] (R3 (AI TV TV))
  cases sE q
  refine E4 [] (R3 (AI TV TV))
 refine AI (cI q (fun q=>?_) (fun q=>?_)) TV
 ·cases sE q
  refine OL (AI rfl (E4 [] (R2 (AI TV TV))))
 refine OL (cI q (fun q=>?_) (fun q=>?_))
 ·cases sE q
  refine OL (AI rfl (E4 [] (R2 (AI TV TV))))
 refine OL (cI q (fun q=>?_) (fun q=>?_))
 ·cases sE q
  refine OL (AI rfl (E4 [] (R2 (AI TV TV))))
 cases sE q
 refine OL (AI rfl (E4 [] (R2 (AI TV TV))))
theorem C249_holds : HP C249 249 := hH Tryz.f249 (by kernel_rfl) rfl (fun x y q=>C249_vc x y q)
theorem f249_in : InP 249 := inP (by kernel_rfl)
def f231 (v:Int) (most:Int) : Option Bool :=
 bif (decide (v ≥ (1:Int))) then
 some (decide (v ≤ most))
 else
 some false
def C231 : Con where
 X := Int×Int
 Y := Bool
 e := 0
 args x := [.dat T2 x.1,.dat T2 x.2]
 hin x := []
 F x := f231 x.1 x.2
 ret y := [.dat .bool y]
 hout y := []
 nout := 0
theorem C231_vc (v:Int) (most:Int) (y : Bool) (q : f231 v most = some y) : VC Tryz.f231 C231 (v,most) y := by
 unfold f231 at q
 refine OL (OL (cI q (fun q=>?_) (fun q=>?_)))
 ·refine gX (gX (cT ?_))
  cases sE q
  refine AI rfl (E4 [] (R2 (AI TV TV)))
 refine gM (gM (cF ?_))
 cases sE q
 refine AI rfl (E4 [] (R2 (AI TV TV)))
theorem C231_holds : HP C231 231 := hH Tryz.f231 (by kernel_rfl) rfl (fun x y q=>C231_vc x.1 x.2 y q)
theorem f231_in : InP 231 := inP (by kernel_rfl)
def f230_j1 (l : ByteArray×Int×Int) : Option (Sum Unit Unit) :=
 bindF (f249 l.1) fun r3 =>
 bif (decide (r3 < (2:Int))) then
 bif (l.2.2 != (0:Int)) then
 some (Sum.inr ())
 else
 some (Sum.inl ())
 else
 some (Sum.inl ())
def f230 (l : ByteArray×Int×Int) : Option Bool :=
 bindF (f230_j1 l) fun z2 =>
 sumF z2 (fun z2a =>
 bif (ByteArray.toList l.1 == ByteArray.toList (ByteArray.mk #[100,101,110,115,101])) then
 bindF (f231 l.2.1 (256:Int)) fun r4 =>
 some r4
 else
 bif (ByteArray.toList l.1 == ByteArray.toList (ByteArray.mk #[99,111,110,118])) then
 bindF (f231 l.2.1 (16:Int)) fun r5 =>
 bif r5 then
 bindF (f231 l.2.2 (16:Int)) fun r6 =>
 some r6
 else
 some false
 else
 bif (ByteArray.toList l.1 == ByteArray.toList (ByteArray.mk #[112,111,111,108])) then
 bindF (f231 l.2.1 (16:Int)) fun r7 =>
 some r7
 else
 bif (ByteArray.toList l.1 == ByteArray.toList (ByteArray.mk #[98,101,110,100])) then
 bindF (f231 l.2.1 (5:Int)) fun r8 =>
 some r8
 else
 bif (ByteArray.toList l.1 == ByteArray.toList (ByteArray.mk #[115,107,105,112])) then
 some (l.2.1 == (0:Int))
 else
 some false) (fun z2b =>
 some false)
def C230 : Con where
 X := ByteArray×Int×Int
 Y := Bool
 e := 0
 args x := [.dat T6 x]
 hin x := []
 F x := f230 x
 ret y := [.dat .bool y]
 hout y := []
 nout := 0
theorem C230_vc (l : ByteArray×Int×Int) (y : Bool) (q : f230 l = some y) : VC Tryz.f230 C230 l y := by
 unfold f230 at q
 refine OL ?_
 obtain ⟨z2,hz2,q⟩ := bE q
 refine OQ ⟨Sum.elim (fun z2a=>[(0,⟨[(1,P0 0 0)],[(0,.cells [(.d .str l.1),(.d T2 l.2.1),(.d T2 l.2.2)])],1⟩)]) (fun z2b=>[(1,⟨[(2,.dat .bool false)],[],0⟩)]) z2,?_,?_⟩
 ·have q := hz2
  clear hz2
  unfold f230_j1 at q
  refine OL ?_
  obtain ⟨r3,hr3,q⟩ := bE q
  refine OL (AI f249_in (cV (cQ C249 l.1 r3 [] false C249_holds hr3 rfl rfl (AI rfl (K0 (cI q (fun q=>?_) (fun q=>?_)))))))
  ·refine gX (gX (cT (cI q (fun q=>?_) (fun q=>?_))))
   ·cases sE q
    refine OL (E4 [] (R2 (AI TV TV)))
   cases sE q
   refine E4 [(0,some 0)] (AI rfl (AJ (AI rfl TV)))
  refine gM (gM (cF (cF ?_)))
  cases sE q
  refine E4 [(0,some 0)] (AI rfl (AJ (AI rfl TV)))
 rcases z2 with z2a | z2b
 ·dsimp only [sumF] at q
  refine AI (OL (OL (OL (cI q (fun q=>?_) (fun q=>?_))))) TV
  ·refine OL ?_
   obtain ⟨r4,hr4,q⟩ := bE q
   refine OL (AI f231_in (cV (cQ C231 (l.2.1,(256:Int)) r4 [] false C231_holds hr4 rfl rfl (R2 (K0 ?_)))))
   cases sE q
   refine AI rfl (E4 [] (R2 (AI TV TV)))
  refine OL (cI q (fun q=>?_) (fun q=>?_))
  ·refine OL ?_
   obtain ⟨r5,hr5,q⟩ := bE q
   refine OL (AI f231_in (cV (cQ C231 (l.2.1,(16:Int)) r5 [] false C231_holds hr5 rfl rfl (R2 (K0 (cI q (fun q=>?_) (fun q=>?_)))))))
   ·refine gX (gX ?_)
    obtain ⟨r6,hr6,q⟩ := bE q
    refine OL (AI f231_in (cV (cQ C231 (l.2.2,(16:Int)) r6 [] false C231_holds hr6 rfl rfl (R2 (K0 (cT ?_))))))
    cases sE q
    refine AI rfl (E4 [] (R2 (AI TV TV)))
   refine gM (gM (cF ?_))
   cases sE q
   refine AI rfl (E4 [] (R2 (AI TV TV)))
  refine OL (cI q (fun q=>?_) (fun q=>?_))
  ·refine OL ?_
   obtain ⟨r7,hr7,q⟩ := bE q
   refine OL (AI f231_in (cV (cQ C231 (l.2.1,(16:Int)) r7 [] false C231_holds hr7 rfl rfl (R2 (K0 ?_)))))
   cases sE q
   refine AI rfl (E4 [] (R2 (AI TV TV)))
  refine OL (cI q (fun q=>?_) (fun q=>?_))
  ·refine OL ?_
   obtain ⟨r8,hr8,q⟩ := bE q
   refine OL (AI f231_in (cV (cQ C231 (l.2.1,(5:Int)) r8 [] false C231_holds hr8 rfl rfl (R2 (K0 ?_)))))
   cases sE q
   refine AI rfl (E4 [] (R2 (AI TV TV)))
  refine OL (cI q (fun q=>?_) (fun q=>?_))
  ·refine gX (gX (cT ?_))
   cases sE q
   refine AI rfl (E4 [] (R2 (AI TV TV)))
  refine gM (gM (cF ?_))
  cases sE q
  refine AI rfl (E4 [] (R2 (AI TV TV)))
 dsimp only [sumF] at q
 refine AI ?_ TV
 cases sE q
 refine AI rfl (E4 [] (R2 (AI TV TV)))
theorem C230_holds : HP C230 230 := hH Tryz.f230 (by kernel_rfl) rfl (fun x y q=>C230_vc x y q)
theorem f230_in : InP 230 := inP (by kernel_rfl)
def f186_l1 (n : LI×(List (ByteArray×Int×Int))) (go : Int → Option (Sum Unit Unit)) (v8:Int) : Option (Sum Unit Unit) :=
 bif (decide (v8 < (List.length n.2:Int))) then
 guardF (0 ≤ v8 ∧ v8 < (List.length n.2:Int)) <|
 bindF (f230 ((rd (Ty.z T6) n.2 v8).1,((rd (Ty.z T6) n.2 v8).2).1,((rd (Ty.z T6) n.2 v8).2).2)) fun r4 =>
 bif (!r4) then
 some (Sum.inl ())
 else
 go (i64.wrap (v8 + (1:Int)))
 else
 some (Sum.inr ())
def f186 (n : LI×(List (ByteArray×Int×Int))) : Option Bool :=
 bindF (loopF (fun go x=>f186_l1 n go x) fuelN (0:Int)) fun z3 =>
 sumF z3 (fun z3a =>
 some false) (fun z3b =>
 bif ((List.length n.1:Int) == (1:Int)) then
 guardF (0 ≤ (0:Int) ∧ (0:Int) < (List.length n.1:Int)) <|
 bindF (f231 (rd (0:Int) n.1 (0:Int)) (1024:Int)) fun r5 =>
 some r5
 else
 bif ((List.length n.1:Int) == (2:Int)) then
 guardF (0 ≤ (0:Int) ∧ (0:Int) < (List.length n.1:Int)) <|
 bindF (f231 (rd (0:Int) n.1 (0:Int)) (64:Int)) fun r6 =>
 bif r6 then
 guardF (0 ≤ (1:Int) ∧ (1:Int) < (List.length n.1:Int)) <|
 bindF (f231 (rd (0:Int) n.1 (1:Int)) (64:Int)) fun r7 =>
 some r7
 else
 some false
 else
 some false)
def C186 : Con where
 X := LI×(List (ByteArray×Int×Int))
 Y := Bool
 e := 0
 args x := [.dat T7 x]
 hin x := []
 F x := f186 x
 ret y := [.dat .bool y]
 hout y := []
 nout := 0
theorem C186_vc (n : LI×(List (ByteArray×Int×Int))) (y : Bool) (q : f186 n = some y) : VC Tryz.f186 C186 n y := by
 unfold f186 at q
 refine OL (OL (OL ?_))
 obtain ⟨z3,hz3,q⟩ := bE q
 refine lI Int (Sum Unit Unit) (fun x=>⟨[(1,P0 0 0),(6,.dat T8 n.2),(7,.dat T2 (List.length n.2:Int)),(8,.dat T2 x)],[(0,.cells [(.d T1 n.1),(.d T8 n.2)])],1⟩) (fun z=>Sum.elim (fun za=>[(1,⟨[(2,.dat .bool false)],[],0⟩)]) (fun zb=>[(2,⟨[(1,P0 0 0)],[(0,.cells [(.d T1 n.1),(.d T8 n.2)])],1⟩)]) z) (loopF (fun go x=>f186_l1 n go x)) fuelN (0:Int) z3 (AI hz3 (AI (E4 [(0,some 0)] (R4 (AJ (AI rfl TV)))) (AI (fun _ _ h=>lZ h) (AI (fun m=>fun v8 z q=>?_) ?_))))
 ·have q : f186_l1 n (loopF (fun go x=>f186_l1 n go x) m) v8 = some z := q
  unfold f186_l1 at q
  refine OL (OL (cI q (fun q=>?_) (fun q=>?_)))
  ·refine OL (OL (gI q (fun q=>?_)))
   refine OL (OL ?_)
   obtain ⟨r4,hr4,q⟩ := bE q
   refine OL (AI f230_in (cV (cQ C230 ((rd (Ty.z T6) n.2 v8).1,((rd (Ty.z T6) n.2 v8).2).1,((rd (Ty.z T6) n.2 v8).2).2) r4 [] false C230_holds hr4 rfl rfl (R2 (K0 (cI q (fun q=>?_) (fun q=>?_)))))))
   ·cases sE q
    refine OL (E4 [] (R2 (AI TV TV)))
   refine EI (i64.wrap (v8 + (1:Int))) (AI q (E4 [(0,some 0)] (R4 (AJ (AI rfl TV)))))
  cases sE q
  refine E4 [(0,some 0)] (AI rfl (AJ (AI rfl TV)))
 rcases z3 with z3a | z3b
 ·dsimp only [sumF] at q
  refine AI ?_ TV
  cases sE q
  refine AI rfl (E4 [] (R2 (AI TV TV)))
 dsimp only [sumF] at q
 refine AI (OL (OL (OL (cI q (fun q=>?_) (fun q=>?_))))) TV
 ·refine OL (gI q (fun q=>?_))
  obtain ⟨r5,hr5,q⟩ := bE q
  refine OL (AI f231_in (cV (cQ C231 ((rd (0:Int) n.1 (0:Int)),(1024:Int)) r5 [] false C231_holds hr5 rfl rfl (R2 (K0 ?_)))))
  cases sE q
  refine AI rfl (E4 [] (R2 (AI TV TV)))
 refine OL (cI q (fun q=>?_) (fun q=>?_))
 ·refine OL (gI q (fun q=>?_))
  obtain ⟨r6,hr6,q⟩ := bE q
  refine OL (AI f231_in (cV (cQ C231 ((rd (0:Int) n.1 (0:Int)),(64:Int)) r6 [] false C231_holds hr6 rfl rfl (R2 (K0 (cI q (fun q=>?_) (fun q=>?_)))))))
  ·refine gX (gX (gI q (fun q=>?_)))
   refine gX (gX ?_)
   obtain ⟨r7,hr7,q⟩ := bE q
   refine OL (AI f231_in (cV (cQ C231 ((rd (0:Int) n.1 (1:Int)),(64:Int)) r7 [] false C231_holds hr7 rfl rfl (R2 (K0 (cT ?_))))))
   cases sE q
   refine AI rfl (E4 [] (R2 (AI TV TV)))
  refine gM (gM (gM (gM (cF ?_))))
  cases sE q
  refine AI rfl (E4 [] (R2 (AI TV TV)))
 cases sE q
 refine OL (AI rfl (E4 [] (R2 (AI TV TV))))
theorem C186_holds : HP C186 186 := hH Tryz.f186 (by kernel_rfl) rfl (fun x y q=>C186_vc x y q)
theorem f186_in : InP 186 := inP (by kernel_rfl)
def f232_j1 (l : ByteArray×Int×Int) (in_ : LI) : Option (Sum Unit Unit) :=
 bif ((List.length in_:Int) != (2:Int)) then
 some (Sum.inr ())
 else
 guardF (0 ≤ (1:Int) ∧ (1:Int) < (List.length in_:Int)) <|
 bif (decide (l.2.2 > (rd (0:Int) in_ (1:Int)))) then
 some (Sum.inr ())
 else
 some (Sum.inl ())
def f232_j2 (l : ByteArray×Int×Int) (in_ : LI) : Option (Sum Unit Unit) :=
 bif ((List.length in_:Int) != (2:Int)) then
 some (Sum.inr ())
 else
 guardF (0 ≤ (1:Int) ∧ (1:Int) < (List.length in_:Int)) <|
 bif (decide (l.2.1 > (rd (0:Int) in_ (1:Int)))) then
 some (Sum.inr ())
 else
 some (Sum.inl ())
def f232 (l : ByteArray×Int×Int) (in_ : LI) : Option (Bool×LI) :=
 bif (ByteArray.toList l.1 == ByteArray.toList (ByteArray.mk #[100,101,110,115,101])) then
 some (true,[l.2.1])
 else
 bif (ByteArray.toList l.1 == ByteArray.toList (ByteArray.mk #[99,111,110,118])) then
 bindF (f232_j1 l in_) fun z1 =>
 sumF z1 (fun z1a =>
 guardF (0 ≤ (1:Int) ∧ (1:Int) < (List.length in_:Int)) <|
 some (true,[l.2.1,(i64.wrap ((i64.wrap ((rd (0:Int) in_ (1:Int)) - l.2.2)) + (1:Int)))])) (fun z1b =>
 some (false,[]))
 else
 bif (ByteArray.toList l.1 == ByteArray.toList (ByteArray.mk #[112,111,111,108])) then
 bindF (f232_j2 l in_) fun z2 =>
 sumF z2 (fun z2a =>
 guardF (0 ≤ (0:Int) ∧ (0:Int) < (List.length in_:Int)) <|
 guardF (0 ≤ (1:Int) ∧ (1:Int) < (List.length in_:Int)) <|
 guardF (l.2.1 ≠ 0) <|
 some (true,[(rd (0:Int) in_ (0:Int)),(i64.wrap (Int.tdiv (rd (0:Int) in_ (1:Int)) l.2.1))])) (fun z2b =>
 some (false,[]))
 else
 bindF (f101 in_) fun q11_11 =>
 some (true,q11_11)
def C232 : Con where
 X := (ByteArray×Int×Int)×LI
 Y := Bool×LI
 e := 0
 args x := [.dat T6 x.1,.dat T1 x.2]
 hin x := []
 F x := f232 x.1 x.2
 ret y := [O0 0,.dat .bool y.1]
 hout y := [(0,.arr 3 T2 y.2)]
 nout := 1
theorem C232_vc (l : ByteArray×Int×Int) (in_ : LI) (y : Bool×LI) (q : f232 l in_ = some y) : VC Tryz.f232 C232 (l,in_) y := by
 unfold f232 at q
 refine OL (OL (OL (OL (cI q (fun q=>?_) (fun q=>?_)))))
 ·refine OL (OL ?_)
  cases sE q
  refine AI rfl (E4 [(0,some 1)] (R2 (AJ (AI rfl TV))))
 refine OL (cI q (fun q=>?_) (fun q=>?_))
 ·obtain ⟨z1,hz1,q⟩ := bE q
  refine OQ ⟨Sum.elim (fun z1a=>[(0,⟨[(1,.dat T1 in_),(2,P0 0 0)],[(0,.cells [(.d .str l.1),(.d T2 l.2.1),(.d T2 l.2.2)])],1⟩)]) (fun z1b=>[(1,⟨[(4,.raw false [N0]),(5,.dat .bool false)],[],0⟩)]) z1,?_,?_⟩
  ·have q := hz1
   clear hz1
   unfold f232_j1 at q
   refine OL (EI (.take 0 (.take 1 (.take 2 (.take 3 (.take 4 (.take 5 (.take 6 (.take 7 (.take 8 (.take 9 (.take 10 .done))))))))))) (EI [] (EI [] (AI rfl (cN q (fun q=>?_) (fun q=>?_))))))
   ·refine gY (gY (gY (gI q (fun q=>?_))))
    refine gY (gY (cF (cI q (fun q=>?_) (fun q=>?_))))
    ·cases sE q
     refine OL (E4 [] (R2 (AJ TV)))
    cases sE q
    refine E4 [(0,some 0)] (R2 (AJ (AI rfl TV)))
   refine gN (gN (gN (gN (gN (cT (cT (OL ?_)))))))
   cases sE q
   refine E4 [] (R2 (AJ TV))
  rcases z1 with z1a | z1b
  ·dsimp only [sumF] at q
   refine AI (OL (EI (.take 0 (.take 1 (.take 2 (.take 3 (.take 4 (.take 5 (.take 6 (.take 7 (.take 8 (.alt 9 (.take 10 (.take 11 .done)) .done)))))))))) (EI [] (EI [] (AI rfl (gI q (fun q=>?_))))))) TV
   refine AI TV (OL ?_)
   cases sE q
   refine AI rfl (E4 [(0,some 1)] (R2 (AJ (AI rfl TV))))
  dsimp only [sumF] at q
  refine AI ?_ TV
  cases sE q
  refine AI rfl (E4 [(0,none)] (R2 (AJ (AI rfl TV))))
 refine OL (cI q (fun q=>?_) (fun q=>?_))
 ·obtain ⟨z2,hz2,q⟩ := bE q
  refine OQ ⟨Sum.elim (fun z2a=>[(0,⟨[(1,.dat T1 in_),(2,P0 0 0)],[(0,.cells [(.d .str l.1),(.d T2 l.2.1),(.d T2 l.2.2)])],1⟩)]) (fun z2b=>[(1,⟨[(4,.raw false [N0]),(5,.dat .bool false)],[],0⟩)]) z2,?_,?_⟩
  ·have q := hz2
   clear hz2
   unfold f232_j2 at q
   refine OL (EI (.take 0 (.take 1 (.take 2 (.take 3 (.take 4 (.take 5 (.take 6 (.take 7 (.take 8 (.take 9 (.take 10 .done))))))))))) (EI [] (EI [] (AI rfl (cN q (fun q=>?_) (fun q=>?_))))))
   ·refine gY (gY (gY (gI q (fun q=>?_))))
    refine gY (gY (cF (cI q (fun q=>?_) (fun q=>?_))))
    ·cases sE q
     refine OL (E4 [] (R2 (AJ TV)))
    cases sE q
    refine E4 [(0,some 0)] (R2 (AJ (AI rfl TV)))
   refine gN (gN (gN (gN (gN (cT (cT (OL ?_)))))))
   cases sE q
   refine E4 [] (R2 (AJ TV))
  rcases z2 with z2a | z2b
  ·dsimp only [sumF] at q
   refine AI (OL (EI (.take 0 (.take 1 (.take 2 (.take 3 (.take 4 (.take 5 (.take 6 (.take 7 (.take 8 (.alt 9 (.take 10 (.take 11 .done)) .done)))))))))) (EI [] (EI [] (AI rfl (gI q (fun q=>?_))))))) TV
   refine gI q (fun q=>?_)
   refine gI q (fun q=>?_)
   refine AI TV (OL ?_)
   cases sE q
   refine AI rfl (E4 [(0,some 1)] (R2 (AJ (AI rfl TV))))
  dsimp only [sumF] at q
  refine AI ?_ TV
  cases sE q
  refine AI rfl (E4 [(0,none)] (R2 (AJ (AI rfl TV))))
 refine OL ?_
 obtain ⟨q11_11,hq11_11,q⟩ := bE q
 refine OL (AI f101_in (cV (cQ C101 in_ q11_11 [] false C101_holds hq11_11 rfl rfl (AI rfl (K0 ?_)))))
 cases sE q
 refine AI rfl (E4 [(0,some 1)] (R2 (AJ (AI rfl TV))))
theorem C232_holds : HP C232 232 := hH Tryz.f232 (by kernel_rfl) rfl (fun x y q=>C232_vc x.1 x.2 y q)
theorem f232_in : InP 232 := inP (by kernel_rfl)
def f233 (n : LI×(List (ByteArray×Int×Int))) (i:Int) (d : List LI) : Option Bool :=
 bif (decide (i > (0:Int))) then
 guardF (0 ≤ (i64.wrap (i - (1:Int))) ∧ (i64.wrap (i - (1:Int))) < (List.length n.2:Int)) <|
 bif (!(ByteArray.toList ((rd (Ty.z T6) n.2 (i64.wrap (i - (1:Int)))).1) == ByteArray.toList (ByteArray.mk #[115,107,105,112]))) then
 guardF (0 ≤ (i64.wrap (i - (1:Int))) ∧ (i64.wrap (i - (1:Int))) < (List.length d:Int)) <|
 guardF (0 ≤ i ∧ i < (List.length d:Int)) <|
 bindF (f110 (rd (Ty.z T1) d (i64.wrap (i - (1:Int)))) (rd (Ty.z T1) d i)) fun q1_22 =>
 some q1_22
 else
 some false
 else
 some false
def C233 : Con where
 X := (LI×(List (ByteArray×Int×Int)))×Int×(List LI)
 Y := Bool
 e := 0
 args x := [.dat T7 x.1,.dat T2 x.2.1,.dat T9 x.2.2]
 hin x := []
 F x := f233 x.1 x.2.1 x.2.2
 ret y := [.dat .bool y]
 hout y := []
 nout := 0
theorem C233_vc (n : LI×(List (ByteArray×Int×Int))) (i:Int) (d : List LI) (y : Bool) (q : f233 n i d = some y) : VC Tryz.f233 C233 (n,i,d) y := by
 unfold f233 at q
 refine OL (OL (EI (.take 0 (.take 1 (.take 2 (.take 3 (.take 4 (.take 5 (.take 6 (.take 7 (.take 8 (.take 9 (.take 10 (.take 11 (.take 12 (.take 13 (.take 14 (.take 15 (.take 16 (.take 17 (.take 18 (.take 19 (.take 20 (.take 21 (.alt 22 (.take 23 (.take 24 .done)) .done))))))))))))))))))))))) (EI [] (EI [] (AI rfl (cI q (fun q=>?_) (fun q=>?_)))))))
 ·refine gX (gX (gX (gX (gI q (fun q=>?_)))))
  refine gX (gX (gX (cT (cI q (fun q=>?_) (fun q=>?_)))))
  ·refine gX (gX (gX (gI q (fun q=>?_))))
   refine gX (gX (gX (gX (gI q (fun q=>?_)))))
   refine gX (AI TV (gX ?_))
   obtain ⟨q1_22,hq1_22,q⟩ := bE q
   refine OL (AI f110_in (cV (cQ C110 ((rd (Ty.z T1) d (i64.wrap (i - (1:Int)))),(rd (Ty.z T1) d i)) q1_22 [] false C110_holds hq1_22 rfl rfl (R2 (K0 (cT ?_))))))
   cases sE q
   refine AI rfl (E4 [] (R2 (AI TV TV)))
  refine gM (gM (gM (gM (gM (gM (gM (gM (AI TV (gM (cF ?_))))))))))
  cases sE q
  refine AI rfl (E4 [] (R2 (AI TV TV)))
 refine gM (gM (gM (gM (gM (gM (gM (cF (gM (gM (gM (gM (gM (gM (gM (gM (gM (AI TV (gM (cF ?_)))))))))))))))))))
 cases sE q
 refine AI rfl (E4 [] (R2 (AI TV TV)))
theorem C233_holds : HP C233 233 := hH Tryz.f233 (by kernel_rfl) rfl (fun x y q=>C233_vc x.1 x.2.1 x.2.2 y q)
theorem f233_in : InP 233 := inP (by kernel_rfl)
end Go.Proofs
