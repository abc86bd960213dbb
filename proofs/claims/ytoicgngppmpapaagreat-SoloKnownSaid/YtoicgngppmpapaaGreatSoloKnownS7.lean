import Derived.Test.YtoicgngppmpapaaGreatSoloKnownS6
set_option linter.unusedVariables false
set_option maxRecDepth 100000
set_option maxHeartbeats 8000000
namespace Go.Proofs
open Go.AM
open IntKind (i64 u64 i32 u32 i16 u16 i8 u8)
def f175_j4 (g : LI×LI) (a : LI×LI) (step:Int) (wid:Int) : Option Bool :=
 bindF (f59 (g.1,g.2)) fun r15 =>
 bif (!r15) then
 some true
 else
 bindF (f59 (a.1,a.2)) fun r16 =>
 bif (!r16) then
 some true
 else
 bindF (f224 step) fun r17 =>
 bif (!r17) then
 some true
 else
 bindF (f225 wid) fun r18 =>
 some (!r18)
def f175_j5 (g : LI×LI) (a : LI×LI) (step:Int) (wid:Int) : Option Bool :=
 bif ((List.length g.1:Int) != (2:Int)) then
 some true
 else
 bif ((List.length a.1:Int) != (2:Int)) then
 some true
 else
 guardF (0 ≤ (1:Int) ∧ (1:Int) < (List.length a.1:Int)) <|
 guardF (0 ≤ (1:Int) ∧ (1:Int) < (List.length g.1:Int)) <|
 bindF (f226 (rd (0:Int) a.1 (1:Int)) wid step) fun q3_17 =>
 some (q3_17 != (rd (0:Int) g.1 (1:Int)))
def f175_j3 (g : LI×LI) (a : LI×LI) (step:Int) (wid:Int) : Option (Sum Unit Int) :=
 bindF (f175_j4 g a step wid) fun z14 =>
 bif z14 then
 some (Sum.inr (1:Int))
 else
 bindF (f175_j5 g a step wid) fun z19 =>
 bif z19 then
 some (Sum.inr (4:Int))
 else
 some (Sum.inl ())
def f175_l9 (g : LI×LI) (a : LI×LI) (step:Int) (wid:Int) (v97:Int) (go : (Int×Int×Int×Int) → Option (Int×Int×Int)) (v114:Int) (c4_0:Int) (c4_1:Int) (c4_2:Int) : Option (Int×Int×Int) :=
 bif (decide (v114 < (rd (0:Int) g.1 (1:Int)))) then
 guardF (0 ≤ (i64.wrap ((i64.wrap ((i64.wrap (Int.tdiv v97 (i64.wrap ((rd (0:Int) a.1 (0:Int)) * wid)))) * (rd (0:Int) g.1 (1:Int)))) + v114)) ∧ (i64.wrap ((i64.wrap ((i64.wrap (Int.tdiv v97 (i64.wrap ((rd (0:Int) a.1 (0:Int)) * wid)))) * (rd (0:Int) g.1 (1:Int)))) + v114)) < (List.length g.2:Int)) <|
 guardF (0 ≤ (i64.wrap ((i64.wrap ((i64.wrap ((Int.tmod (i64.wrap (Int.tdiv v97 wid)) (rd (0:Int) a.1 (0:Int))) * (rd (0:Int) a.1 (1:Int)))) + (i64.wrap (v114 * step)))) + (Int.tmod v97 wid))) ∧ (i64.wrap ((i64.wrap ((i64.wrap ((Int.tmod (i64.wrap (Int.tdiv v97 wid)) (rd (0:Int) a.1 (0:Int))) * (rd (0:Int) a.1 (1:Int)))) + (i64.wrap (v114 * step)))) + (Int.tmod v97 wid))) < (List.length a.2:Int)) <|
 bindF (f228 c4_0 c4_1 c4_2 (rd (0:Int) g.2 (i64.wrap ((i64.wrap ((i64.wrap (Int.tdiv v97 (i64.wrap ((rd (0:Int) a.1 (0:Int)) * wid)))) * (rd (0:Int) g.1 (1:Int)))) + v114))) (rd (0:Int) a.2 (i64.wrap ((i64.wrap ((i64.wrap ((Int.tmod (i64.wrap (Int.tdiv v97 wid)) (rd (0:Int) a.1 (0:Int))) * (rd (0:Int) a.1 (1:Int)))) + (i64.wrap (v114 * step)))) + (Int.tmod v97 wid))))) fun q17_22 =>
 go ((i64.wrap (v114 + (1:Int))),q17_22.1,q17_22.2.1,q17_22.2.2)
 else
 some (c4_0,c4_1,c4_2)
def f175_l8 (g : LI×LI) (a : LI×LI) (step:Int) (wid:Int) (q5_14 : Int×LI×LI) (go : (Int×LI) → Option LI) (v97:Int) (l5 : LI) : Option LI :=
 bif (decide (v97 < (List.length q5_14.2.2:Int))) then
 guardF ((i64.wrap ((rd (0:Int) a.1 (0:Int)) * wid)) ≠ 0) <|
 guardF (wid ≠ 0) <|
 guardF ((rd (0:Int) a.1 (0:Int)) ≠ 0) <|
 guardF (wid ≠ 0) <|
 bindF (loopF (fun go x=>f175_l9 g a step wid v97 go x.1 x.2.1 x.2.2.1 x.2.2.2) fuelN ((0:Int),(0:Int),(0:Int),(0:Int))) fun z23 =>
 bindF (f229 z23.1 z23.2.1 z23.2.2 (32:Int)) fun q19_3 =>
 guardF (0 ≤ v97 ∧ v97 < (List.length l5:Int)) <|
 go ((i64.wrap (v97 + (1:Int))),(List.set l5 (Int.toNat v97) q19_3.1))
 else
 some l5
def f175 (g : LI×LI) (a : LI×LI) (step:Int) (wid:Int) : Option (Int×LI×LI) :=
 bindF (f175_j3 g a step wid) fun z10 =>
 sumF z10 (fun z10a =>
 guardF (0 ≤ (0:Int) ∧ (0:Int) < (List.length a.1:Int)) <|
 guardF (0 ≤ (1:Int) ∧ (1:Int) < (List.length a.1:Int)) <|
 guardF (0 ≤ (1:Int) ∧ (1:Int) < (List.length g.1:Int)) <|
 guardF (0 ≤ (0:Int) ∧ (0:Int) < (List.length g.1:Int)) <|
 bindF (f227 ([(rd (0:Int) g.1 (0:Int)),(rd (0:Int) a.1 (0:Int)),wid])) fun q5_14 =>
 bif (q5_14.1 != (0:Int)) then
 some (q5_14.1,[],[])
 else
 bindF (loopF (fun go x=>f175_l8 g a step wid q5_14 go x.1 x.2) fuelN ((0:Int),q5_14.2.2)) fun z22 =>
 some ((0:Int),q5_14.2.1,z22)) (fun z10b =>
 some (z10b,[],[]))
def C175 : Con where
 X := (LI×LI)×(LI×LI)×Int×Int
 Y := Int×LI×LI
 e := 0
 args x := [.dat T3 x.1,.dat T3 x.2.1,.dat T2 x.2.2.1,.dat T2 x.2.2.2]
 hin x := []
 F x := f175 x.1 x.2.1 x.2.2.1 x.2.2.2
 ret y := [.raw true [(.osl 0),(.osl 1)],.dat T2 y.1]
 hout y := [(0,.arr 3 T2 y.2.1),(1,.arr 40 T2 y.2.2)]
 nout := 2
theorem C175_vc (g : LI×LI) (a : LI×LI) (step:Int) (wid:Int) (y : Int×LI×LI) (q : f175 g a step wid = some y) : VC Tryz.f175 C175 (g,a,step,wid) y := by
 unfold f175 at q
 refine OL ?_
 obtain ⟨z10,hz10,q⟩ := bE q
 refine OQ ⟨Sum.elim (fun z10a=>[(0,⟨[(2,.dat T2 step),(3,.dat T2 wid),(4,P0 0 0),(5,P0 1 0),(8,P0 2 0)],[(0,.cells [(.d T1 g.1),(.d T1 g.2)]),(1,.cells [(.d T1 a.1),(.d T1 a.2)]),(2,.cells [N0,N0])],3⟩)]) (fun z10b=>[(1,⟨[(8,P0 0 0),(9,.dat T2 z10b)],[(0,.cells [N0,N0])],1⟩)]) z10,?_,?_⟩
 ·have q := hz10
  clear hz10
  unfold f175_j3 at q
  obtain ⟨z14,hz14,q⟩ := bE q
  refine OQ ⟨[(0,⟨[(2,.dat T2 step),(3,.dat T2 wid),(4,P0 0 0),(5,P0 1 0),(8,P0 2 0),(21,.dat .bool z14)],[(0,.cells [(.d T1 g.1),(.d T1 g.2)]),(1,.cells [(.d T1 a.1),(.d T1 a.2)]),(2,.cells [N0,N0])],3⟩)],?_,?_⟩
  ·have q := hz14
   clear hz14
   unfold f175_j4 at q
   obtain ⟨r15,hr15,q⟩ := bE q
   refine OL (AI f59_in (cV (cQ C59 (g.1,g.2) r15 [] false C59_holds hr15 rfl rfl (R2 (K0 (cN q (fun q=>?_) (fun q=>?_)))))))
   ·refine gY ?_
    obtain ⟨r16,hr16,q⟩ := bE q
    refine OL (AI f59_in (cV (cQ C59 (a.1,a.2) r16 [] false C59_holds hr16 rfl rfl (R2 (K0 (gY (cF (cN q (fun q=>?_) (fun q=>?_)))))))))
    ·refine gY ?_
     obtain ⟨r17,hr17,q⟩ := bE q
     refine OL (AI f224_in (cV (cQ C224 step r17 [] false C224_holds hr17 rfl rfl (AI rfl (K0 (gY (cF (cN q (fun q=>?_) (fun q=>?_)))))))))
     ·refine gY ?_
      obtain ⟨r18,hr18,q⟩ := bE q
      refine OL (AI f225_in (cV (cQ C225 wid r18 [] false C225_holds hr18 rfl rfl (AI rfl (K0 (gY (cF ?_)))))))
      cases sE q
      refine E4 I3 (R4 (AI (R3 TV) (R3 TV)))
     refine gN (gN (cT ?_))
     cases sE q
     refine E4 I3 (R4 (AI (R3 TV) (R3 TV)))
    refine gN (gN (cT (gN (gN (gN (cT ?_))))))
    cases sE q
    refine E4 I3 (R4 (AI (R3 TV) (R3 TV)))
   refine gN (gN (cT (gN (gN (gN (cT (gN (gN (gN (cT ?_))))))))))
   cases sE q
   refine E4 I3 (R4 (AI (R3 TV) (R3 TV)))
  refine AI (cI q (fun q=>?_) (fun q=>?_)) TV
  ·refine OL (OL ?_)
   cases sE q
   refine E4 [(0,some 2)] (R2 (AJ (AI rfl TV)))
  obtain ⟨z19,hz19,q⟩ := bE q
  refine OQ ⟨[(0,⟨[(2,.dat T2 step),(3,.dat T2 wid),(4,P0 0 0),(5,P0 1 0),(8,P0 2 0),(41,.dat .bool z19)],[(0,.cells [(.d T1 g.1),(.d T1 g.2)]),(1,.cells [(.d T1 a.1),(.d T1 a.2)]),(2,.cells [N0,N0])],3⟩)],?_,?_⟩
  ·have q := hz19
   clear hz19
   unfold f175_j5 at q
   refine EI (.take 0 (.take 1 (.take 2 (.take 3 (.take 4 (.take 5 (.take 6 (.take 7 (.take 8 (.take 9 (.take 10 (.take 11 (.take 12 (.take 13 (.take 14 (.take 15 (.take 16 (.take 18 (.take 19 (.take 20 (.take 21 (.alt 17 (.take 22 (.take 23 (.take 24 .done))) .done)))))))))))))))))))))) (EI [] (EI [] (AI rfl (cN q (fun q=>?_) (fun q=>?_)))))
   ·refine gY (gY (gY (cF (cN q (fun q=>?_) (fun q=>?_)))))
    ·refine gY (gY (gI q (fun q=>?_)))
     refine gY (gY (gY (gY (gY (gY (gI q (fun q=>?_)))))))
     refine gY (AI TV (gY ?_))
     obtain ⟨q3_17,hq3_17,q⟩ := bE q
     refine OL (AI f226_in (cV (cQ C226 ((rd (0:Int) a.1 (1:Int)),wid,step) q3_17 [] false C226_holds hq3_17 rfl rfl (R3 (K0 (gY (cF ?_)))))))
     cases sE q
     refine E4 I3 (R4 (AI (R3 TV) (R3 TV)))
    refine gN (gN (gN (gN (gN (gN (gN (gN (gN (AI TV (gN (gN (cT ?_))))))))))))
    cases sE q
    refine E4 I3 (R4 (AI (R3 TV) (R3 TV)))
   refine gN (gN (gN (cT (gN (gN (gN (gN (gN (gN (gN (gN (gN (gN (AI TV (gN (gN (cT ?_)))))))))))))))))
   cases sE q
   refine E4 I3 (R4 (AI (R3 TV) (R3 TV)))
  refine AI (cI q (fun q=>?_) (fun q=>?_)) TV
  ·refine OL (OL ?_)
   cases sE q
   refine E4 [(0,some 2)] (R2 (AJ (AI rfl TV)))
  cases sE q
  refine E4 I3 (R3 (AI (R3 TV) (R3 TV)))
 rcases z10 with z10a | z10b
 ·dsimp only [sumF] at q
  refine AI (OL (EI (.take 0 (.take 1 (.take 2 (.take 3 (.take 4 (.take 5 (.take 6 (.take 7 (.take 8 (.take 9 (.take 10 (.take 11 (.take 12 (.take 13 (.take 14 .done))))))))))))))) (EI [] (EI [] (AI rfl (gI q (fun q=>?_))))))) TV
  refine gI q (fun q=>?_)
  refine gI q (fun q=>?_)
  refine OL (gI q (fun q=>?_))
  refine OL ?_
  obtain ⟨q5_14,hq5_14,q⟩ := bE q
  refine OL (AI f227_in (cV (cQ C227 [(rd (0:Int) g.1 (0:Int)),(rd (0:Int) a.1 (0:Int)),wid] q5_14 [] true C227_holds hq5_14 rfl rfl (AI rfl (AI (fun _=>rfl) (R2 (AI TV (AI TV (OL (OL (OL (cI q (fun q=>?_) (fun q=>?_)))))))))))))
  ·refine OL (OL ?_)
   cases sE q
   refine AI rfl (E4 [(0,none),(1,none)] (R2 (AJ (R2 TV))))
  refine OL (OL ?_)
  obtain ⟨z22,hz22,q⟩ := bE q
  refine lI (Int×LI) LI (fun x=>⟨[(2,.dat T2 step),(3,.dat T2 wid),(4,P0 0 0),(5,P0 1 0),(8,P0 2 0),(10,.dat T2 (rd (0:Int) a.1 (0:Int))),(11,.dat T2 (rd (0:Int) a.1 (1:Int))),(12,.dat T2 (rd (0:Int) g.1 (1:Int))),(13,P0 3 0),(96,.dat T2 (List.length q5_14.2.2:Int)),(97,.dat T2 x.1)],[(0,.cells [(.d T1 g.1),(.d T1 g.2)]),(1,.cells [(.d T1 a.1),(.d T1 a.2)]),(2,.cells [N0,N0]),(3,.cells [(.osl 4),(.osl 5)]),(4,.arr 3 T2 q5_14.2.1),(5,.arr 40 T2 x.2)],6⟩) (fun z=>[(3,⟨[(8,P0 0 0),(13,P0 1 0)],[(0,.cells [N0,N0]),(1,.cells [(.osl 2),(.osl 3)]),(2,.arr 3 T2 q5_14.2.1),(3,.arr 40 T2 z)],4⟩)]) (loopF (fun go x=>f175_l8 g a step wid q5_14 go x.1 x.2)) fuelN ((0:Int),q5_14.2.2) z22 (AI hz22 (AI (E4 [(0,some 0),(1,some 1),(2,some 2),(3,some 6),(4,some 4),(5,some 5)] (R8 (AI (R4 TV) (R6 TV)))) (AI (fun _ _ h=>lZ h) (AI (fun m=>curI (fun v97=>fun l5 z q=>?_)) ?_))))
  ·have q : f175_l8 g a step wid q5_14 (loopF (fun go x=>f175_l8 g a step wid q5_14 go x.1 x.2) m) v97 l5 = some z := q
   unfold f175_l8 at q
   refine OL (OL (cI q (fun q=>?_) (fun q=>?_)))
   ·refine OL (OL (OL (EI (.take 0 (.take 1 (.take 2 (.take 3 (.take 4 (.take 5 (.take 6 (.take 7 (.take 8 (.take 9 (.take 10 (.take 11 (.take 12 (.take 13 (.take 14 (.take 15 .done)))))))))))))))) (EI [] (EI [] (AI rfl (gI q (fun q=>?_))))))))
    refine gI q (fun q=>?_)
    refine gI q (fun q=>?_)
    refine gI q (fun q=>?_)
    refine OL (OL (OL ?_))
    obtain ⟨z23,hz23,q⟩ := bE q
    refine lI (Int×Int×Int×Int) (Int×Int×Int) (fun x=>⟨[(2,.dat T2 step),(3,.dat T2 wid),(4,P0 0 0),(5,P0 1 0),(8,P0 2 0),(10,.dat T2 (rd (0:Int) a.1 (0:Int))),(11,.dat T2 (rd (0:Int) a.1 (1:Int))),(12,.dat T2 (rd (0:Int) g.1 (1:Int))),(13,P0 3 0),(15,.dat T2 v97),(16,.dat T2 (i64.wrap (Int.tdiv v97 (i64.wrap ((rd (0:Int) a.1 (0:Int)) * wid))))),(17,.dat T2 (Int.tmod (i64.wrap (Int.tdiv v97 wid)) (rd (0:Int) a.1 (0:Int)))),(18,.dat T2 (Int.tmod v97 wid)),(19,P0 4 0),(96,.dat T2 (List.length q5_14.2.2:Int)),(97,.dat T2 v97),(113,.dat T2 (rd (0:Int) g.1 (1:Int))),(114,.dat T2 x.1)],[(0,.cells [(.d T1 g.1),(.d T1 g.2)]),(1,.cells [(.d T1 a.1),(.d T1 a.2)]),(2,.cells [N0,N0]),(3,.cells [(.osl 5),(.osl 6)]),(4,.cells [(.d T2 x.2.1),(.d T2 x.2.2.1),(.d T4 x.2.2.2)]),(5,.arr 3 T2 q5_14.2.1),(6,.arr 40 T2 l5)],7⟩) (fun z=>[(5,⟨[(2,.dat T2 step),(3,.dat T2 wid),(4,P0 0 0),(5,P0 1 0),(8,P0 2 0),(10,.dat T2 (rd (0:Int) a.1 (0:Int))),(11,.dat T2 (rd (0:Int) a.1 (1:Int))),(12,.dat T2 (rd (0:Int) g.1 (1:Int))),(13,P0 3 0),(15,.dat T2 v97),(19,P0 4 0),(96,.dat T2 (List.length q5_14.2.2:Int)),(97,.dat T2 v97)],[(0,.cells [(.d T1 g.1),(.d T1 g.2)]),(1,.cells [(.d T1 a.1),(.d T1 a.2)]),(2,.cells [N0,N0]),(3,.cells [(.osl 5),(.osl 6)]),(4,.cells [(.d T2 z.1),(.d T2 z.2.1),(.d T4 z.2.2)]),(5,.arr 3 T2 q5_14.2.1),(6,.arr 40 T2 l5)],7⟩)]) (loopF (fun go x=>f175_l9 g a step wid v97 go x.1 x.2.1 x.2.2.1 x.2.2.2)) fuelN ((0:Int),(0:Int),(0:Int),(0:Int)) z23 (AI hz23 (AI (E4 [(0,some 0),(1,some 1),(2,some 2),(3,some 3),(4,some 6),(5,some 4),(6,some 5)] (R14 (AI (R5 TV) (R7 TV)))) (AI (fun _ _ h=>lZ h) (AI (fun m=>curI (fun v114=>curI (fun c4_0=>curI (fun c4_1=>fun c4_2 z q=>?_)))) ?_))))
    ·have q : f175_l9 g a step wid v97 (loopF (fun go x=>f175_l9 g a step wid v97 go x.1 x.2.1 x.2.2.1 x.2.2.2) m) v114 c4_0 c4_1 c4_2 = some z := q
     unfold f175_l9 at q
     refine OL (OL (cI q (fun q=>?_) (fun q=>?_)))
     ·refine OL (OL (EI (.take 0 (.take 1 (.take 2 (.take 3 (.take 4 (.take 5 (.take 6 (.take 7 (.take 8 (.take 9 (.take 10 (.take 11 (.take 12 (.take 13 (.take 14 (.take 15 (.take 16 (.take 17 (.take 18 (.take 19 (.take 20 (.take 21 (.alt 22 .done .done))))))))))))))))))))))) (EI [] (EI [] (AI rfl (gI q (fun q=>?_)))))))
      refine gI q (fun q=>?_)
      refine AI TV ?_
      obtain ⟨q17_22,hq17_22,q⟩ := bE q
      refine OL (AI f228_in (cV (cQ C228 (c4_0,c4_1,c4_2,(rd (0:Int) g.2 (i64.wrap ((i64.wrap ((i64.wrap (Int.tdiv v97 (i64.wrap ((rd (0:Int) a.1 (0:Int)) * wid)))) * (rd (0:Int) g.1 (1:Int)))) + v114))),(rd (0:Int) a.2 (i64.wrap ((i64.wrap ((i64.wrap ((Int.tmod (i64.wrap (Int.tdiv v97 wid)) (rd (0:Int) a.1 (0:Int))) * (rd (0:Int) a.1 (1:Int)))) + (i64.wrap (v114 * step)))) + (Int.tmod v97 wid))))) q17_22 [(0,some 4)] false C228_holds hq17_22 rfl rfl (R2 (AI NH (R2 (AJ (AJ (EI ((i64.wrap (v114 + (1:Int))),q17_22.1,q17_22.2.1,q17_22.2.2) (AI q (E4 I7 (R14 (AI (R5 TV) (R7 TV))))))))))))))
     cases sE q
     refine E4 I7 (R9 (AI (R5 TV) (R7 TV)))
    refine AI (EI (.take 0 (.take 1 (.take 2 (.alt 3 (.take 4 (.alt 5 .done .done)) .done)))) (EI [] (EI [] (AI rfl (AI TV ?_))))) TV
    obtain ⟨q19_3,hq19_3,q⟩ := bE q
    refine OL (AI f229_in (cV (cQ C229 (z23.1,z23.2.1,z23.2.2,(32:Int)) q19_3 [(0,some 4)] false C229_holds hq19_3 rfl rfl (AI rfl (AI NH (R2 (AJ (AJ (gI q (fun q=>?_))))))))))
    refine AI TV (OL (EI ((i64.wrap (v97 + (1:Int))),(List.set l5 (Int.toNat v97) q19_3.1)) (AI q (E4 [(0,some 0),(1,some 1),(2,some 2),(3,some 3),(4,some 5),(5,some 6)] (R8 (AI (R4 TV) (R6 TV)))))))
   cases sE q
   refine E4 [(0,some 2),(1,some 3),(2,some 4),(3,some 5)] (AI rfl (AI (R2 TV) (R4 TV)))
  refine AI (OL (OL ?_)) TV
  cases sE q
  refine AI rfl (E4 [(0,some 2),(1,some 3)] (R2 (AJ (R2 TV))))
 dsimp only [sumF] at q
 refine AI ?_ TV
 cases sE q
 refine AI rfl (E4 [(0,none),(1,none)] (R2 (AJ (R2 TV))))
theorem C175_holds : HP C175 175 := hH Tryz.f175 (by kernel_rfl) rfl (fun x y q=>C175_vc x.1 x.2.1 x.2.2.1 x.2.2.2 y q)
theorem f175_in : InP 175 := inP (by kernel_rfl)
def f112 (n : ND) (a : LI×LI) (b : LI×LI) (g : LI×LI) : Option (Int×LI×LI) :=
 bif (n.1 == (2:Int)) then
 bindF (f163 (g.1,g.2) b.1) fun q13_12 =>
 some (q13_12.1,q13_12.2.1,q13_12.2.2)
 else
 bif (n.1 == (3:Int)) then
 bindF (f166 (g.1,g.2) (-4294967296:Int)) fun r1 =>
 bindF (f165 (r1.2.1,r1.2.2) r1.1 b.1) fun r2 =>
 some (r2.1,r2.2.1,r2.2.2)
 else
 bif (n.1 == (4:Int)) then
 bindF (f164 (g.1,g.2) (a.1,a.2)) fun r3 =>
 bindF (f165 (r3.2.1,r3.2.2) r3.1 b.1) fun r4 =>
 some (r4.1,r4.2.1,r4.2.2)
 else
 bif (n.1 == (6:Int)) then
 bindF (f167 (a.1,a.2) (g.1,g.2) true) fun r5 =>
 some (r5.1,r5.2.1,r5.2.2)
 else
 bif (n.1 == (12:Int)) then
 guardF (0 ≤ (2:Int) ∧ (2:Int) < (List.length b.1:Int)) <|
 bindF (f175 (g.1,g.2) (a.1,a.2) n.2.2.2.1 (rd (0:Int) b.1 (2:Int))) fun q13_8 =>
 some (q13_8.1,q13_8.2.1,q13_8.2.2)
 else
 some ((0:Int),[],[])
def C112 : Con where
 X := (ND)×(LI×LI)×(LI×LI)×(LI×LI)
 Y := Int×LI×LI
 e := 0
 args x := [.dat T0 x.1,.dat T3 x.2.1,.dat T3 x.2.2.1,.dat T3 x.2.2.2]
 hin x := []
 F x := f112 x.1 x.2.1 x.2.2.1 x.2.2.2
 ret y := [.raw true [(.osl 0),(.osl 1)],.dat T2 y.1]
 hout y := [(0,.arr 3 T2 y.2.1),(1,.arr 40 T2 y.2.2)]
 nout := 2
theorem C112_vc (n : ND) (a : LI×LI) (b : LI×LI) (g : LI×LI) (y : Int×LI×LI) (q : f112 n a b g = some y) : VC Tryz.f112 C112 (n,a,b,g) y := by
 unfold f112 at q
 refine OL (OL (OL (OL (cI q (fun q=>?_) (fun q=>?_)))))
 ·refine OL ?_
  obtain ⟨q13_12,hq13_12,q⟩ := bE q
  refine OL (AI f163_in (cV (cQ C163 ((g.1,g.2),b.1) q13_12 [] false C163_holds hq13_12 rfl rfl (R3 (K0 (OL ?_))))))
  cases sE q
  refine AI rfl (E4 [(0,some 5),(1,some 6)] (R2 (AJ (R2 TV))))
 refine OL (cI q (fun q=>?_) (fun q=>?_))
 ·refine OL ?_
  obtain ⟨r1,hr1,q⟩ := bE q
  have hr1 : C166.F ((g.1,g.2),(-4294967296:Int)) = some r1 := hr1
  refine OL (AI f166_in (cV (cQ C166 _ r1 [] false C166_holds hr1 rfl rfl (R3 (K0 (OL (OL ?_)))))))
  obtain ⟨r2,hr2,q⟩ := bE q
  refine OL (AI f165_in (cV (cQ C165 ((r1.2.1,r1.2.2),r1.1,b.1) r2 [] true C165_holds hr2 rfl rfl (R4 (AI (fun _=>rfl) (R2 (AI TV (AI TV (OL ?_)))))))))
  cases sE q
  refine AI rfl (E4 [(0,some 8),(1,some 9)] (R2 (AJ (R2 TV))))
 refine OL (cI q (fun q=>?_) (fun q=>?_))
 ·refine OL ?_
  obtain ⟨r3,hr3,q⟩ := bE q
  refine OL (AI f164_in (cV (cQ C164 ((g.1,g.2),(a.1,a.2)) r3 [] false C164_holds hr3 rfl rfl (R4 (K0 (OL (OL ?_)))))))
  obtain ⟨r4,hr4,q⟩ := bE q
  refine OL (AI f165_in (cV (cQ C165 ((r3.2.1,r3.2.2),r3.1,b.1) r4 [] true C165_holds hr4 rfl rfl (R4 (AI (fun _=>rfl) (R2 (AI TV (AI TV (OL ?_)))))))))
  cases sE q
  refine AI rfl (E4 [(0,some 8),(1,some 9)] (R2 (AJ (R2 TV))))
 refine OL (cI q (fun q=>?_) (fun q=>?_))
 ·refine OL ?_
  obtain ⟨r5,hr5,q⟩ := bE q
  refine OL (AI f167_in (cV (cQ C167 ((a.1,a.2),(g.1,g.2),true) r5 [] false C167_holds hr5 rfl rfl (R5 (K0 (OL ?_))))))
  cases sE q
  refine AI rfl (E4 [(0,some 5),(1,some 6)] (R2 (AJ (R2 TV))))
 refine OL (cI q (fun q=>?_) (fun q=>?_))
 ·refine OL (EI (.take 0 (.take 1 (.take 2 (.take 3 (.take 4 (.take 5 (.take 6 (.take 7 (.alt 8 (.take 9 (.take 10 (.alt 11 (.take 12 .done) .done))) .done))))))))) (EI [] (EI [] (AI rfl (gI q (fun q=>?_))))))
  refine AI TV ?_
  obtain ⟨q13_8,hq13_8,q⟩ := bE q
  refine OL (AI f175_in (cV (cQ C175 ((g.1,g.2),(a.1,a.2),n.2.2.2.1,(rd (0:Int) b.1 (2:Int))) q13_8 [] false C175_holds hq13_8 rfl rfl (R6 (K0 (AI TV (OL ?_)))))))
  cases sE q
  refine AI rfl (E4 [(0,some 5),(1,some 6)] (R2 (AJ (R2 TV))))
 refine OL (OL ?_)
 cases sE q
 refine AI rfl (E4 [(0,none),(1,none)] (R2 (AJ (R2 TV))))
theorem C112_holds : HP C112 112 := hH Tryz.f112 (by kernel_rfl) rfl (fun x y q=>C112_vc x.1 x.2.1 x.2.2.1 x.2.2.2 y q)
theorem f112_in : InP 112 := inP (by kernel_rfl)
def f74_j3 (g : LI×LI) (q12_4 : Int×Int×Int×Int×Bool×LI×LI×NL) : Option Bool :=
 bif (!q12_4.2.2.2.2.1) then
 some true
 else
 bindF (f59 (g.1,g.2)) fun r10 =>
 bif (!r10) then
 some true
 else
 bindF (f110 g.1 q12_4.2.2.2.2.2.1) fun r11 =>
 some (!r11)
def f74_j2 (g : LI×LI) (q12_4 : Int×Int×Int×Int×Bool×LI×LI×NL) : Option (Sum Unit Unit) :=
 bindF (f74_j3 g q12_4) fun z9 =>
 bif z9 then
 some (Sum.inr ())
 else
 some (Sum.inl ())
def f74 (t_l : NL) (n:Int) (g : LI×LI) : Option (Int×LI×LI×LI×LI×NL) :=
 bindF (f24 t_l n) fun q12_4 =>
 bindF (f74_j2 g q12_4) fun z6 =>
 sumF z6 (fun z6a =>
 bindF (f58 q12_4.2.2.2.2.2.2.2 q12_4.2.1) fun r12 =>
 bindF (f58 r12.2.2.2 q12_4.2.2.1) fun r13 =>
 bindF (f111 (q12_4.1,q12_4.2.1,q12_4.2.2.1,q12_4.2.2.2.1,q12_4.2.2.2.2.2.1,q12_4.2.2.2.2.2.2.1) (r12.2.1,r12.2.2.1) (r13.2.1,r13.2.2.1) (g.1,g.2)) fun r14 =>
 bif (r14.1 != (0:Int)) then
 some (r14.1,[],[],[],[],r13.2.2.2)
 else
 bindF (f112 (q12_4.1,q12_4.2.1,q12_4.2.2.1,q12_4.2.2.2.1,q12_4.2.2.2.2.2.1,q12_4.2.2.2.2.2.2.1) (r12.2.1,r12.2.2.1) (r13.2.1,r13.2.2.1) (g.1,g.2)) fun r15 =>
 bif (r15.1 != (0:Int)) then
 some (r15.1,[],[],[],[],r13.2.2.2)
 else
 some ((0:Int),r14.2.1,r14.2.2,r15.2.1,r15.2.2,r13.2.2.2)) (fun z6b =>
 some ((1:Int),[],[],[],[],q12_4.2.2.2.2.2.2.2))
def C74 : Con where
 X := NL×Int×(LI×LI)
 Y := Int×LI×LI×LI×LI×NL
 e := 2
 args x := [P0 0 0,.dat T2 x.2.1,.dat T3 x.2.2]
 hin x := [(0,.cells [(.osl 1)]),(1,.arr 42 T0 x.1)]
 F x := f74 x.1 x.2.1 x.2.2
 ret y := [.raw true [(.osl 2),(.osl 3)],.raw true [(.osl 4),(.osl 5)],.dat T2 y.1]
 hout y := [(0,.cells [(.osl 1)]),(1,.arr 42 T0 y.2.2.2.2.2),(2,.arr 3 T2 y.2.1),(3,.arr 40 T2 y.2.2.1),(4,.arr 3 T2 y.2.2.2.1),(5,.arr 40 T2 y.2.2.2.2.1)]
 nout := 6
theorem C74_vc (t_l : NL) (n:Int) (g : LI×LI) (y : Int×LI×LI×LI×LI×NL) (q : f74 t_l n g = some y) : VE Tryz.f74 2 C74 (t_l,n,g) y := by
 unfold f74 at q
 refine OL (OL ?_)
 obtain ⟨q12_4,hq12_4,q⟩ := bE q
 refine OL (AI f24_in (cV (cQ C24 (t_l,n) q12_4 I2 false C24_holds hq12_4 rfl rfl (AI rfl (AI NH (R2 (AJ (AI (R2 TV) (OL ?_)))))))))
 obtain ⟨z6,hz6,q⟩ := bE q
 refine OQ ⟨Sum.elim (fun z6a=>[(0,⟨[(0,P0 0 0),(5,P0 2 0),(6,P0 3 0),(7,P0 4 0),(9,P0 5 0)],[(0,.cells [(.osl 1)]),(1,.arr 42 T0 q12_4.2.2.2.2.2.2.2),(2,.cells [(.d T1 g.1),(.d T1 g.2)]),(3,.cells [N0,N0]),(4,.cells [N0,N0]),(5,.cells [(.d T2 q12_4.1),(.d T2 q12_4.2.1),(.d T2 q12_4.2.2.1),(.d T2 q12_4.2.2.2.1),(.osl 6),(.osl 7)]),(6,.arr 3 T2 q12_4.2.2.2.2.2.1),(7,.arr 40 T2 q12_4.2.2.2.2.2.2.1)],8⟩)]) (fun z6b=>[(1,⟨[(6,P0 2 0),(7,P0 3 0),(8,D0 1)],[(0,.cells [(.osl 1)]),(1,.arr 42 T0 q12_4.2.2.2.2.2.2.2),(2,.cells [N0,N0]),(3,.cells [N0,N0])],4⟩)]) z6,?_,?_⟩
 ·have q := hz6
  clear hz6
  unfold f74_j2 at q
  obtain ⟨z9,hz9,q⟩ := bE q
  refine OQ ⟨[(0,⟨[(0,P0 0 0),(5,P0 2 0),(6,P0 3 0),(7,P0 4 0),(9,P0 5 0),(39,.dat .bool z9)],[(0,.cells [(.osl 1)]),(1,.arr 42 T0 q12_4.2.2.2.2.2.2.2),(2,.cells [(.d T1 g.1),(.d T1 g.2)]),(3,.cells [N0,N0]),(4,.cells [N0,N0]),(5,.cells [(.d T2 q12_4.1),(.d T2 q12_4.2.1),(.d T2 q12_4.2.2.1),(.d T2 q12_4.2.2.2.1),(.osl 6),(.osl 7)]),(6,.arr 3 T2 q12_4.2.2.2.2.2.1),(7,.arr 40 T2 q12_4.2.2.2.2.2.2.1)],8⟩)],?_,?_⟩
  ·have q := hz9
   clear hz9
   unfold f74_j3 at q
   refine cN q (fun q=>?_) (fun q=>?_)
   ·refine gY ?_
    obtain ⟨r10,hr10,q⟩ := bE q
    refine OL (AI f59_in (cV (cQ C59 (g.1,g.2) r10 [] false C59_holds hr10 rfl rfl (R2 (K0 (gY (cF (cN q (fun q=>?_) (fun q=>?_)))))))))
    ·refine gY (gY (gY (gY (gY ?_))))
     obtain ⟨r11,hr11,q⟩ := bE q
     refine OL (AI f110_in (cV (cQ C110 (g.1,q12_4.2.2.2.2.2.1) r11 [] true C110_holds hr11 rfl rfl (R2 (AI (fun _=>rfl) (R2 (AI TV (AI TV (gY (cF ?_))))))))))
     cases sE q
     refine E4 [(0,some 0),(1,some 1),(2,some 2),(3,some 3),(4,some 4),(5,some 9),(6,some 7),(7,some 8)] (R2 (AI (R5 TV) (R8 TV)))
    refine gN (gN (gN (gN (gN (gN (cT ?_))))))
    cases sE q
    refine E4 [(0,some 0),(1,some 1),(2,some 2),(3,some 3),(4,some 4),(5,some 9),(6,some 7),(7,some 8)] (R2 (AI (R5 TV) (R8 TV)))
   refine gN (gN (cT (gN (gN (gN (gN (gN (gN (gN (cT ?_))))))))))
   cases sE q
   refine E4 [(0,some 0),(1,some 1),(2,some 2),(3,some 3),(4,some 4),(5,some 9),(6,some 7),(7,some 8)] (R2 (AI (R5 TV) (R8 TV)))
  refine AI (cI q (fun q=>?_) (fun q=>?_)) TV
  ·refine OL (OL (OL ?_))
   cases sE q
   refine E4 [(0,some 0),(1,some 1),(2,some 3),(3,some 4)] (R2 (AI (R2 TV) (R4 TV)))
  cases sE q
  refine E4 I8 (AI rfl (AI (R5 TV) (R8 TV)))
 rcases z6 with z6a | z6b
 ·dsimp only [sumF] at q
  refine AI (OL ?_) TV
  obtain ⟨r12,hr12,q⟩ := bE q
  refine OL (AI f58_in (cV (cQ C58 (q12_4.2.2.2.2.2.2.2,q12_4.2.1) r12 I2 false C58_holds hr12 rfl rfl (AI rfl (AI NH (R2 (AJ (AI (R2 TV) (OL (OL ?_))))))))))
  obtain ⟨r13,hr13,q⟩ := bE q
  refine OL (AI f58_in (cV (cQ C58 (r12.2.2.2,q12_4.2.2.1) r13 I2 false C58_holds hr13 rfl rfl (AI rfl (AI NH (R2 (AJ (AI (R2 TV) (OL (OL ?_))))))))))
  obtain ⟨r14,hr14,q⟩ := bE q
  refine OL (AI f111_in (cV (cQ C111 ((q12_4.1,q12_4.2.1,q12_4.2.2.1,q12_4.2.2.2.1,q12_4.2.2.2.2.2.1,q12_4.2.2.2.2.2.2.1),(r12.2.1,r12.2.2.1),(r13.2.1,r13.2.2.1),(g.1,g.2)) r14 [] true C111_holds hr14 rfl rfl (R8 (AI (fun _=>rfl) (R2 (AI TV (AI TV (OL (OL (OL (cI q (fun q=>?_) (fun q=>?_)))))))))))))
  ·refine OL (OL (OL ?_))
   cases sE q
   refine AI rfl (E4 [(0,some 0),(1,some 1),(2,none),(3,none),(4,none),(5,none)] (R2 (AI (R2 TV) (R6 TV))))
  refine OL ?_
  obtain ⟨r15,hr15,q⟩ := bE q
  refine OL (AI f112_in (cV (cQ C112 ((q12_4.1,q12_4.2.1,q12_4.2.2.1,q12_4.2.2.2.1,q12_4.2.2.2.2.2.1,q12_4.2.2.2.2.2.2.1),(r12.2.1,r12.2.2.1),(r13.2.1,r13.2.2.1),(g.1,g.2)) r15 [] true C112_holds hr15 rfl rfl (R8 (AI (fun _=>rfl) (R2 (AI TV (AI TV (OL (OL (OL (cI q (fun q=>?_) (fun q=>?_)))))))))))))
  ·refine OL (OL (OL ?_))
   cases sE q
   refine AI rfl (E4 [(0,some 0),(1,some 1),(2,none),(3,none),(4,none),(5,none)] (R2 (AI (R2 TV) (R6 TV))))
  refine OL (EI (.take 0 (.take 1 (.alt 2 (.alt 3 (.take 4 .done) .done) .done))) (EI [] (EI [] (AI rfl (AI TV (OL (AI TV (OL ?_))))))))
  cases sE q
  refine AI rfl (E4 [(0,some 0),(1,some 1),(2,some 18),(3,some 19),(4,some 21),(5,some 22)] (R2 (AI (R2 TV) (R6 TV))))
 dsimp only [sumF] at q
 refine AI ?_ TV
 cases sE q
 refine AI rfl (E4 [(0,some 0),(1,some 1),(2,none),(3,none),(4,none),(5,none)] (R2 (AI (R2 TV) (R6 TV))))
theorem C74_holds : HP C74 74 := hH Tryz.f74 (by kernel_rfl) rfl (fun x y q=>C74_vc x.1 x.2.1 x.2.2 y q)
theorem f74_in : InP 74 := inP (by kernel_rfl)
def f75 (s_l : List (LI×LI)) (s_given : List Bool) (n:Int) (g : LI×LI) : Option (Int×(List (LI×LI))×(List Bool)) :=
 bif (decide (n < (0:Int))) then
 some ((0:Int),s_l,s_given)
 else
 guardF (0 ≤ n ∧ n < (List.length s_l:Int)) <|
 bindF (f113 ((rd (Ty.z T3) s_l n).1,(rd (Ty.z T3) s_l n).2) (g.1,g.2)) fun q4_13 =>
 guardF (0 ≤ n ∧ n < (List.length s_l:Int)) <|
 guardF (0 ≤ n ∧ n < (List.length s_given:Int)) <|
 some (q4_13.1,(List.set s_l (Int.toNat n) (q4_13.2.1,q4_13.2.2)),(List.set s_given (Int.toNat n) true))
def C75 : Con where
 X := (List (LI×LI))×(List Bool)×Int×(LI×LI)
 Y := Int×(List (LI×LI))×(List Bool)
 e := 3
 args x := [P0 0 0,.dat T2 x.2.2.1,.dat T3 x.2.2.2]
 hin x := [(0,.cells [(.osl 1),(.osl 2)]),(1,.arr 35 T3 x.1),(2,.arr 4 .bool x.2.1)]
 F x := f75 x.1 x.2.1 x.2.2.1 x.2.2.2
 ret y := [.dat T2 y.1]
 hout y := [(0,.cells [(.osl 1),(.osl 2)]),(1,.arr 35 T3 y.2.1),(2,.arr 4 .bool y.2.2)]
 nout := 3
theorem C75_vc (s_l : List (LI×LI)) (s_given : List Bool) (n:Int) (g : LI×LI) (y : Int×(List (LI×LI))×(List Bool)) (q : f75 s_l s_given n g = some y) : VE Tryz.f75 3 C75 (s_l,s_given,n,g) y := by
 unfold f75 at q
 refine OL (OL (OL (cI q (fun q=>?_) (fun q=>?_))))
 ·cases sE q
  refine OL (AI rfl (E4 I3 (R2 (AI TV (R3 TV)))))
 refine OL (OL (EI (.take 0 (.take 1 (.take 2 (.take 3 (.take 4 (.take 5 (.take 6 (.take 7 (.take 8 (.take 9 (.take 10 (.take 11 (.take 12 (.alt 13 (.take 14 (.take 15 (.take 16 (.take 17 (.alt 18 (.take 19 .done) .done))))) .done)))))))))))))) (EI [(18,[1])] (EI [] (AI rfl (gI q (fun q=>?_)))))))
 refine AI TV ?_
 obtain ⟨q4_13,hq4_13,q⟩ := bE q
 refine OL (AI f113_in (cV (cQ C113 (((rd (Ty.z T3) s_l n).1,(rd (Ty.z T3) s_l n).2),(g.1,g.2)) q4_13 [] false C113_holds hq4_13 rfl rfl (R4 (K0 (gI q (fun q=>?_)))))))
 refine AI TV (OL (OL (gI q (fun q=>?_))))
 refine OL (OL ?_)
 cases sE q
 refine AI rfl (E4 I3 (R2 (AI TV (R3 TV))))
theorem C75_holds : HP C75 75 := hH Tryz.f75 (by kernel_rfl) rfl (fun x y q=>C75_vc x.1 x.2.1 x.2.2.1 x.2.2.2 y q)
theorem f75_in : InP 75 := inP (by kernel_rfl)
def f26_l1 (root:Int) (go : (Int×NL×(List (LI×LI))×Int×LI×LI) → Option (NL×(List (LI×LI))×Int×LI×LI)) (v43:Int) (l1 : NL) (l3 : List (LI×LI)) (i3:Int) (l5 : LI) (l6 : LI) : Option (NL×(List (LI×LI))×Int×LI×LI) :=
 bif (decide (v43 < (i64.wrap (root + (1:Int))))) then
 bindF (f58 l1 v43) fun q12_10 =>
 bindF (f68 q12_10.2.1 (0:Int)) fun r6 =>
 guardF ((List.length (List.set l3 (Int.toNat i3) (l5,l6)) + 1) * 48 ≤ 140737488355328) <|
 go ((i64.wrap (v43 + (1:Int))),q12_10.2.2.2,((List.set l3 (Int.toNat i3) (l5,l6)) ++ [(Ty.z T3)]),(List.length (List.set l3 (Int.toNat i3) (l5,l6)):Int),r6.2.1,r6.2.2)
 else
 some (l1,l3,i3,l5,l6)
def f26_l2 (go : (Int×NL×(List (LI×LI))×(List Bool)) → Option (Sum (Int×NL) ((List (LI×LI))×(List Bool)×NL))) (n:Int) (l1 : NL) (l3 : List (LI×LI)) (l4 : List Bool) : Option (Sum (Int×NL) ((List (LI×LI))×(List Bool)×NL)) :=
 bif (decide (n ≥ (0:Int))) then
 guardF (0 ≤ n ∧ n < (List.length l4:Int)) <|
 bif (!(rd false l4 n)) then
 go ((i64.wrap (n - (1:Int))),l1,l3,l4)
 else
 bindF (f24 l1 n) fun r15 =>
 guardF (0 ≤ n ∧ n < (List.length l3:Int)) <|
 bindF (f74 r15.2.2.2.2.2.2.2 n ((rd (Ty.z T3) l3 n).1,(rd (Ty.z T3) l3 n).2)) fun r16 =>
 bif (r16.1 != (0:Int)) then
 some (Sum.inl (r16.1,r16.2.2.2.2.2))
 else
 bindF (f75 l3 l4 r15.2.1 (r16.2.1,r16.2.2.1)) fun r17 =>
 bif (r17.1 != (0:Int)) then
 some (Sum.inl (r17.1,r16.2.2.2.2.2))
 else
 bindF (f75 r17.2.1 r17.2.2 r15.2.2.1 (r16.2.2.2.1,r16.2.2.2.2.1)) fun r18 =>
 bif (r18.1 != (0:Int)) then
 some (Sum.inl (r18.1,r16.2.2.2.2.2))
 else
 go ((i64.wrap (n - (1:Int))),r16.2.2.2.2.2,r18.2.1,r18.2.2)
 else
 some (Sum.inr (l3,l4,l1))
def f26 (t_l : NL) (root:Int) : Option (Int×(List (LI×LI))×NL) :=
 bindF (f58 t_l root) fun r1 =>
 bif (!r1.1) then
 some ((1:Int),[],r1.2.2.2)
 else
 bif (decide ((List.length r1.2.2.1:Int) > (1:Int))) then
 some ((4:Int),[],r1.2.2.2)
 else
 guardF (0 ≤ (i64.wrap (root + (1:Int))) ∧ (i64.wrap (root + (1:Int))) ≤ (i64.wrap (root + (1:Int))) ∧ Int.toNat (i64.wrap (root + (1:Int))) * 1 ≤ 140737488355328) <|
 bindF (loopF (fun go x=>f26_l1 root go x.1 x.2.1 x.2.2.1 x.2.2.2.1 x.2.2.2.2.1 x.2.2.2.2.2) fuelN ((0:Int),r1.2.2.2,[],(0:Int),[],[])) fun z5 =>
 guardF (0 ≤ root ∧ root < (List.length z5.2.1:Int)) <|
 guardF (root = z5.2.2.1) <|
 guardF (0 ≤ (0:Int) ∧ (0:Int) < (List.length z5.2.2.2.2:Int)) <|
 guardF (0 ≤ root ∧ root < (List.length (List.replicate (Int.toNat (i64.wrap (root + (1:Int)))) false):Int)) <|
 bindF (loopF (fun go x=>f26_l2 go x.1 x.2.1 x.2.2.1 x.2.2.2) fuelN (root,z5.1,(List.set z5.2.1 (Int.toNat z5.2.2.1) (z5.2.2.2.1,(List.set z5.2.2.2.2 (Int.toNat (0:Int)) (4294967296:Int)))),(List.set (List.replicate (Int.toNat (i64.wrap (root + (1:Int)))) false) (Int.toNat root) true))) fun z14 =>
 sumF z14 (fun z14a =>
 some (z14a.1,[],z14a.2)) (fun z14b =>
 some ((0:Int),z14b.1,z14b.2.2))
def C26 : Con where
 X := NL×Int
 Y := Int×(List (LI×LI))×NL
 e := 2
 args x := [P0 0 0,.dat T2 x.2]
 hin x := [(0,.cells [(.osl 1)]),(1,.arr 42 T0 x.1)]
 F x := f26 x.1 x.2
 ret y := [O0 2,.dat T2 y.1]
 hout y := [(0,.cells [(.osl 1)]),(1,.arr 42 T0 y.2.2),(2,.arr 35 T3 y.2.1)]
 nout := 3
theorem C26_vc (t_l : NL) (root:Int) (y : Int×(List (LI×LI))×NL) (q : f26 t_l root = some y) : VE Tryz.f26 2 C26 (t_l,root) y := by
 unfold f26 at q
 refine OL (OL ?_)
 obtain ⟨r1,hr1,q⟩ := bE q
 refine OL (AI f58_in (cV (cQ C58 (t_l,root) r1 I2 false C58_holds hr1 rfl rfl (AI rfl (AI NH (R2 (AJ (AI (R2 TV) (OL (OL (OL (cI q (fun q=>?_) (fun q=>?_)))))))))))))
 ·cases sE q
  refine OL (AI rfl (E4 [(0,some 0),(1,some 1),(2,none)] (R2 (AJ (R3 TV)))))
 refine OL (cI q (fun q=>?_) (fun q=>?_))
 ·cases sE q
  refine OL (AI rfl (E4 [(0,some 0),(1,some 1),(2,none)] (R2 (AJ (R3 TV)))))
 refine OL (gI q (fun q=>?_))
 refine OL (OL ?_)
 obtain ⟨z5,hz5,q⟩ := bE q
 refine lI (Int×NL×(List (LI×LI))×Int×LI×LI) (NL×(List (LI×LI))×Int×LI×LI) (fun x=>⟨[(0,P0 0 0),(1,.dat T2 root),(8,P0 2 0),(42,.dat T2 (i64.wrap (root + (1:Int)))),(43,.dat T2 x.1)],[(0,.cells [(.osl 1)]),(1,.arr 42 T0 x.2.1),(2,.cells [(.osl 3),(.osl 4)]),(3,.hol 35 T3 x.2.2.1 x.2.2.2.1 [(.osl 5),(.osl 6)]),(4,.arr 4 .bool (List.replicate (Int.toNat (i64.wrap (root + (1:Int)))) false)),(5,.arr 3 T2 x.2.2.2.2.1),(6,.arr 40 T2 x.2.2.2.2.2)],7⟩) (fun z=>[(3,⟨[(0,P0 0 0),(1,.dat T2 root),(8,P0 2 0)],[(0,.cells [(.osl 1)]),(1,.arr 42 T0 z.1),(2,.cells [(.osl 3),(.osl 4)]),(3,.hol 35 T3 z.2.1 z.2.2.1 [(.osl 5),(.osl 6)]),(4,.arr 4 .bool (List.replicate (Int.toNat (i64.wrap (root + (1:Int)))) false)),(5,.arr 3 T2 z.2.2.2.1),(6,.arr 40 T2 z.2.2.2.2)],7⟩)]) (loopF (fun go x=>f26_l1 root go x.1 x.2.1 x.2.2.1 x.2.2.2.1 x.2.2.2.2.1 x.2.2.2.2.2)) fuelN ((0:Int),r1.2.2.2,[],(0:Int),[],[]) z5 (AI hz5 (AI (E4 [(0,some 0),(1,some 1),(2,some 8),(3,none),(4,some 7),(5,none),(6,none)] (R4 (AI (R2 TV) (R7 TV)))) (AI (fun _ _ h=>lZ h) (AI (fun m=>curI (fun v43=>curI (fun l1=>curI (fun l3=>curI (fun i3=>curI (fun l5=>fun l6 z q=>?_)))))) ?_))))
 ·have q : f26_l1 root (loopF (fun go x=>f26_l1 root go x.1 x.2.1 x.2.2.1 x.2.2.2.1 x.2.2.2.2.1 x.2.2.2.2.2) m) v43 l1 l3 i3 l5 l6 = some z := q
  unfold f26_l1 at q
  refine OL (OL (cI q (fun q=>?_) (fun q=>?_)))
  ·refine OL (OL (OL ?_))
   obtain ⟨q12_10,hq12_10,q⟩ := bE q
   refine OL (AI f58_in (cV (cQ C58 (l1,v43) q12_10 I2 false C58_holds hq12_10 rfl rfl (AI rfl (AI NH (R2 (AJ (AI (R2 TV) (OL (OL ?_))))))))))
   obtain ⟨r6,hr6,q⟩ := bE q
   refine OL (AI f68_in (cV (cQ C68 (q12_10.2.1,(0:Int)) r6 [] true C68_holds hr6 rfl rfl (R2 (AI (fun _=>rfl) (R2 (AI TV (AI TV (OL (EI (.take 0 (.take 1 (.take 2 (.take 3 (.take 4 (.take 5 (.alt 6 (.alt 7 (.take 8 (.take 9 (.alt 10 .done .done))) .done) .done))))))) (EI [(10,[2])] (EI [] (AI rfl (AI TV (OQ (AI TV (OQ (AI rfl (AI (AI rfl rfl) (gI q (fun q=>?_)))))))))))))))))))))
   refine AI TV (OL (EI ((i64.wrap (v43 + (1:Int))),q12_10.2.2.2,((List.set l3 (Int.toNat i3) (l5,l6)) ++ [(Ty.z T3)]),(List.length (List.set l3 (Int.toNat i3) (l5,l6)):Int),r6.2.1,r6.2.2) (AI q (E4 [(0,some 0),(1,some 1),(2,some 2),(3,some 16),(4,some 4),(5,some 12),(6,some 13)] (R4 (AI (R2 TV) (R7 TV)))))))
  cases sE q
  refine E4 I7 (R2 (AI (R2 TV) (R7 TV)))
 refine AI (OL (EI (.take 0 (.take 1 (.take 2 (.take 3 (.take 4 (.take 5 (.take 6 (.take 7 (.take 8 (.take 9 (.take 10 (.take 11 (.take 12 (.take 13 (.alt 14 (.take 15 (.alt 16 .done .done)) .done))))))))))))))) (EI [] (EI [] (AI rfl (gI q (fun q=>?_))))))) TV
 refine gI q (fun q=>?_)
 refine gI q (fun q=>?_)
 refine AI TV (OL (gI q (fun q=>?_)))
 refine AI TV (OL (OL (OL ?_)))
 obtain ⟨z14,hz14,q⟩ := bE q
 refine lI (Int×NL×(List (LI×LI))×(List Bool)) (Sum (Int×NL) ((List (LI×LI))×(List Bool)×NL)) (fun x=>⟨[(0,P0 0 0),(8,P0 2 0),(14,.dat T2 x.1)],[(0,.cells [(.osl 1)]),(1,.arr 42 T0 x.2.1),(2,.cells [(.osl 3),(.osl 4)]),(3,.arr 35 T3 x.2.2.1),(4,.arr 4 .bool x.2.2.2)],5⟩) (fun z=>Sum.elim (fun za=>[(1,⟨[(4,.raw false [N0]),(5,.dat T2 za.1)],[(0,.cells [(.osl 1)]),(1,.arr 42 T0 za.2)],2⟩)]) (fun zb=>[(5,⟨[(8,P0 2 0)],[(0,.cells [(.osl 1)]),(1,.arr 42 T0 zb.2.2),(2,.cells [(.osl 3),(.osl 4)]),(3,.arr 35 T3 zb.1),(4,.arr 4 .bool zb.2.1)],5⟩)]) z) (loopF (fun go x=>f26_l2 go x.1 x.2.1 x.2.2.1 x.2.2.2)) fuelN (root,z5.1,(List.set z5.2.1 (Int.toNat z5.2.2.1) (z5.2.2.2.1,(List.set z5.2.2.2.2 (Int.toNat (0:Int)) (4294967296:Int)))),(List.set (List.replicate (Int.toNat (i64.wrap (root + (1:Int)))) false) (Int.toNat root) true)) z14 (AI hz14 (AI (EI [3] (AI rfl (EI [] (EI [] (EI [] (EI I5 (R2 (AI (R2 TV) (R5 TV))))))))) (AI (fun _ _ h=>lZ h) (AI (fun m=>curI (fun n=>curI (fun l1=>curI (fun l3=>fun l4 z q=>?_)))) ?_))))
 ·have q : f26_l2 (loopF (fun go x=>f26_l2 go x.1 x.2.1 x.2.2.1 x.2.2.2) m) n l1 l3 l4 = some z := q
  unfold f26_l2 at q
  refine OL (OL (cI q (fun q=>?_) (fun q=>?_)))
  ·refine OL (OL (OL (gI q (fun q=>?_))))
   refine cI q (fun q=>?_) (fun q=>?_)
   ·refine EI ((i64.wrap (n - (1:Int))),l1,l3,l4) (AI q (E4 I5 (R2 (AI (R2 TV) (R5 TV)))))
   refine OL ?_
   obtain ⟨r15,hr15,q⟩ := bE q
   refine OL (AI f24_in (cV (cQ C24 (l1,n) r15 I2 false C24_holds hr15 rfl rfl (AI rfl (AI NH (R2 (AJ (AI (R2 TV) (OL (OL (gI q (fun q=>?_))))))))))))
   obtain ⟨r16,hr16,q⟩ := bE q
   refine OL (AI f74_in (cV (cQ C74 (r15.2.2.2.2.2.2.2,n,((rd (Ty.z T3) l3 n).1,(rd (Ty.z T3) l3 n).2)) r16 I2 false C74_holds hr16 rfl rfl (R3 (AI NH (R2 (AJ (AI (R2 TV) (OL (OL (OL (OL (cI q (fun q=>?_) (fun q=>?_))))))))))))))
   ·cases sE q
    refine OL (E4 I2 (R2 (AJ (R2 TV))))
   refine OL (OL ?_)
   obtain ⟨r17,hr17,q⟩ := bE q
   refine OL (AI f75_in (cV (cQ C75 (l3,l4,r15.2.1,(r16.2.1,r16.2.2.1)) r17 [(0,some 2),(1,some 3),(2,some 4)] false C75_holds hr17 rfl rfl (R3 (AI NH (R2 (AJ (AI (R3 TV) (OL (cI q (fun q=>?_) (fun q=>?_)))))))))))
   ·cases sE q
    refine OL (E4 I2 (R2 (AJ (R2 TV))))
   refine OL ?_
   obtain ⟨r18,hr18,q⟩ := bE q
   refine OL (AI f75_in (cV (cQ C75 (r17.2.1,r17.2.2,r15.2.2.1,(r16.2.2.2.1,r16.2.2.2.2.1)) r18 [(0,some 2),(1,some 3),(2,some 4)] false C75_holds hr18 rfl rfl (R3 (AI NH (R2 (AJ (AI (R3 TV) (OL (cI q (fun q=>?_) (fun q=>?_)))))))))))
   ·cases sE q
    refine OL (E4 I2 (R2 (AJ (R2 TV))))
   refine EI ((i64.wrap (n - (1:Int))),r16.2.2.2.2.2,r18.2.1,r18.2.2) (AI q (E4 I5 (R2 (AI (R2 TV) (R5 TV)))))
  cases sE q
  refine E4 I5 (AI rfl (AJ (R5 TV)))
 rcases z14 with z14a | z14b
 ·dsimp only [sumF] at q
  refine AI ?_ TV
  cases sE q
  refine AI rfl (E4 [(0,some 0),(1,some 1),(2,none)] (R2 (AJ (R3 TV))))
 dsimp only [sumF] at q
 refine AI (OL ?_) TV
 cases sE q
 refine AI rfl (E4 [(0,some 0),(1,some 1),(2,some 3)] (R2 (AJ (R3 TV))))
theorem C26_holds : HP C26 26 := hH Tryz.f26 (by kernel_rfl) rfl (fun x y q=>C26_vc x.1 x.2 y q)
theorem f26_in : InP 26 := inP (by kernel_rfl)
def f177_j3 (a : LI×LI) (d : LI) : Option Bool :=
 bindF (f62 (a.1,a.2)) fun r9 =>
 bif (!r9) then
 some true
 else
 bindF (f102 d) fun r10 =>
 some (!r10)
def f177_j2 (a : LI×LI) (d : LI) : Option (Sum Unit Unit) :=
 bindF (f177_j3 a d) fun z8 =>
 bif z8 then
 some (Sum.inr ())
 else
 some (Sum.inl ())
def f177_j6 (a : LI×LI) (r11 : Int×LI) : Option Bool :=
 bif (r11.1 != (0:Int)) then
 some true
 else
 bindF (f73 r11.2 a.1) fun r18 =>
 some (!r18)
def f177_j5 (a : LI×LI) (r11 : Int×LI) : Option (Sum Unit Unit) :=
 bindF (f177_j6 a r11) fun z17 =>
 bif z17 then
 some (Sum.inr ())
 else
 some (Sum.inl ())
def f177_l7 (a : LI×LI) (d : LI) (go : (Int×LI) → Option LI) (i:Int) (l4 : LI) : Option LI :=
 bif (decide (i < (List.length a.2:Int))) then
 bindF (f128 d a.1 i) fun r23 =>
 guardF (0 ≤ r23.1 ∧ r23.1 < (List.length l4:Int)) <|
 guardF (0 ≤ i ∧ i < (List.length a.2:Int)) <|
 bindF (f129 (rd (0:Int) l4 r23.1) (rd (0:Int) a.2 i)) fun q11_13 =>
 guardF (0 ≤ r23.1 ∧ r23.1 < (List.length l4:Int)) <|
 go ((i64.wrap (i + (1:Int))),(List.set l4 (Int.toNat r23.1) q11_13))
 else
 some l4
def f177 (a : LI×LI) (d : LI) : Option (Int×LI×LI) :=
 bindF (f177_j2 a d) fun z5 =>
 sumF z5 (fun z5a =>
 bindF (f127 d a.1) fun r11 =>
 bindF (f177_j5 a r11) fun z15 =>
 sumF z15 (fun z15a =>
 bindF (f71 d (0:Int)) fun r19 =>
 bindF (loopF (fun go x=>f177_l7 a d go x.1 x.2) fuelN ((0:Int),r19.2)) fun z22 =>
 some ((0:Int),r19.1,z22)) (fun z15b =>
 some ((4:Int),[],[]))) (fun z5b =>
 some ((1:Int),[],[]))
def C177 : Con where
 X := (LI×LI)×LI
 Y := Int×LI×LI
 e := 0
 args x := [.dat T3 x.1,.dat T1 x.2]
 hin x := []
 F x := f177 x.1 x.2
 ret y := [.raw true [(.osl 0),(.osl 1)],.dat T2 y.1]
 hout y := [(0,.arr 3 T2 y.2.1),(1,.arr 40 T2 y.2.2)]
 nout := 2
theorem C177_vc (a : LI×LI) (d : LI) (y : Int×LI×LI) (q : f177 a d = some y) : VC Tryz.f177 C177 (a,d) y := by
 unfold f177 at q
 refine OL ?_
 obtain ⟨z5,hz5,q⟩ := bE q
 refine OQ ⟨Sum.elim (fun z5a=>[(0,⟨[(1,.dat T1 d),(2,P0 0 0),(4,P0 1 0)],[(0,.cells [(.d T1 a.1),(.d T1 a.2)]),(1,.cells [N0,N0])],2⟩)]) (fun z5b=>[(1,⟨[(4,P0 0 0),(5,D0 1)],[(0,.cells [N0,N0])],1⟩)]) z5,?_,?_⟩
 ·have q := hz5
  clear hz5
  unfold f177_j2 at q
  obtain ⟨z8,hz8,q⟩ := bE q
  refine OQ ⟨[(0,⟨[(1,.dat T1 d),(2,P0 0 0),(4,P0 1 0),(19,.dat .bool z8)],[(0,.cells [(.d T1 a.1),(.d T1 a.2)]),(1,.cells [N0,N0])],2⟩)],?_,?_⟩
  ·have q := hz8
   clear hz8
   unfold f177_j3 at q
   obtain ⟨r9,hr9,q⟩ := bE q
   refine OL (AI f62_in (cV (cQ C62 (a.1,a.2) r9 [] false C62_holds hr9 rfl rfl (R2 (K0 (cN q (fun q=>?_) (fun q=>?_)))))))
   ·refine gY ?_
    obtain ⟨r10,hr10,q⟩ := bE q
    refine OL (AI f102_in (cV (cQ C102 d r10 [] false C102_holds hr10 rfl rfl (AI rfl (K0 (gY (cF ?_)))))))
    cases sE q
    refine E4 I2 (R3 (AI (R2 TV) (R2 TV)))
   refine gN (gN (cT ?_))
   cases sE q
   refine E4 I2 (R3 (AI (R2 TV) (R2 TV)))
  refine AI (cI q (fun q=>?_) (fun q=>?_)) TV
  ·refine OL (OL ?_)
   cases sE q
   refine E4 [(0,some 1)] (R2 (AJ (AI rfl TV)))
  cases sE q
  refine E4 I2 (R2 (AI (R2 TV) (R2 TV)))
 rcases z5 with z5a | z5b
 ·dsimp only [sumF] at q
  refine AI (OL ?_) TV
  obtain ⟨r11,hr11,q⟩ := bE q
  refine OL (AI f127_in (cV (cQ C127 (d,a.1) r11 [] false C127_holds hr11 rfl rfl (R2 (K0 ?_)))))
  obtain ⟨z15,hz15,q⟩ := bE q
  refine OQ ⟨Sum.elim (fun z15a=>[(0,⟨[(1,.dat T1 d),(2,P0 0 0),(4,P0 1 0)],[(0,.cells [(.d T1 a.1),(.d T1 a.2)]),(1,.cells [N0,N0])],2⟩)]) (fun z15b=>[(1,⟨[(4,P0 0 0),(5,D0 4)],[(0,.cells [N0,N0])],1⟩)]) z15,?_,?_⟩
  ·have q := hz15
   clear hz15
   unfold f177_j5 at q
   obtain ⟨z17,hz17,q⟩ := bE q
   refine OQ ⟨[(0,⟨[(1,.dat T1 d),(2,P0 0 0),(4,P0 1 0),(36,.dat .bool z17)],[(0,.cells [(.d T1 a.1),(.d T1 a.2)]),(1,.cells [N0,N0])],2⟩)],?_,?_⟩
   ·have q := hz17
    clear hz17
    unfold f177_j6 at q
    refine cN q (fun q=>?_) (fun q=>?_)
    ·refine gY (gY (gY ?_))
     obtain ⟨r18,hr18,q⟩ := bE q
     refine OL (AI f73_in (cV (cQ C73 (r11.2,a.1) r18 [] true C73_holds hr18 rfl rfl (R2 (AI (fun _=>rfl) (R2 (AI TV (AI TV (gY (cF ?_))))))))))
     cases sE q
     refine E4 I2 (R3 (AI (R2 TV) (R2 TV)))
    refine gN (gN (gN (gN (cT ?_))))
    cases sE q
    refine E4 I2 (R3 (AI (R2 TV) (R2 TV)))
   refine AI (cI q (fun q=>?_) (fun q=>?_)) TV
   ·refine OL (OL ?_)
    cases sE q
    refine E4 [(0,some 1)] (R2 (AJ (AI rfl TV)))
   cases sE q
   refine E4 I2 (R2 (AI (R2 TV) (R2 TV)))
  rcases z15 with z15a | z15b
  ·dsimp only [sumF] at q
   refine AI (OL ?_) TV
   obtain ⟨r19,hr19,q⟩ := bE q
   refine OL (AI f71_in (cV (cQ C71 (d,(0:Int)) r19 [] false C71_holds hr19 rfl rfl (R2 (K0 (OL (OL (OL ?_))))))))
   obtain ⟨z22,hz22,q⟩ := bE q
   refine lI (Int×LI) LI (fun x=>⟨[(1,.dat T1 d),(2,P0 0 0),(4,P0 1 0),(8,P0 2 0),(9,.dat T2 x.1)],[(0,.cells [(.d T1 a.1),(.d T1 a.2)]),(1,.cells [N0,N0]),(2,.cells [(.osl 3),(.osl 4)]),(3,.arr 3 T2 r19.1),(4,.arr 40 T2 x.2)],5⟩) (fun z=>[(2,⟨[(4,P0 0 0),(8,P0 1 0)],[(0,.cells [N0,N0]),(1,.cells [(.osl 2),(.osl 3)]),(2,.arr 3 T2 r19.1),(3,.arr 40 T2 z)],4⟩)]) (loopF (fun go x=>f177_l7 a d go x.1 x.2)) fuelN ((0:Int),r19.2) z22 (AI hz22 (AI (E4 [(0,some 0),(1,some 1),(2,some 4),(3,some 2),(4,some 3)] (R3 (AI (R3 TV) (R5 TV)))) (AI (fun _ _ h=>lZ h) (AI (fun m=>curI (fun i=>fun l4 z q=>?_)) ?_))))
   ·have q : f177_l7 a d (loopF (fun go x=>f177_l7 a d go x.1 x.2) m) i l4 = some z := q
    unfold f177_l7 at q
    refine OL (OL (cI q (fun q=>?_) (fun q=>?_)))
    ·refine OL (OL ?_)
     obtain ⟨r23,hr23,q⟩ := bE q
     refine OL (AI f128_in (cV (cQ C128 (d,a.1,i) r23 [] false C128_holds hr23 rfl rfl (R3 (K0 (EI (.take 0 (.take 1 (.take 2 (.take 3 (.take 4 (.take 5 (.take 6 (.take 7 (.take 8 (.take 9 (.take 10 (.take 11 (.take 12 (.alt 13 (.take 14 (.alt 15 .done .done)) .done)))))))))))))) (EI [(15,[4])] (EI [] (AI rfl (gI q (fun q=>?_)))))))))))
     refine gI q (fun q=>?_)
     refine AI TV ?_
     obtain ⟨q11_13,hq11_13,q⟩ := bE q
     refine OL (AI f129_in (cV (cQ C129 ((rd (0:Int) l4 r23.1),(rd (0:Int) a.2 i)) q11_13 [] false C129_holds hq11_13 rfl rfl (R2 (K0 (gI q (fun q=>?_)))))))
     refine AI TV (OL (EI ((i64.wrap (i + (1:Int))),(List.set l4 (Int.toNat r23.1) q11_13)) (AI q (E4 I5 (R3 (AI (R3 TV) (R5 TV)))))))
    cases sE q
    refine E4 [(0,some 1),(1,some 2),(2,some 3),(3,some 4)] (AI rfl (AI (R2 TV) (R4 TV)))
   refine AI (OL (OL ?_)) TV
   cases sE q
   refine AI rfl (E4 [(0,some 2),(1,some 3)] (R2 (AJ (R2 TV))))
  dsimp only [sumF] at q
  refine AI ?_ TV
  cases sE q
  refine AI rfl (E4 [(0,none),(1,none)] (R2 (AJ (R2 TV))))
 dsimp only [sumF] at q
 refine AI ?_ TV
 cases sE q
 refine AI rfl (E4 [(0,none),(1,none)] (R2 (AJ (R2 TV))))
theorem C177_holds : HP C177 177 := hH Tryz.f177 (by kernel_rfl) rfl (fun x y q=>C177_vc x.1 x.2 y q)
theorem f177_in : InP 177 := inP (by kernel_rfl)
def f114 (g : LI×LI) (d : LI) : Option (LI×LI) :=
 bindF (f177 (g.1,g.2) d) fun r1 =>
 some (r1.2.1,r1.2.2)
def C114 : Con where
 X := (LI×LI)×LI
 Y := LI×LI
 e := 0
 args x := [.dat T3 x.1,.dat T1 x.2]
 hin x := []
 F x := f114 x.1 x.2
 ret y := [.raw true [(.osl 0),(.osl 1)]]
 hout y := [(0,.arr 3 T2 y.1),(1,.arr 40 T2 y.2)]
 nout := 2
theorem C114_vc (g : LI×LI) (d : LI) (y : LI×LI) (q : f114 g d = some y) : VC Tryz.f114 C114 (g,d) y := by
 unfold f114 at q
 refine OL (OL ?_)
 obtain ⟨r1,hr1,q⟩ := bE q
 refine OL (AI f177_in (cV (cQ C177 ((g.1,g.2),d) r1 [] false C177_holds hr1 rfl rfl (R3 (K0 (OL (OL (OL ?_))))))))
 cases sE q
 refine AI rfl (E4 [(0,some 2),(1,some 3)] (AI rfl (AJ (R2 TV))))
theorem C114_holds : HP C114 114 := hH Tryz.f114 (by kernel_rfl) rfl (fun x y q=>C114_vc x.1 x.2 y q)
theorem f114_in : InP 114 := inP (by kernel_rfl)
def f183 (kind:Int) (x_:Int) : Option Int :=
 bif (kind == (1:Int)) then
 bif (decide (x_ > (0:Int))) then
 some (4294967296:Int)
 else
 some (0:Int)
 else
 bif (kind == (2:Int)) then
 bif (decide (x_ > (0:Int))) then
 some (4294967296:Int)
 else
 some (536870912:Int)
 else
 bif (kind == (3:Int)) then
 bif (decide (x_ > (-4294967296:Int))) then
 bif (decide (x_ < (4294967296:Int))) then
 some (4294967296:Int)
 else
 some (0:Int)
 else
 some (0:Int)
 else
 bif (kind == (4:Int)) then
 bif (decide (x_ > (0:Int))) then
 some (4294967296:Int)
 else
 bif (decide (x_ < (0:Int))) then
 some (-4294967296:Int)
 else
 some (0:Int)
 else
 bif (decide (x_ > (-4294967296:Int))) then
 bif (decide (x_ < (4294967296:Int))) then
 some (2147483648:Int)
 else
 some (0:Int)
 else
 some (0:Int)
def C183 : Con where
 X := Int×Int
 Y := Int
 e := 0
 args x := [.dat T2 x.1,.dat T2 x.2]
 hin x := []
 F x := f183 x.1 x.2
 ret y := [.dat T2 y]
 hout y := []
 nout := 0
theorem C183_vc (kind:Int) (x_:Int) (y:Int) (q : f183 kind x_ = some y) : VC Tryz.f183 C183 (kind,x_) y := by
 unfold f183 at q
 refine OL (OL (OL (OL (cI q (fun q=>?_) (fun q=>?_)))))
 ·refine OL (OL (cI q (fun q=>?_) (fun q=>?_)))
  ·cases sE q
   refine OL (AI rfl (E4 [] (R2 (AI TV TV))))
  cases sE q
  refine OL (AI rfl (E4 [] (R2 (AI TV TV))))
 refine OL (cI q (fun q=>?_) (fun q=>?_))
 ·refine OL (OL (cI q (fun q=>?_) (fun q=>?_)))
  ·cases sE q
   refine OL (AI rfl (E4 [] (R2 (AI TV TV))))
  cases sE q
  refine OL (AI rfl (E4 [] (R2 (AI TV TV))))
 refine OL (cI q (fun q=>?_) (fun q=>?_))
 ·refine OL (OL (cI q (fun q=>?_) (fun q=>?_)))
  ·refine gX (cT (cI q (fun q=>?_) (fun q=>?_)))
   ·cases sE q
    refine OL (AI rfl (E4 [] (R2 (AI TV TV))))
   cases sE q
   refine OL (AI rfl (E4 [] (R2 (AI TV TV))))
  refine gM (cF (cF (OL ?_)))
  cases sE q
  refine AI rfl (E4 [] (R2 (AI TV TV)))
 refine OL (cI q (fun q=>?_) (fun q=>?_))
 ·refine OL (OL (cI q (fun q=>?_) (fun q=>?_)))
  ·cases sE q
   refine OL (AI rfl (E4 [] (R2 (AI TV TV))))
  refine OL (cI q (fun q=>?_) (fun q=>?_))
  ·cases sE q
   refine OL (AI rfl (E4 [] (R2 (AI TV TV))))
  cases sE q
  refine OL (AI rfl (E4 [] (R2 (AI TV TV))))
 refine OL (OL (cI q (fun q=>?_) (fun q=>?_)))
 ·refine gX (cT (cI q (fun q=>?_) (fun q=>?_)))
  ·cases sE q
   refine OL (AI rfl (E4 [] (R2 (AI TV TV))))
  cases sE q
  refine OL (AI rfl (E4 [] (R2 (AI TV TV))))
 refine gM (cF (cF (OL ?_)))
 cases sE q
 refine AI rfl (E4 [] (R2 (AI TV TV)))
theorem C183_holds : HP C183 183 := hH Tryz.f183 (by kernel_rfl) rfl (fun x y q=>C183_vc x.1 x.2 y q)
theorem f183_in : InP 183 := inP (by kernel_rfl)
def f122_j3 (kind:Int) (t : LI×LI) (g : LI×LI) : Option Bool :=
 bif (decide (kind < (1:Int))) then
 some true
 else
 bif (decide (kind > (5:Int))) then
 some true
 else
 bindF (f62 (t.1,t.2)) fun r9 =>
 bif (!r9) then
 some true
 else
 bindF (f62 (g.1,g.2)) fun r10 =>
 some (!r10)
def f122_j2 (kind:Int) (t : LI×LI) (g : LI×LI) : Option (Sum Unit Unit) :=
 bindF (f122_j3 kind t g) fun z8 =>
 bif z8 then
 some (Sum.inr ())
 else
 some (Sum.inl ())
def f122_l4 (kind:Int) (t : LI×LI) (g : LI×LI) (go : (Int×LI) → Option LI) (i:Int) (l5 : LI) : Option LI :=
 bif (decide (i < (List.length l5:Int))) then
 guardF (0 ≤ i ∧ i < (List.length g.2:Int)) <|
 guardF (0 ≤ i ∧ i < (List.length t.2:Int)) <|
 bindF (f183 kind (rd (0:Int) t.2 i)) fun q9_14 =>
 bindF (f131 (rd (0:Int) g.2 i) q9_14) fun q9_15 =>
 guardF (0 ≤ i ∧ i < (List.length l5:Int)) <|
 go ((i64.wrap (i + (1:Int))),(List.set l5 (Int.toNat i) q9_15))
 else
 some l5
def f122 (kind:Int) (t : LI×LI) (g : LI×LI) : Option (Int×LI×LI) :=
 bindF (f122_j2 kind t g) fun z5 =>
 sumF z5 (fun z5a =>
 bindF (f73 t.1 g.1) fun r11 =>
 bif (!r11) then
 some ((4:Int),[],[])
 else
 bindF (f71 t.1 (0:Int)) fun r12 =>
 bindF (loopF (fun go x=>f122_l4 kind t g go x.1 x.2) fuelN ((0:Int),r12.2)) fun z13 =>
 some ((0:Int),r12.1,z13)) (fun z5b =>
 some ((1:Int),[],[]))
def C122 : Con where
 X := Int×(LI×LI)×(LI×LI)
 Y := Int×LI×LI
 e := 0
 args x := [.dat T2 x.1,.dat T3 x.2.1,.dat T3 x.2.2]
 hin x := []
 F x := f122 x.1 x.2.1 x.2.2
 ret y := [.raw true [(.osl 0),(.osl 1)],.dat T2 y.1]
 hout y := [(0,.arr 3 T2 y.2.1),(1,.arr 40 T2 y.2.2)]
 nout := 2
theorem C122_vc (kind:Int) (t : LI×LI) (g : LI×LI) (y : Int×LI×LI) (q : f122 kind t g = some y) : VC Tryz.f122 C122 (kind,t,g) y := by
 unfold f122 at q
 refine OL ?_
 obtain ⟨z5,hz5,q⟩ := bE q
 refine OQ ⟨Sum.elim (fun z5a=>[(0,⟨[(0,.dat T2 kind),(4,P0 0 0),(5,P0 1 0),(6,P0 2 0)],[(0,.cells [(.d T1 t.1),(.d T1 t.2)]),(1,.cells [(.d T1 g.1),(.d T1 g.2)]),(2,.cells [N0,N0])],3⟩)]) (fun z5b=>[(1,⟨[(6,P0 0 0),(7,D0 1)],[(0,.cells [N0,N0])],1⟩)]) z5,?_,?_⟩
 ·have q := hz5
  clear hz5
  unfold f122_j2 at q
  obtain ⟨z8,hz8,q⟩ := bE q
  refine OQ ⟨[(0,⟨[(0,.dat T2 kind),(4,P0 0 0),(5,P0 1 0),(6,P0 2 0),(25,.dat .bool z8)],[(0,.cells [(.d T1 t.1),(.d T1 t.2)]),(1,.cells [(.d T1 g.1),(.d T1 g.2)]),(2,.cells [N0,N0])],3⟩)],?_,?_⟩
  ·have q := hz8
   clear hz8
   unfold f122_j3 at q
   refine cN q (fun q=>?_) (fun q=>?_)
   ·refine gY (cF (cN q (fun q=>?_) (fun q=>?_)))
    ·refine gY ?_
     obtain ⟨r9,hr9,q⟩ := bE q
     refine OL (AI f62_in (cV (cQ C62 (t.1,t.2) r9 [] false C62_holds hr9 rfl rfl (R2 (K0 (gY (cF (cN q (fun q=>?_) (fun q=>?_)))))))))
     ·refine gY ?_
      obtain ⟨r10,hr10,q⟩ := bE q
      refine OL (AI f62_in (cV (cQ C62 (g.1,g.2) r10 [] false C62_holds hr10 rfl rfl (R2 (K0 (gY (cF ?_)))))))
      cases sE q
      refine E4 I3 (R3 (AI (R3 TV) (R3 TV)))
     refine gN (gN (cT ?_))
     cases sE q
     refine E4 I3 (R3 (AI (R3 TV) (R3 TV)))
    refine gN (gN (cT (gN (gN (gN (cT ?_))))))
    cases sE q
    refine E4 I3 (R3 (AI (R3 TV) (R3 TV)))
   refine gN (cT (gN (gN (gN (cT (gN (gN (gN (cT ?_)))))))))
   cases sE q
   refine E4 I3 (R3 (AI (R3 TV) (R3 TV)))
  refine AI (cI q (fun q=>?_) (fun q=>?_)) TV
  ·refine OL (OL ?_)
   cases sE q
   refine E4 [(0,some 2)] (R2 (AJ (AI rfl TV)))
  cases sE q
  refine E4 I3 (R2 (AI (R3 TV) (R3 TV)))
 rcases z5 with z5a | z5b
 ·dsimp only [sumF] at q
  refine AI (OL (OL ?_)) TV
  obtain ⟨r11,hr11,q⟩ := bE q
  refine OL (AI f73_in (cV (cQ C73 (t.1,g.1) r11 [] false C73_holds hr11 rfl rfl (R2 (K0 (cI q (fun q=>?_) (fun q=>?_)))))))
  ·refine OL (OL ?_)
   cases sE q
   refine AI rfl (E4 [(0,none),(1,none)] (R2 (AJ (R2 TV))))
  refine OL ?_
  obtain ⟨r12,hr12,q⟩ := bE q
  refine OL (AI f71_in (cV (cQ C71 (t.1,(0:Int)) r12 [] false C71_holds hr12 rfl rfl (R2 (K0 (OL (OL (OL ?_))))))))
  obtain ⟨z13,hz13,q⟩ := bE q
  refine lI (Int×LI) LI (fun x=>⟨[(0,.dat T2 kind),(4,P0 0 0),(5,P0 1 0),(6,P0 2 0),(8,P0 3 0),(9,.dat T2 x.1)],[(0,.cells [(.d T1 t.1),(.d T1 t.2)]),(1,.cells [(.d T1 g.1),(.d T1 g.2)]),(2,.cells [N0,N0]),(3,.cells [(.osl 4),(.osl 5)]),(4,.arr 3 T2 r12.1),(5,.arr 40 T2 x.2)],6⟩) (fun z=>[(2,⟨[(6,P0 0 0),(8,P0 1 0)],[(0,.cells [N0,N0]),(1,.cells [(.osl 2),(.osl 3)]),(2,.arr 3 T2 r12.1),(3,.arr 40 T2 z)],4⟩)]) (loopF (fun go x=>f122_l4 kind t g go x.1 x.2)) fuelN ((0:Int),r12.2) z13 (AI hz13 (AI (E4 [(0,some 0),(1,some 1),(2,some 2),(3,some 5),(4,some 3),(5,some 4)] (R3 (AI (R4 TV) (R6 TV)))) (AI (fun _ _ h=>lZ h) (AI (fun m=>curI (fun i=>fun l5 z q=>?_)) ?_))))
  ·have q : f122_l4 kind t g (loopF (fun go x=>f122_l4 kind t g go x.1 x.2) m) i l5 = some z := q
   unfold f122_l4 at q
   refine OL (OL (cI q (fun q=>?_) (fun q=>?_)))
   ·refine OL (EI (.take 0 (.take 1 (.take 2 (.take 3 (.take 4 (.take 5 (.take 6 (.take 7 (.take 8 (.take 9 (.take 10 (.take 11 (.take 12 (.take 13 (.alt 14 (.alt 15 (.take 16 (.alt 17 .done .done)) .done) .done))))))))))))))) (EI [] (EI [] (AI rfl (gI q (fun q=>?_))))))
    refine gI q (fun q=>?_)
    refine AI TV ?_
    obtain ⟨q9_14,hq9_14,q⟩ := bE q
    refine OL (AI f183_in (cV (cQ C183 (kind,(rd (0:Int) t.2 i)) q9_14 [] false C183_holds hq9_14 rfl rfl (R2 (K0 (AI TV ?_))))))
    obtain ⟨q9_15,hq9_15,q⟩ := bE q
    refine OL (AI f131_in (cV (cQ C131 ((rd (0:Int) g.2 i),q9_14) q9_15 [] false C131_holds hq9_15 rfl rfl (R2 (K0 (gI q (fun q=>?_)))))))
    refine AI TV (OL (EI ((i64.wrap (i + (1:Int))),(List.set l5 (Int.toNat i) q9_15)) (AI q (E4 I6 (R3 (AI (R4 TV) (R6 TV)))))))
   cases sE q
   refine E4 [(0,some 2),(1,some 3),(2,some 4),(3,some 5)] (AI rfl (AI (R2 TV) (R4 TV)))
  refine AI (OL (OL ?_)) TV
  cases sE q
  refine AI rfl (E4 [(0,some 2),(1,some 3)] (R2 (AJ (R2 TV))))
 dsimp only [sumF] at q
 refine AI ?_ TV
 cases sE q
 refine AI rfl (E4 [(0,none),(1,none)] (R2 (AJ (R2 TV))))
theorem C122_holds : HP C122 122 := hH Tryz.f122 (by kernel_rfl) rfl (fun x y q=>C122_vc x.1 x.2.1 x.2.2 y q)
theorem f122_in : InP 122 := inP (by kernel_rfl)
def f123_j3 (g : LI×LI) (k : LI×LI) (step:Int) (long:Int) : Option Bool :=
 bindF (f62 (g.1,g.2)) fun r9 =>
 bif (!r9) then
 some true
 else
 bindF (f62 (k.1,k.2)) fun r10 =>
 bif (!r10) then
 some true
 else
 bif (decide (step < (1:Int))) then
 some true
 else
 bif (decide (step > (64:Int))) then
 some true
 else
 bif (decide (long < (1:Int))) then
 some true
 else
 some (decide (long > (4096:Int)))
def f123_j2 (g : LI×LI) (k : LI×LI) (step:Int) (long:Int) : Option (Sum Unit Unit) :=
 bindF (f123_j3 g k step long) fun z8 =>
 bif z8 then
 some (Sum.inr ())
 else
 some (Sum.inl ())
def f123_j6 (g : LI×LI) (k : LI×LI) (step:Int) (long:Int) : Option Bool :=
 bif ((List.length g.1:Int) != (2:Int)) then
 some true
 else
 bif ((List.length k.1:Int) != (3:Int)) then
 some true
 else
 guardF (0 ≤ (0:Int) ∧ (0:Int) < (List.length g.1:Int)) <|
 guardF (0 ≤ (0:Int) ∧ (0:Int) < (List.length k.1:Int)) <|
 bif ((rd (0:Int) g.1 (0:Int)) != (rd (0:Int) k.1 (0:Int))) then
 some true
 else
 guardF (0 ≤ (2:Int) ∧ (2:Int) < (List.length k.1:Int)) <|
 bif (decide ((rd (0:Int) k.1 (2:Int)) > long)) then
 some true
 else
 guardF (0 ≤ (1:Int) ∧ (1:Int) < (List.length g.1:Int)) <|
 guardF (0 ≤ (2:Int) ∧ (2:Int) < (List.length k.1:Int)) <|
 guardF (step ≠ 0) <|
 some ((rd (0:Int) g.1 (1:Int)) != (i64.wrap ((i64.wrap (Int.tdiv (i64.wrap (long - (rd (0:Int) k.1 (2:Int)))) step)) + (1:Int))))
def f123_j5 (g : LI×LI) (k : LI×LI) (step:Int) (long:Int) : Option (Sum Unit Unit) :=
 bindF (f123_j6 g k step long) fun z13 =>
 bif z13 then
 some (Sum.inr ())
 else
 some (Sum.inl ())
def f123_j72 (k : LI×LI) (step:Int) (l:Int) (j:Int) : Option (Sum Unit Unit) :=
 bif (decide ((i64.wrap (l - (i64.wrap (j * step)))) < (0:Int))) then
 some (Sum.inr ())
 else
 bif (decide ((i64.wrap (l - (i64.wrap (j * step)))) ≥ (rd (0:Int) k.1 (2:Int)))) then
 some (Sum.inr ())
 else
 some (Sum.inl ())
def f123_l73 (g : LI×LI) (k : LI×LI) (step:Int) (x_:Int) (l:Int) (j:Int) (go : (Int×Bool×Int×Int×Int×Int) → Option (Bool×Int×Int×Int×Int)) (i:Int) (c4_0_2 : Bool) (c4_1_2:Int) (c4_2_2:Int) (c4_3_2:Int) (c4_4_2:Int) : Option (Bool×Int×Int×Int×Int) :=
 bif (decide (i < (rd (0:Int) g.1 (0:Int)))) then
 guardF (0 ≤ (i64.wrap ((i64.wrap (i * (rd (0:Int) g.1 (1:Int)))) + j)) ∧ (i64.wrap ((i64.wrap (i * (rd (0:Int) g.1 (1:Int)))) + j)) < (List.length g.2:Int)) <|
 guardF (0 ≤ (i64.wrap ((i64.wrap ((i64.wrap ((i64.wrap (i * (rd (0:Int) k.1 (1:Int)))) + x_)) * (rd (0:Int) k.1 (2:Int)))) + (i64.wrap (l - (i64.wrap (j * step)))))) ∧ (i64.wrap ((i64.wrap ((i64.wrap ((i64.wrap (i * (rd (0:Int) k.1 (1:Int)))) + x_)) * (rd (0:Int) k.1 (2:Int)))) + (i64.wrap (l - (i64.wrap (j * step)))))) < (List.length k.2:Int)) <|
 bindF (f179 (rd (0:Int) g.2 (i64.wrap ((i64.wrap (i * (rd (0:Int) g.1 (1:Int)))) + j))) (rd (0:Int) k.2 (i64.wrap ((i64.wrap ((i64.wrap ((i64.wrap (i * (rd (0:Int) k.1 (1:Int)))) + x_)) * (rd (0:Int) k.1 (2:Int)))) + (i64.wrap (l - (i64.wrap (j * step)))))))) fun q24_23 =>
 bindF (f139 c4_0_2 c4_1_2 c4_2_2 c4_3_2 c4_4_2 q24_23.1 q24_23.2.1 q24_23.2.2.1 q24_23.2.2.2.1 q24_23.2.2.2.2) fun q24_24 =>
 go ((i64.wrap (i + (1:Int))),q24_24.1,q24_24.2.1,q24_24.2.2.1,q24_24.2.2.2.1,q24_24.2.2.2.2)
 else
 some (c4_0_2,c4_1_2,c4_2_2,c4_3_2,c4_4_2)
def f123_l71 (g : LI×LI) (k : LI×LI) (step:Int) (x_:Int) (l:Int) (go : (Int×Bool×Int×Int×Int×Int) → Option (Bool×Int×Int×Int×Int)) (j:Int) (c4_0 : Bool) (c4_1:Int) (c4_2:Int) (c4_3:Int) (c4_4:Int) : Option (Bool×Int×Int×Int×Int) :=
 bif (decide (j < (rd (0:Int) g.1 (1:Int)))) then
 bindF (f123_j72 k step l j) fun z80 =>
 sumF z80 (fun z80a =>
 bindF (loopF (fun go x=>f123_l73 g k step x_ l j go x.1 x.2.1 x.2.2.1 x.2.2.2.1 x.2.2.2.2.1 x.2.2.2.2.2) fuelN ((0:Int),c4_0,c4_1,c4_2,c4_3,c4_4)) fun z81 =>
 go ((i64.wrap (j + (1:Int))),z81.1,z81.2.1,z81.2.2.1,z81.2.2.2.1,z81.2.2.2.2)) (fun z80b =>
 go ((i64.wrap (j + (1:Int))),c4_0,c4_1,c4_2,c4_3,c4_4))
 else
 some (c4_0,c4_1,c4_2,c4_3,c4_4)
def f123_l66 (g : LI×LI) (k : LI×LI) (step:Int) (long:Int) (x_:Int) (go : (Int×LI) → Option LI) (l:Int) (l5_2 : LI) : Option LI :=
 bif (decide (l < long)) then
 bindF (loopF (fun go x=>f123_l71 g k step x_ l go x.1 x.2.1 x.2.2.1 x.2.2.2.1 x.2.2.2.2.1 x.2.2.2.2.2) fuelN ((0:Int),false,(0:Int),(0:Int),(0:Int),(0:Int))) fun z79 =>
 bindF (f180 z79.1 z79.2.1 z79.2.2.1 z79.2.2.2.1 z79.2.2.2.2 (32:Int)) fun q25_8 =>
 bindF (f120 q25_8.1 q25_8.2.1 q25_8.2.2.1 q25_8.2.2.2.1 q25_8.2.2.2.2) fun q25_9 =>
 guardF (0 ≤ (i64.wrap ((i64.wrap (x_ * long)) + l)) ∧ (i64.wrap ((i64.wrap (x_ * long)) + l)) < (List.length l5_2:Int)) <|
 go ((i64.wrap (l + (1:Int))),(List.set l5_2 (Int.toNat (i64.wrap ((i64.wrap (x_ * long)) + l))) q25_9))
 else
 some l5_2
def f123_l51 (g : LI×LI) (k : LI×LI) (step:Int) (long:Int) (go : (Int×LI) → Option LI) (x_:Int) (l5 : LI) : Option LI :=
 bif (decide (x_ < (rd (0:Int) k.1 (1:Int)))) then
 bindF (loopF (fun go x=>f123_l66 g k step long x_ go x.1 x.2) fuelN ((0:Int),l5)) fun z74 =>
 go ((i64.wrap (x_ + (1:Int))),z74)
 else
 some l5
def f123 (g : LI×LI) (k : LI×LI) (step:Int) (long:Int) : Option (Int×LI×LI) :=
 bindF (f123_j2 g k step long) fun z5 =>
 sumF z5 (fun z5a =>
 bindF (f123_j5 g k step long) fun z12 =>
 sumF z12 (fun z12a =>
 guardF (0 ≤ (0:Int) ∧ (0:Int) < (List.length g.1:Int)) <|
 guardF (0 ≤ (1:Int) ∧ (1:Int) < (List.length g.1:Int)) <|
 guardF (0 ≤ (1:Int) ∧ (1:Int) < (List.length k.1:Int)) <|
 guardF (0 ≤ (2:Int) ∧ (2:Int) < (List.length k.1:Int)) <|
 bindF (f102 ([(rd (0:Int) k.1 (1:Int)),long])) fun q5_19 =>
 bif (!q5_19) then
 some ((2:Int),[],[])
 else
 bindF (f71 ([(rd (0:Int) k.1 (1:Int)),long]) (0:Int)) fun r14 =>
 bindF (loopF (fun go x=>f123_l51 g k step long go x.1 x.2) fuelN ((0:Int),r14.2)) fun z59 =>
 some ((0:Int),r14.1,z59)) (fun z12b =>
 some ((4:Int),[],[]))) (fun z5b =>
 some ((1:Int),[],[]))
def C123 : Con where
 X := (LI×LI)×(LI×LI)×Int×Int
 Y := Int×LI×LI
 e := 0
 args x := [.dat T3 x.1,.dat T3 x.2.1,.dat T2 x.2.2.1,.dat T2 x.2.2.2]
 hin x := []
 F x := f123 x.1 x.2.1 x.2.2.1 x.2.2.2
 ret y := [.raw true [(.osl 0),(.osl 1)],.dat T2 y.1]
 hout y := [(0,.arr 3 T2 y.2.1),(1,.arr 40 T2 y.2.2)]
 nout := 2
theorem C123_vc (g : LI×LI) (k : LI×LI) (step:Int) (long:Int) (y : Int×LI×LI) (q : f123 g k step long = some y) : VC Tryz.f123 C123 (g,k,step,long) y := by
 unfold f123 at q
 refine OL ?_
 obtain ⟨z5,hz5,q⟩ := bE q
 refine OQ ⟨Sum.elim (fun z5a=>[(0,⟨[(2,.dat T2 step),(3,.dat T2 long),(4,P0 0 0),(5,P0 1 0),(8,P0 2 0)],[(0,.cells [(.d T1 g.1),(.d T1 g.2)]),(1,.cells [(.d T1 k.1),(.d T1 k.2)]),(2,.cells [N0,N0])],3⟩)]) (fun z5b=>[(1,⟨[(8,P0 0 0),(9,D0 1)],[(0,.cells [N0,N0])],1⟩)]) z5,?_,?_⟩
 ·have q := hz5
  clear hz5
  unfold f123_j2 at q
  obtain ⟨z8,hz8,q⟩ := bE q
  refine OQ ⟨[(0,⟨[(2,.dat T2 step),(3,.dat T2 long),(4,P0 0 0),(5,P0 1 0),(8,P0 2 0),(44,.dat .bool z8)],[(0,.cells [(.d T1 g.1),(.d T1 g.2)]),(1,.cells [(.d T1 k.1),(.d T1 k.2)]),(2,.cells [N0,N0])],3⟩)],?_,?_⟩
  ·have q := hz8
   clear hz8
   unfold f123_j3 at q
   obtain ⟨r9,hr9,q⟩ := bE q
   refine OL (AI f62_in (cV (cQ C62 (g.1,g.2) r9 [] false C62_holds hr9 rfl rfl (R2 (K0 (cN q (fun q=>?_) (fun q=>?_)))))))
   ·refine gY ?_
    obtain ⟨r10,hr10,q⟩ := bE q
    refine OL (AI f62_in (cV (cQ C62 (k.1,k.2) r10 [] false C62_holds hr10 rfl rfl (R2 (K0 (gY (cF (cN q (fun q=>?_) (fun q=>?_)))))))))
    ·refine gY (cF (cN q (fun q=>?_) (fun q=>?_)))
     ·refine gY (cF (cN q (fun q=>?_) (fun q=>?_)))
      ·refine gY (cF (cN q (fun q=>?_) (fun q=>?_)))
       ·refine gY (cF ?_)
        cases sE q
        refine E4 I3 (R4 (AI (R3 TV) (R3 TV)))
       refine gN (cT ?_)
       cases sE q
       refine E4 I3 (R4 (AI (R3 TV) (R3 TV)))
      refine gN (cT (gN (gN (cT ?_))))
      cases sE q
      refine E4 I3 (R4 (AI (R3 TV) (R3 TV)))
     refine gN (cT (gN (gN (cT (gN (gN (cT ?_)))))))
     cases sE q
     refine E4 I3 (R4 (AI (R3 TV) (R3 TV)))
    refine gN (cT (gN (gN (cT (gN (gN (cT (gN (gN (cT ?_))))))))))
    cases sE q
    refine E4 I3 (R4 (AI (R3 TV) (R3 TV)))
   refine gN (gN (cT (gN (gN (cT (gN (gN (cT (gN (gN (cT (gN (gN (cT ?_))))))))))))))
   cases sE q
   refine E4 I3 (R4 (AI (R3 TV) (R3 TV)))
  refine AI (cI q (fun q=>?_) (fun q=>?_)) TV
  ·refine OL (OL ?_)
   cases sE q
   refine E4 [(0,some 2)] (R2 (AJ (AI rfl TV)))
  cases sE q
  refine E4 I3 (R3 (AI (R3 TV) (R3 TV)))
 rcases z5 with z5a | z5b
 ·dsimp only [sumF] at q
  refine AI ?_ TV
  obtain ⟨z12,hz12,q⟩ := bE q
  refine OQ ⟨Sum.elim (fun z12a=>[(0,⟨[(2,.dat T2 step),(3,.dat T2 long),(4,P0 0 0),(5,P0 1 0),(8,P0 2 0)],[(0,.cells [(.d T1 g.1),(.d T1 g.2)]),(1,.cells [(.d T1 k.1),(.d T1 k.2)]),(2,.cells [N0,N0])],3⟩)]) (fun z12b=>[(1,⟨[(8,P0 0 0),(9,D0 4)],[(0,.cells [N0,N0])],1⟩)]) z12,?_,?_⟩
  ·have q := hz12
   clear hz12
   unfold f123_j5 at q
   obtain ⟨z13,hz13,q⟩ := bE q
   refine OQ ⟨[(0,⟨[(2,.dat T2 step),(3,.dat T2 long),(4,P0 0 0),(5,P0 1 0),(8,P0 2 0),(90,.dat .bool z13)],[(0,.cells [(.d T1 g.1),(.d T1 g.2)]),(1,.cells [(.d T1 k.1),(.d T1 k.2)]),(2,.cells [N0,N0])],3⟩)],?_,?_⟩
   ·have q := hz13
    clear hz13
    unfold f123_j6 at q
    refine EI (.take 0 (.take 1 (.take 2 (.take 3 (.take 4 (.take 5 (.take 6 (.take 7 (.take 8 (.take 9 (.take 10 (.take 11 (.take 12 (.take 13 (.take 14 (.take 15 (.take 16 (.take 17 (.take 18 (.take 19 (.take 20 (.take 21 (.take 22 (.take 23 (.take 24 (.take 25 (.take 26 (.take 27 (.take 28 (.take 29 (.take 30 (.take 31 (.take 32 (.take 33 (.take 34 (.take 35 (.take 36 (.take 37 (.take 38 (.take 39 (.take 40 (.take 41 (.take 42 (.take 43 (.take 44 .done))))))))))))))))))))))))))))))))))))))))))))) (EI [] (EI [] (AI rfl (cN q (fun q=>?_) (fun q=>?_)))))
    ·refine gY (gY (gY (cF (cN q (fun q=>?_) (fun q=>?_)))))
     ·refine gY (gY (gI q (fun q=>?_)))
      refine gY (gY (gY (gY (gI q (fun q=>?_)))))
      refine gY (gY (cF (cN q (fun q=>?_) (fun q=>?_))))
      ·refine gY (gY (gI q (fun q=>?_)))
       refine gY (gY (gY (cF (cN q (fun q=>?_) (fun q=>?_)))))
       ·refine gY (gY (gI q (fun q=>?_)))
        refine gY (gY (gY (gY (gY (gI q (fun q=>?_))))))
        refine gY (gY (gY (gY (gI q (fun q=>?_)))))
        refine gY (gY (cF ?_))
        cases sE q
        refine E4 I3 (R4 (AI (R3 TV) (R3 TV)))
       refine gN (gN (gN (gN (gN (gN (gN (gN (gN (gN (gN (gN (gN (cT ?_)))))))))))))
       cases sE q
       refine E4 I3 (R4 (AI (R3 TV) (R3 TV)))
      refine gN (gN (gN (gN (gN (cT (gN (gN (gN (gN (gN (gN (gN (gN (gN (gN (gN (gN (gN (gN (cT ?_))))))))))))))))))))
      cases sE q
      refine E4 I3 (R4 (AI (R3 TV) (R3 TV)))
     refine gN (gN (gN (gN (gN (gN (gN (gN (cT (gN (gN (gN (gN (gN (gN (cT (gN (gN (gN (gN (gN (gN (gN (gN (gN (gN (gN (gN (gN (gN (cT ?_))))))))))))))))))))))))))))))
     cases sE q
     refine E4 I3 (R4 (AI (R3 TV) (R3 TV)))
    refine gN (gN (gN (cT (gN (gN (gN (gN (gN (gN (gN (gN (gN (cT (gN (gN (gN (gN (gN (gN (cT (gN (gN (gN (gN (gN (gN (gN (gN (gN (gN (gN (gN (gN (gN (cT ?_)))))))))))))))))))))))))))))))))))
    cases sE q
    refine E4 I3 (R4 (AI (R3 TV) (R3 TV)))
   refine AI (cI q (fun q=>?_) (fun q=>?_)) TV
   ·refine OL (OL ?_)
    cases sE q
    refine E4 [(0,some 2)] (R2 (AJ (AI rfl TV)))
   cases sE q
   refine E4 I3 (R3 (AI (R3 TV) (R3 TV)))
  rcases z12 with z12a | z12b
  ·dsimp only [sumF] at q
   refine AI (OL (EI (.take 0 (.take 1 (.take 2 (.take 3 (.take 4 (.take 5 (.take 6 (.take 7 (.take 8 (.take 9 (.take 10 (.take 11 (.take 12 (.take 13 (.take 14 (.take 15 (.take 16 (.take 17 (.take 18 (.take 19 .done)))))))))))))))))))) (EI [] (EI [] (AI rfl (gI q (fun q=>?_))))))) TV
   refine gI q (fun q=>?_)
   refine gI q (fun q=>?_)
   refine gI q (fun q=>?_)
   refine OL (OL (OL ?_))
   obtain ⟨q5_19,hq5_19,q⟩ := bE q
   refine OL (AI f102_in (cV (cQ C102 [(rd (0:Int) k.1 (1:Int)),long] q5_19 [] true C102_holds hq5_19 rfl rfl (AI rfl (AI (fun _=>rfl) (R2 (AI TV (AI TV (cI q (fun q=>?_) (fun q=>?_))))))))))
   ·refine OL (OL ?_)
    cases sE q
    refine AI rfl (E4 [(0,none),(1,none)] (R2 (AJ (R2 TV))))
   refine OL (OL ?_)
   obtain ⟨r14,hr14,q⟩ := bE q
   refine OL (AI f71_in (cV (cQ C71 ([(rd (0:Int) k.1 (1:Int)),long],(0:Int)) r14 [] true C71_holds hr14 rfl rfl (R2 (AI (fun _=>rfl) (R2 (AI TV (AI TV (OL (OL (OL ?_)))))))))))
   obtain ⟨z59,hz59,q⟩ := bE q
   refine lI (Int×LI) LI (fun x=>⟨[(2,.dat T2 step),(3,.dat T2 long),(4,P0 0 0),(5,P0 1 0),(8,P0 2 0),(10,.dat T2 (rd (0:Int) g.1 (0:Int))),(11,.dat T2 (rd (0:Int) g.1 (1:Int))),(12,.dat T2 (rd (0:Int) k.1 (1:Int))),(13,.dat T2 (rd (0:Int) k.1 (2:Int))),(14,P0 3 0),(15,.dat T2 x.1)],[(0,.cells [(.d T1 g.1),(.d T1 g.2)]),(1,.cells [(.d T1 k.1),(.d T1 k.2)]),(2,.cells [N0,N0]),(3,.cells [(.osl 4),(.osl 5)]),(4,.arr 3 T2 r14.1),(5,.arr 40 T2 x.2)],6⟩) (fun z=>[(2,⟨[(8,P0 0 0),(14,P0 1 0)],[(0,.cells [N0,N0]),(1,.cells [(.osl 2),(.osl 3)]),(2,.arr 3 T2 r14.1),(3,.arr 40 T2 z)],4⟩)]) (loopF (fun go x=>f123_l51 g k step long go x.1 x.2)) fuelN ((0:Int),r14.2) z59 (AI hz59 (AI (E4 [(0,some 0),(1,some 1),(2,some 2),(3,some 7),(4,some 5),(5,some 6)] (R8 (AI (R4 TV) (R6 TV)))) (AI (fun _ _ h=>lZ h) (AI (fun m=>curI (fun x_=>fun l5 z q=>?_)) ?_))))
   ·have q : f123_l51 g k step long (loopF (fun go x=>f123_l51 g k step long go x.1 x.2) m) x_ l5 = some z := q
    unfold f123_l51 at q
    refine OL (OL (cI q (fun q=>?_) (fun q=>?_)))
    ·refine OL (OL ?_)
     obtain ⟨z74,hz74,q⟩ := bE q
     refine lI (Int×LI) LI (fun x=>⟨[(2,.dat T2 step),(3,.dat T2 long),(4,P0 0 0),(5,P0 1 0),(8,P0 2 0),(10,.dat T2 (rd (0:Int) g.1 (0:Int))),(11,.dat T2 (rd (0:Int) g.1 (1:Int))),(12,.dat T2 (rd (0:Int) k.1 (1:Int))),(13,.dat T2 (rd (0:Int) k.1 (2:Int))),(14,P0 3 0),(15,.dat T2 x_),(16,.dat T2 x.1)],[(0,.cells [(.d T1 g.1),(.d T1 g.2)]),(1,.cells [(.d T1 k.1),(.d T1 k.2)]),(2,.cells [N0,N0]),(3,.cells [(.osl 4),(.osl 5)]),(4,.arr 3 T2 r14.1),(5,.arr 40 T2 x.2)],6⟩) (fun z=>[(4,⟨[(2,.dat T2 step),(3,.dat T2 long),(4,P0 0 0),(5,P0 1 0),(8,P0 2 0),(10,.dat T2 (rd (0:Int) g.1 (0:Int))),(11,.dat T2 (rd (0:Int) g.1 (1:Int))),(12,.dat T2 (rd (0:Int) k.1 (1:Int))),(13,.dat T2 (rd (0:Int) k.1 (2:Int))),(14,P0 3 0),(15,.dat T2 x_)],[(0,.cells [(.d T1 g.1),(.d T1 g.2)]),(1,.cells [(.d T1 k.1),(.d T1 k.2)]),(2,.cells [N0,N0]),(3,.cells [(.osl 4),(.osl 5)]),(4,.arr 3 T2 r14.1),(5,.arr 40 T2 z)],6⟩)]) (loopF (fun go x=>f123_l66 g k step long x_ go x.1 x.2)) fuelN ((0:Int),l5) z74 (AI hz74 (AI (E4 I6 (R9 (AI (R4 TV) (R6 TV)))) (AI (fun _ _ h=>lZ h) (AI (fun m=>curI (fun l=>fun l5_2 z q=>?_)) ?_))))
     ·have q : f123_l66 g k step long x_ (loopF (fun go x=>f123_l66 g k step long x_ go x.1 x.2) m) l l5_2 = some z := q
      unfold f123_l66 at q
      refine OL (OL (cI q (fun q=>?_) (fun q=>?_)))
      ·refine OL (OL (OL (OL (OL ?_))))
       obtain ⟨z79,hz79,q⟩ := bE q
       refine lI (Int×Bool×Int×Int×Int×Int) (Bool×Int×Int×Int×Int) (fun x=>⟨[(2,.dat T2 step),(3,.dat T2 long),(4,P0 0 0),(5,P0 1 0),(8,P0 2 0),(10,.dat T2 (rd (0:Int) g.1 (0:Int))),(11,.dat T2 (rd (0:Int) g.1 (1:Int))),(12,.dat T2 (rd (0:Int) k.1 (1:Int))),(13,.dat T2 (rd (0:Int) k.1 (2:Int))),(14,P0 3 0),(15,.dat T2 x_),(16,.dat T2 l),(17,P0 4 0),(18,.dat T2 x.1)],[(0,.cells [(.d T1 g.1),(.d T1 g.2)]),(1,.cells [(.d T1 k.1),(.d T1 k.2)]),(2,.cells [N0,N0]),(3,.cells [(.osl 5),(.osl 6)]),(4,.cells [(.d .bool x.2.1),(.d T4 x.2.2.1),(.d T4 x.2.2.2.1),(.d T4 x.2.2.2.2.1),(.d T4 x.2.2.2.2.2)]),(5,.arr 3 T2 r14.1),(6,.arr 40 T2 l5_2)],7⟩) (fun z=>[(6,⟨[(2,.dat T2 step),(3,.dat T2 long),(4,P0 0 0),(5,P0 1 0),(8,P0 2 0),(10,.dat T2 (rd (0:Int) g.1 (0:Int))),(11,.dat T2 (rd (0:Int) g.1 (1:Int))),(12,.dat T2 (rd (0:Int) k.1 (1:Int))),(13,.dat T2 (rd (0:Int) k.1 (2:Int))),(14,P0 3 0),(15,.dat T2 x_),(16,.dat T2 l),(17,P0 4 0)],[(0,.cells [(.d T1 g.1),(.d T1 g.2)]),(1,.cells [(.d T1 k.1),(.d T1 k.2)]),(2,.cells [N0,N0]),(3,.cells [(.osl 5),(.osl 6)]),(4,.cells [(.d .bool z.1),(.d T4 z.2.1),(.d T4 z.2.2.1),(.d T4 z.2.2.2.1),(.d T4 z.2.2.2.2)]),(5,.arr 3 T2 r14.1),(6,.arr 40 T2 l5_2)],7⟩)]) (loopF (fun go x=>f123_l71 g k step x_ l go x.1 x.2.1 x.2.2.1 x.2.2.2.1 x.2.2.2.2.1 x.2.2.2.2.2)) fuelN ((0:Int),false,(0:Int),(0:Int),(0:Int),(0:Int)) z79 (AI hz79 (AI (E4 [(0,some 0),(1,some 1),(2,some 2),(3,some 3),(4,some 6),(5,some 4),(6,some 5)] (R10 (AI (R5 TV) (R7 TV)))) (AI (fun _ _ h=>lZ h) (AI (fun m=>curI (fun j=>curI (fun c4_0=>curI (fun c4_1=>curI (fun c4_2=>curI (fun c4_3=>fun c4_4 z q=>?_)))))) ?_))))
       ·have q : f123_l71 g k step x_ l (loopF (fun go x=>f123_l71 g k step x_ l go x.1 x.2.1 x.2.2.1 x.2.2.2.1 x.2.2.2.2.1 x.2.2.2.2.2) m) j c4_0 c4_1 c4_2 c4_3 c4_4 = some z := q
        unfold f123_l71 at q
        refine OL (OL (cI q (fun q=>?_) (fun q=>?_)))
        ·refine OL (OL ?_)
         obtain ⟨z80,hz80,q⟩ := bE q
         refine OQ ⟨Sum.elim (fun z80a=>[(0,⟨[(2,.dat T2 step),(3,.dat T2 long),(4,P0 0 0),(5,P0 1 0),(8,P0 2 0),(10,.dat T2 (rd (0:Int) g.1 (0:Int))),(11,.dat T2 (rd (0:Int) g.1 (1:Int))),(12,.dat T2 (rd (0:Int) k.1 (1:Int))),(13,.dat T2 (rd (0:Int) k.1 (2:Int))),(14,P0 3 0),(15,.dat T2 x_),(16,.dat T2 l),(17,P0 4 0),(18,.dat T2 j),(19,.dat T2 (i64.wrap (l - (i64.wrap (j * step)))))],[(0,.cells [(.d T1 g.1),(.d T1 g.2)]),(1,.cells [(.d T1 k.1),(.d T1 k.2)]),(2,.cells [N0,N0]),(3,.cells [(.osl 5),(.osl 6)]),(4,.cells [(.d .bool c4_0),(.d T4 c4_1),(.d T4 c4_2),(.d T4 c4_3),(.d T4 c4_4)]),(5,.arr 3 T2 r14.1),(6,.arr 40 T2 l5_2)],7⟩)]) (fun z80b=>[(7,⟨[(2,.dat T2 step),(3,.dat T2 long),(4,P0 0 0),(5,P0 1 0),(8,P0 2 0),(10,.dat T2 (rd (0:Int) g.1 (0:Int))),(11,.dat T2 (rd (0:Int) g.1 (1:Int))),(12,.dat T2 (rd (0:Int) k.1 (1:Int))),(13,.dat T2 (rd (0:Int) k.1 (2:Int))),(14,P0 3 0),(15,.dat T2 x_),(16,.dat T2 l),(17,P0 4 0),(18,.dat T2 j)],[(0,.cells [(.d T1 g.1),(.d T1 g.2)]),(1,.cells [(.d T1 k.1),(.d T1 k.2)]),(2,.cells [N0,N0]),(3,.cells [(.osl 5),(.osl 6)]),(4,.cells [(.d .bool c4_0),(.d T4 c4_1),(.d T4 c4_2),(.d T4 c4_3),(.d T4 c4_4)]),(5,.arr 3 T2 r14.1),(6,.arr 40 T2 l5_2)],7⟩)]) z80,?_,?_⟩
         ·have q := hz80
          clear hz80
          unfold f123_j72 at q
          refine OL (cN q (fun q=>?_) (fun q=>?_))
          ·refine gY (gY (cF (cI q (fun q=>?_) (fun q=>?_))))
           ·cases sE q
            refine E4 I7 (R10 (AI (R5 TV) (R7 TV)))
           cases sE q
           refine E4 I7 (R11 (AI (R5 TV) (R7 TV)))
          refine gN (gN (cT (cT ?_)))
          cases sE q
          refine E4 I7 (R10 (AI (R5 TV) (R7 TV)))
         rcases z80 with z80a | z80b
         ·dsimp only [sumF] at q
          refine AI (OL ?_) TV
          obtain ⟨z81,hz81,q⟩ := bE q
          refine lI (Int×Bool×Int×Int×Int×Int) (Bool×Int×Int×Int×Int) (fun x=>⟨[(2,.dat T2 step),(3,.dat T2 long),(4,P0 0 0),(5,P0 1 0),(8,P0 2 0),(10,.dat T2 (rd (0:Int) g.1 (0:Int))),(11,.dat T2 (rd (0:Int) g.1 (1:Int))),(12,.dat T2 (rd (0:Int) k.1 (1:Int))),(13,.dat T2 (rd (0:Int) k.1 (2:Int))),(14,P0 3 0),(15,.dat T2 x_),(16,.dat T2 l),(17,P0 4 0),(18,.dat T2 j),(19,.dat T2 (i64.wrap (l - (i64.wrap (j * step))))),(20,.dat T2 x.1)],[(0,.cells [(.d T1 g.1),(.d T1 g.2)]),(1,.cells [(.d T1 k.1),(.d T1 k.2)]),(2,.cells [N0,N0]),(3,.cells [(.osl 5),(.osl 6)]),(4,.cells [(.d .bool x.2.1),(.d T4 x.2.2.1),(.d T4 x.2.2.2.1),(.d T4 x.2.2.2.2.1),(.d T4 x.2.2.2.2.2)]),(5,.arr 3 T2 r14.1),(6,.arr 40 T2 l5_2)],7⟩) (fun z=>[(8,⟨[(2,.dat T2 step),(3,.dat T2 long),(4,P0 0 0),(5,P0 1 0),(8,P0 2 0),(10,.dat T2 (rd (0:Int) g.1 (0:Int))),(11,.dat T2 (rd (0:Int) g.1 (1:Int))),(12,.dat T2 (rd (0:Int) k.1 (1:Int))),(13,.dat T2 (rd (0:Int) k.1 (2:Int))),(14,P0 3 0),(15,.dat T2 x_),(16,.dat T2 l),(17,P0 4 0),(18,.dat T2 j)],[(0,.cells [(.d T1 g.1),(.d T1 g.2)]),(1,.cells [(.d T1 k.1),(.d T1 k.2)]),(2,.cells [N0,N0]),(3,.cells [(.osl 5),(.osl 6)]),(4,.cells [(.d .bool z.1),(.d T4 z.2.1),(.d T4 z.2.2.1),(.d T4 z.2.2.2.1),(.d T4 z.2.2.2.2)]),(5,.arr 3 T2 r14.1),(6,.arr 40 T2 l5_2)],7⟩)]) (loopF (fun go x=>f123_l73 g k step x_ l j go x.1 x.2.1 x.2.2.1 x.2.2.2.1 x.2.2.2.2.1 x.2.2.2.2.2)) fuelN ((0:Int),c4_0,c4_1,c4_2,c4_3,c4_4) z81 (AI hz81 (AI (E4 I7 (R12 (AI (R5 TV) (R7 TV)))) (AI (fun _ _ h=>lZ h) (AI (fun m=>curI (fun i=>curI (fun c4_0_2=>curI (fun c4_1_2=>curI (fun c4_2_2=>curI (fun c4_3_2=>fun c4_4_2 z q=>?_)))))) ?_))))
          ·have q : f123_l73 g k step x_ l j (loopF (fun go x=>f123_l73 g k step x_ l j go x.1 x.2.1 x.2.2.1 x.2.2.2.1 x.2.2.2.2.1 x.2.2.2.2.2) m) i c4_0_2 c4_1_2 c4_2_2 c4_3_2 c4_4_2 = some z := q
           unfold f123_l73 at q
           refine OL (OL (cI q (fun q=>?_) (fun q=>?_)))
           ·refine OL (EI (.take 0 (.take 1 (.take 2 (.take 3 (.take 4 (.take 5 (.take 6 (.take 7 (.take 8 (.take 9 (.take 10 (.take 11 (.take 12 (.take 13 (.take 14 (.take 15 (.take 16 (.take 17 (.take 18 (.take 19 (.take 20 (.take 21 (.take 22 (.alt 23 (.alt 24 (.alt 25 .done .done) .done) .done)))))))))))))))))))))))) (EI [(25,[4])] (EI [] (AI rfl (gI q (fun q=>?_))))))
            refine gI q (fun q=>?_)
            refine AI TV ?_
            obtain ⟨q24_23,hq24_23,q⟩ := bE q
            refine OL (AI f179_in (cV (cQ C179 ((rd (0:Int) g.2 (i64.wrap ((i64.wrap (i * (rd (0:Int) g.1 (1:Int)))) + j))),(rd (0:Int) k.2 (i64.wrap ((i64.wrap ((i64.wrap ((i64.wrap (i * (rd (0:Int) k.1 (1:Int)))) + x_)) * (rd (0:Int) k.1 (2:Int)))) + (i64.wrap (l - (i64.wrap (j * step)))))))) q24_23 [] false C179_holds hq24_23 rfl rfl (R2 (K0 (AI TV ?_))))))
            obtain ⟨q24_24,hq24_24,q⟩ := bE q
            refine OL (AI f139_in (cV (cQ C139 (c4_0_2,c4_1_2,c4_2_2,c4_3_2,c4_4_2,q24_23.1,q24_23.2.1,q24_23.2.2.1,q24_23.2.2.2.1,q24_23.2.2.2.2) q24_24 [] false C139_holds hq24_24 rfl rfl (AI NH (R2 (AI (R2 TV) (AI TV (AI TV (OL (EI ((i64.wrap (i + (1:Int))),q24_24.1,q24_24.2.1,q24_24.2.2.1,q24_24.2.2.2.1,q24_24.2.2.2.2) (AI q (E4 I7 (R12 (AI (R5 TV) (R7 TV)))))))))))))))
           cases sE q
           refine E4 I7 (R10 (AI (R5 TV) (R7 TV)))
          refine AI (EI ((i64.wrap (j + (1:Int))),z81.1,z81.2.1,z81.2.2.1,z81.2.2.2.1,z81.2.2.2.2) (AI q (E4 I7 (R10 (AI (R5 TV) (R7 TV)))))) TV
         dsimp only [sumF] at q
         refine AI (EI ((i64.wrap (j + (1:Int))),c4_0,c4_1,c4_2,c4_3,c4_4) (AI q (E4 I7 (R10 (AI (R5 TV) (R7 TV)))))) TV
        cases sE q
        refine E4 I7 (R9 (AI (R5 TV) (R7 TV)))
       refine AI (EI (.take 0 (.take 1 (.take 2 (.take 3 (.take 4 (.take 5 (.take 6 (.take 7 (.alt 8 (.alt 9 (.take 10 (.alt 11 .done .done)) .done) .done))))))))) (EI [] (EI [] (AI rfl (AI TV ?_))))) TV
       obtain ⟨q25_8,hq25_8,q⟩ := bE q
       refine OL (AI f180_in (cV (cQ C180 (z79.1,z79.2.1,z79.2.2.1,z79.2.2.2.1,z79.2.2.2.2,(32:Int)) q25_8 [] false C180_holds hq25_8 rfl rfl (AI rfl (AI NH (R2 (AJ (AI TV (AI TV ?_)))))))))
       obtain ⟨q25_9,hq25_9,q⟩ := bE q
       refine OL (AI f120_in (cV (cQ C120 (q25_8.1,q25_8.2.1,q25_8.2.2.1,q25_8.2.2.2.1,q25_8.2.2.2.2) q25_9 [] false C120_holds hq25_9 rfl rfl (AI NH (R2 (AJ (AI TV (gI q (fun q=>?_)))))))))
       refine AI TV (OL (EI ((i64.wrap (l + (1:Int))),(List.set l5_2 (Int.toNat (i64.wrap ((i64.wrap (x_ * long)) + l))) q25_9)) (AI q (E4 [(0,some 0),(1,some 1),(2,some 2),(3,some 3),(4,some 5),(5,some 6)] (R9 (AI (R4 TV) (R6 TV)))))))
      cases sE q
      refine E4 I6 (R8 (AI (R4 TV) (R6 TV)))
     refine AI (EI ((i64.wrap (x_ + (1:Int))),z74) (AI q (E4 I6 (R8 (AI (R4 TV) (R6 TV)))))) TV
    cases sE q
    refine E4 [(0,some 2),(1,some 3),(2,some 4),(3,some 5)] (AI rfl (AI (R2 TV) (R4 TV)))
   refine AI (OL (OL ?_)) TV
   cases sE q
   refine AI rfl (E4 [(0,some 2),(1,some 3)] (R2 (AJ (R2 TV))))
  dsimp only [sumF] at q
  refine AI ?_ TV
  cases sE q
  refine AI rfl (E4 [(0,none),(1,none)] (R2 (AJ (R2 TV))))
 dsimp only [sumF] at q
 refine AI ?_ TV
 cases sE q
 refine AI rfl (E4 [(0,none),(1,none)] (R2 (AJ (R2 TV))))
theorem C123_holds : HP C123 123 := hH Tryz.f123 (by kernel_rfl) rfl (fun x y q=>C123_vc x.1 x.2.1 x.2.2.1 x.2.2.2 y q)
theorem f123_in : InP 123 := inP (by kernel_rfl)
end Go.Proofs
