import Derived.Test.YtgkmdgdkmgkelaaGreatGradJoinsS1
set_option linter.unusedVariables false
set_option maxRecDepth 100000
set_option maxHeartbeats 8000000
namespace Go.Proofs
open Go.AM
open IntKind (i64 u64 i32 u32 i16 u16 i8 u8)
def f152 (long:Int) (wide:Int) (step:Int) : Option Int :=
 bif (decide (wide > long)) then
 some (0:Int)
 else
 guardF (step ≠ 0) <|
 some (i64.wrap ((i64.wrap (Int.tdiv (i64.wrap (long - wide)) step)) + (1:Int)))
def C152 : Con where
 X := Int×Int×Int
 Y := Int
 e := 0
 args x := [.dat T0 x.1,.dat T0 x.2.1,.dat T0 x.2.2]
 hin x := []
 F x := f152 x.1 x.2.1 x.2.2
 ret y := [.dat T0 y]
 hout y := []
 nout := 0
theorem C152_vc (long:Int) (wide:Int) (step:Int) (y:Int) (hF : f152 long wide step = some y) : VC Tryz.f152 C152 (long,wide,step) y := by
 unfold f152 at hF
 refine OL (OL (OL (condI hF (fun hF=>?_) (fun hF=>?_))))
 ·refine OL ?_
  have hy := someE hF
  subst hy
  refine AI rfl (E4 [] (R2 (AI TV TV)))
 refine OL (guardI hF (fun hF=>?_))
 have hy := someE hF
 subst hy
 refine AI rfl (E4 [] (R2 (AI TV TV)))
theorem C152_holds : C152.Holds Tryz.prog 152 := holds_of_vc tab_ok mixed (fn := Tryz.f152) (by kernel_rfl) rfl C152 (fun x y hF=>C152_vc x.1 x.2.1 x.2.2 y hF)
theorem f152_in : InP 152 := ⟨Tryz.f152,by kernel_rfl,by kernel_rfl,by kernel_rfl⟩
def f153 (d : List Int) : Option (Int×(List Int)×(List Int)) :=
 bindF (f52 d (0:Int)) fun r1 =>
 bif (r1.1 != (0:Int)) then
 some ((2:Int),[],[])
 else
 some ((0:Int),r1.2.1,r1.2.2)
def C153 : Con where
 X := List Int
 Y := Int×(List Int)×(List Int)
 e := 0
 args x := [.dat T4 x]
 hin x := []
 F x := f153 x
 ret y := [.raw true [(.osl 0),(.osl 1)],.dat T0 y.1]
 hout y := [(0,.arr 3 T0 y.2.1),(1,.arr 23 T0 y.2.2)]
 nout := 2
theorem C153_vc (d : List Int) (y : Int×(List Int)×(List Int)) (hF : f153 d = some y) : VC Tryz.f153 C153 d y := by
 unfold f153 at hF
 refine OL (OL ?_)
 obtain ⟨r1,hr1,hF⟩ := bindE hF
 refine OL (AI f52_in (callV0 (callI C52 (d,(0:Int)) r1 [] false C52_holds hr1 rfl rfl (R2 (AI (fun h=>nomatch h) (R2 (AI TV (AI TV (OL (OL (OL (condI hF (fun hF=>?_) (fun hF=>?_)))))))))))))
 ·refine OL (OL ?_)
  have hy := someE hF
  subst hy
  refine AI rfl (E4 [(0,none),(1,none)] (R2 (AI (AI rfl TV) (R2 TV))))
 refine OL (OL ?_)
 have hy := someE hF
 subst hy
 refine AI rfl (E4 [(0,some 1),(1,some 2)] (R2 (AI (AI rfl TV) (R2 TV))))
theorem C153_holds : C153.Holds Tryz.prog 153 := holds_of_vc tab_ok mixed (fn := Tryz.f153) (by kernel_rfl) rfl C153 (fun x y hF=>C153_vc x y hF)
theorem f153_in : InP 153 := ⟨Tryz.f153,by kernel_rfl,by kernel_rfl,by kernel_rfl⟩
def f174_j4 (a : (List Int)×(List Int)) (k : (List Int)×(List Int)) (step:Int) : Option Bool :=
 bindF (f86 (a.1,a.2)) fun r12 =>
 bif (!r12) then
 some true
 else
 bindF (f86 (k.1,k.2)) fun r13 =>
 bif (!r13) then
 some true
 else
 bindF (f150 step) fun r14 =>
 some (!r14)
def f174_j5 (a : (List Int)×(List Int)) (k : (List Int)×(List Int)) : Option Bool :=
 bif ((List.length a.1:Int) != (2:Int)) then
 some true
 else
 bif ((List.length k.1:Int) != (3:Int)) then
 some true
 else
 guardF (0 ≤ (1:Int) ∧ (1:Int) < (List.length k.1:Int)) <|
 guardF (0 ≤ (0:Int) ∧ (0:Int) < (List.length a.1:Int)) <|
 bif ((rd (0:Int) k.1 (1:Int)) != (rd (0:Int) a.1 (0:Int))) then
 some true
 else
 guardF (0 ≤ (2:Int) ∧ (2:Int) < (List.length k.1:Int)) <|
 guardF (0 ≤ (1:Int) ∧ (1:Int) < (List.length a.1:Int)) <|
 some (decide ((rd (0:Int) k.1 (2:Int)) > (rd (0:Int) a.1 (1:Int))))
def f174_j3 (a : (List Int)×(List Int)) (k : (List Int)×(List Int)) (step:Int) : Option (Sum Unit Int) :=
 bindF (f174_j4 a k step) fun z11 =>
 bif z11 then
 some (Sum.inr (1:Int))
 else
 bindF (f174_j5 a k) fun z15 =>
 bif z15 then
 some (Sum.inr (4:Int))
 else
 some (Sum.inl ())
def f174_l18 (a : (List Int)×(List Int)) (k : (List Int)×(List Int)) (step:Int) (q5_14:Int) (v102:Int) (v112:Int) (go : (Int×Int×Int×Int) → Option (Int×Int×Int)) (v116:Int) (c4_0_2:Int) (c4_1_2:Int) (c4_2_2:Int) : Option (Int×Int×Int) :=
 bif (decide (v116 < (rd (0:Int) k.1 (2:Int)))) then
 guardF (0 ≤ (i64.wrap ((i64.wrap ((i64.wrap (v112 * (rd (0:Int) a.1 (1:Int)))) + (i64.wrap ((Int.tmod v102 q5_14) * step)))) + v116)) ∧ (i64.wrap ((i64.wrap ((i64.wrap (v112 * (rd (0:Int) a.1 (1:Int)))) + (i64.wrap ((Int.tmod v102 q5_14) * step)))) + v116)) < (List.length a.2:Int)) <|
 guardF (0 ≤ (i64.wrap ((i64.wrap ((i64.wrap ((i64.wrap ((i64.wrap (Int.tdiv v102 q5_14)) * (rd (0:Int) a.1 (0:Int)))) + v112)) * (rd (0:Int) k.1 (2:Int)))) + v116)) ∧ (i64.wrap ((i64.wrap ((i64.wrap ((i64.wrap ((i64.wrap (Int.tdiv v102 q5_14)) * (rd (0:Int) a.1 (0:Int)))) + v112)) * (rd (0:Int) k.1 (2:Int)))) + v116)) < (List.length k.2:Int)) <|
 bindF (f154 c4_0_2 c4_1_2 c4_2_2 (rd (0:Int) a.2 (i64.wrap ((i64.wrap ((i64.wrap (v112 * (rd (0:Int) a.1 (1:Int)))) + (i64.wrap ((Int.tmod v102 q5_14) * step)))) + v116))) (rd (0:Int) k.2 (i64.wrap ((i64.wrap ((i64.wrap ((i64.wrap ((i64.wrap (Int.tdiv v102 q5_14)) * (rd (0:Int) a.1 (0:Int)))) + v112)) * (rd (0:Int) k.1 (2:Int)))) + v116)))) fun q21_26 =>
 go ((i64.wrap (v116 + (1:Int))),q21_26.1,q21_26.2.1,q21_26.2.2)
 else
 some (c4_0_2,c4_1_2,c4_2_2)
def f174_l17 (a : (List Int)×(List Int)) (k : (List Int)×(List Int)) (step:Int) (q5_14:Int) (v102:Int) (go : (Int×Int×Int×Int) → Option (Int×Int×Int)) (v112:Int) (c4_0:Int) (c4_1:Int) (c4_2:Int) : Option (Int×Int×Int) :=
 bif (decide (v112 < (rd (0:Int) a.1 (0:Int)))) then
 bindF (loopF (fun go x=>f174_l18 a k step q5_14 v102 v112 go x.1 x.2.1 x.2.2.1 x.2.2.2) fuelN ((0:Int),c4_0,c4_1,c4_2)) fun z29 =>
 go ((i64.wrap (v112 + (1:Int))),z29.1,z29.2.1,z29.2.2)
 else
 some (c4_0,c4_1,c4_2)
def f174_l14 (a : (List Int)×(List Int)) (k : (List Int)×(List Int)) (step:Int) (q5_14:Int) (r16 : Int×(List Int)×(List Int)) (go : (Int×(List Int)) → Option (List Int)) (v102:Int) (l5 : List Int) : Option (List Int) :=
 bif (decide (v102 < (List.length r16.2.2:Int))) then
 guardF (q5_14 ≠ 0) <|
 guardF (q5_14 ≠ 0) <|
 bindF (loopF (fun go x=>f174_l17 a k step q5_14 v102 go x.1 x.2.1 x.2.2.1 x.2.2.2) fuelN ((0:Int),(0:Int),(0:Int),(0:Int))) fun z28 =>
 bindF (f155 z28.1 z28.2.1 z28.2.2 (32:Int)) fun q24_3 =>
 guardF (0 ≤ v102 ∧ v102 < (List.length l5:Int)) <|
 go ((i64.wrap (v102 + (1:Int))),(List.set l5 (Int.toNat v102) q24_3.1))
 else
 some l5
def f174 (a : (List Int)×(List Int)) (k : (List Int)×(List Int)) (step:Int) : Option (Int×(List Int)×(List Int)) :=
 bindF (f174_j3 a k step) fun z8 =>
 sumF z8 (fun z8a =>
 guardF (0 ≤ (0:Int) ∧ (0:Int) < (List.length a.1:Int)) <|
 guardF (0 ≤ (1:Int) ∧ (1:Int) < (List.length a.1:Int)) <|
 guardF (0 ≤ (2:Int) ∧ (2:Int) < (List.length k.1:Int)) <|
 bindF (f152 (rd (0:Int) a.1 (1:Int)) (rd (0:Int) k.1 (2:Int)) step) fun q5_14 =>
 guardF (0 ≤ (0:Int) ∧ (0:Int) < (List.length k.1:Int)) <|
 bindF (f153 ([(rd (0:Int) k.1 (0:Int)),q5_14])) fun r16 =>
 bif (r16.1 != (0:Int)) then
 some (r16.1,[],[])
 else
 bindF (loopF (fun go x=>f174_l14 a k step q5_14 r16 go x.1 x.2) fuelN ((0:Int),r16.2.2)) fun z25 =>
 some ((0:Int),r16.2.1,z25)) (fun z8b =>
 some (z8b,[],[]))
def C174 : Con where
 X := ((List Int)×(List Int))×((List Int)×(List Int))×Int
 Y := Int×(List Int)×(List Int)
 e := 0
 args x := [.dat T7 x.1,.dat T7 x.2.1,.dat T0 x.2.2]
 hin x := []
 F x := f174 x.1 x.2.1 x.2.2
 ret y := [.raw true [(.osl 0),(.osl 1)],.dat T0 y.1]
 hout y := [(0,.arr 3 T0 y.2.1),(1,.arr 23 T0 y.2.2)]
 nout := 2
theorem C174_vc (a : (List Int)×(List Int)) (k : (List Int)×(List Int)) (step:Int) (y : Int×(List Int)×(List Int)) (hF : f174 a k step = some y) : VC Tryz.f174 C174 (a,k,step) y := by
 unfold f174 at hF
 refine OL ?_
 obtain ⟨z8,hz8,hF⟩ := bindE hF
 refine OQ ⟨Sum.elim (fun z8a=>[(0,⟨[(2,.dat T0 step),(3,P0 0 0),(4,P0 1 0),(6,P0 2 0)],[(0,.cells [(.d T4 a.1),(.d T4 a.2)]),(1,.cells [(.d T4 k.1),(.d T4 k.2)]),(2,.cells [N0,N0])],3⟩)]) (fun z8b=>[(1,⟨[(6,P0 0 0),(7,.dat T0 z8b)],[(0,.cells [N0,N0])],1⟩)]) z8,?_,?_⟩
 ·have hF := hz8
  clear hz8
  unfold f174_j3 at hF
  obtain ⟨z11,hz11,hF⟩ := bindE hF
  refine OQ ⟨[(0,⟨[(2,.dat T0 step),(3,P0 0 0),(4,P0 1 0),(6,P0 2 0),(20,.dat .bool z11)],[(0,.cells [(.d T4 a.1),(.d T4 a.2)]),(1,.cells [(.d T4 k.1),(.d T4 k.2)]),(2,.cells [N0,N0])],3⟩)],?_,?_⟩
  ·have hF := hz11
   clear hz11
   unfold f174_j4 at hF
   obtain ⟨r12,hr12,hF⟩ := bindE hF
   refine OL (AI f86_in (callV0 (callI C86 (a.1,a.2) r12 [] false C86_holds hr12 rfl rfl (R2 (AI (fun h=>nomatch h) (R2 (AI TV (AI TV (condN hF (fun hF=>?_) (fun hF=>?_))))))))))
   ·refine gdYF ?_
    obtain ⟨r13,hr13,hF⟩ := bindE hF
    refine OL (AI f86_in (callV0 (callI C86 (k.1,k.2) r13 [] false C86_holds hr13 rfl rfl (R2 (AI (fun h=>nomatch h) (R2 (AI TV (AI TV (gdYF (condF (condN hF (fun hF=>?_) (fun hF=>?_))))))))))))
    ·refine gdYF ?_
     obtain ⟨r14,hr14,hF⟩ := bindE hF
     refine OL (AI f150_in (callV0 (callI C150 step r14 [] false C150_holds hr14 rfl rfl (AI rfl (AI (fun h=>nomatch h) (R2 (AI TV (AI TV (gdYF (condF ?_))))))))))
     have hz := someE hF
     subst hz
     refine E4 [(0,some 0),(1,some 1),(2,some 2)] (R3 (AI (R3 TV) (R3 TV)))
    refine gdNF (gdNF (condT ?_))
    have hz := someE hF
    subst hz
    refine E4 [(0,some 0),(1,some 1),(2,some 2)] (R3 (AI (R3 TV) (R3 TV)))
   refine gdNF (gdNF (condT (gdNF (gdNF (gdNF (condT ?_))))))
   have hz := someE hF
   subst hz
   refine E4 [(0,some 0),(1,some 1),(2,some 2)] (R3 (AI (R3 TV) (R3 TV)))
  refine AI (condI hF (fun hF=>?_) (fun hF=>?_)) TV
  ·refine OL (OL ?_)
   have hz := someE hF
   subst hz
   refine E4 [(0,some 2)] (R2 (AI (AI rfl TV) (AI rfl TV)))
  obtain ⟨z15,hz15,hF⟩ := bindE hF
  refine OQ ⟨[(0,⟨[(2,.dat T0 step),(3,P0 0 0),(4,P0 1 0),(6,P0 2 0),(35,.dat .bool z15)],[(0,.cells [(.d T4 a.1),(.d T4 a.2)]),(1,.cells [(.d T4 k.1),(.d T4 k.2)]),(2,.cells [N0,N0])],3⟩)],?_,?_⟩
  ·have hF := hz15
   clear hz15
   unfold f174_j5 at hF
   refine EI (.take 0 (.take 1 (.take 2 (.take 3 (.take 4 (.take 5 (.take 6 (.take 7 (.take 8 (.take 9 (.take 10 (.take 11 (.take 12 (.take 13 (.take 14 (.take 15 (.take 16 (.take 17 (.take 18 (.take 19 (.take 20 (.take 21 (.take 22 (.take 23 (.take 24 (.take 25 (.take 26 (.take 27 (.take 28 (.take 29 (.take 30 (.take 31 (.take 32 .done))))))))))))))))))))))))))))))))) (EI [] (EI [] (AI rfl (condN hF (fun hF=>?_) (fun hF=>?_)))))
   ·refine gdYF (gdYF (gdYF (condF (condN hF (fun hF=>?_) (fun hF=>?_)))))
    ·refine gdYF (gdYF (guardI hF (fun hF=>?_)))
     refine gdYF (gdYF (gdYF (gdYF (guardI hF (fun hF=>?_)))))
     refine gdYF (gdYF (condF (condN hF (fun hF=>?_) (fun hF=>?_))))
     ·refine gdYF (gdYF (guardI hF (fun hF=>?_)))
      refine gdYF (gdYF (gdYF (gdYF (guardI hF (fun hF=>?_)))))
      refine gdYF (gdYF (condF ?_))
      have hz := someE hF
      subst hz
      refine E4 [(0,some 0),(1,some 1),(2,some 2)] (R3 (AI (R3 TV) (R3 TV)))
     refine gdNF (gdNF (gdNF (gdNF (gdNF (gdNF (gdNF (gdNF (condT ?_))))))))
     have hz := someE hF
     subst hz
     refine E4 [(0,some 0),(1,some 1),(2,some 2)] (R3 (AI (R3 TV) (R3 TV)))
    refine gdNF (gdNF (gdNF (gdNF (gdNF (gdNF (gdNF (gdNF (condT (gdNF (gdNF (gdNF (gdNF (gdNF (gdNF (gdNF (gdNF (gdNF (condT ?_))))))))))))))))))
    have hz := someE hF
    subst hz
    refine E4 [(0,some 0),(1,some 1),(2,some 2)] (R3 (AI (R3 TV) (R3 TV)))
   refine gdNF (gdNF (gdNF (condT (gdNF (gdNF (gdNF (gdNF (gdNF (gdNF (gdNF (gdNF (gdNF (condT (gdNF (gdNF (gdNF (gdNF (gdNF (gdNF (gdNF (gdNF (gdNF (condT ?_)))))))))))))))))))))))
   have hz := someE hF
   subst hz
   refine E4 [(0,some 0),(1,some 1),(2,some 2)] (R3 (AI (R3 TV) (R3 TV)))
  refine AI (condI hF (fun hF=>?_) (fun hF=>?_)) TV
  ·refine OL (OL ?_)
   have hz := someE hF
   subst hz
   refine E4 [(0,some 2)] (R2 (AI (AI rfl TV) (AI rfl TV)))
  have hz := someE hF
  subst hz
  refine E4 [(0,some 0),(1,some 1),(2,some 2)] (R2 (AI (R3 TV) (R3 TV)))
 rcases z8 with z8a | z8b
 ·dsimp only [sumF] at hF
  refine AI (OL (EI (.take 0 (.take 1 (.take 2 (.take 3 (.take 4 (.take 5 (.take 6 (.take 7 (.take 8 (.take 9 (.take 10 (.take 11 (.take 12 (.take 13 (.take 14 .done))))))))))))))) (EI [] (EI [] (AI rfl (guardI hF (fun hF=>?_))))))) TV
  refine guardI hF (fun hF=>?_)
  refine guardI hF (fun hF=>?_)
  refine OL ?_
  obtain ⟨q5_14,hq5_14,hF⟩ := bindE hF
  refine OL (AI f152_in (callV0 (callI C152 ((rd (0:Int) a.1 (1:Int)),(rd (0:Int) k.1 (2:Int)),step) q5_14 [] false C152_holds hq5_14 rfl rfl (R3 (AI (fun h=>nomatch h) (R2 (AI TV (AI TV (OL (guardI hF (fun hF=>?_)))))))))))
  refine OL ?_
  obtain ⟨r16,hr16,hF⟩ := bindE hF
  refine OL (AI f153_in (callV0 (callI C153 [(rd (0:Int) k.1 (0:Int)),q5_14] r16 [] true C153_holds hr16 rfl rfl (AI rfl (AI (fun _=>rfl) (R2 (AI TV (AI TV (OL (OL (OL (condI hF (fun hF=>?_) (fun hF=>?_)))))))))))))
  ·refine OL (OL ?_)
   have hy := someE hF
   subst hy
   refine AI rfl (E4 [(0,none),(1,none)] (R2 (AI (AI rfl TV) (R2 TV))))
  refine OL (OL ?_)
  obtain ⟨z25,hz25,hF⟩ := bindE hF
  refine loopI (Int×(List Int)) (List Int) (fun x=>⟨[(2,.dat T0 step),(3,P0 0 0),(4,P0 1 0),(6,P0 2 0),(8,.dat T0 (rd (0:Int) a.1 (0:Int))),(9,.dat T0 (rd (0:Int) a.1 (1:Int))),(10,.dat T0 (rd (0:Int) k.1 (2:Int))),(11,.dat T0 q5_14),(12,P0 3 0),(101,.dat T0 (List.length r16.2.2:Int)),(102,.dat T0 x.1)],[(0,.cells [(.d T4 a.1),(.d T4 a.2)]),(1,.cells [(.d T4 k.1),(.d T4 k.2)]),(2,.cells [N0,N0]),(3,.cells [(.osl 4),(.osl 5)]),(4,.arr 3 T0 r16.2.1),(5,.arr 23 T0 x.2)],6⟩) (fun z=>[(3,⟨[(6,P0 0 0),(12,P0 1 0)],[(0,.cells [N0,N0]),(1,.cells [(.osl 2),(.osl 3)]),(2,.arr 3 T0 r16.2.1),(3,.arr 23 T0 z)],4⟩)]) (loopF (fun go x=>f174_l14 a k step q5_14 r16 go x.1 x.2)) fuelN ((0:Int),r16.2.2) z25 (AI hz25 (AI (E4 [(0,some 0),(1,some 1),(2,some 2),(3,some 6),(4,some 4),(5,some 5)] (R8 (AI (R4 TV) (R6 TV)))) (AI (fun _ _ h=>loopZ h) (AI (fun m=>curI (fun v102=>fun l5 z hF=>?_)) ?_))))
  ·have hF : f174_l14 a k step q5_14 r16 (loopF (fun go x=>f174_l14 a k step q5_14 r16 go x.1 x.2) m) v102 l5 = some z := hF
   unfold f174_l14 at hF
   refine OL (OL (condI hF (fun hF=>?_) (fun hF=>?_)))
   ·refine OL (OL (OL (EI (.take 0 (.take 1 (.take 2 (.take 3 (.take 4 (.take 5 (.take 6 (.take 7 .done)))))))) (EI [] (EI [] (AI rfl (guardI hF (fun hF=>?_))))))))
    refine guardI hF (fun hF=>?_)
    refine OL (OL (OL ?_))
    obtain ⟨z28,hz28,hF⟩ := bindE hF
    refine loopI (Int×Int×Int×Int) (Int×Int×Int) (fun x=>⟨[(2,.dat T0 step),(3,P0 0 0),(4,P0 1 0),(6,P0 2 0),(8,.dat T0 (rd (0:Int) a.1 (0:Int))),(9,.dat T0 (rd (0:Int) a.1 (1:Int))),(10,.dat T0 (rd (0:Int) k.1 (2:Int))),(11,.dat T0 q5_14),(12,P0 3 0),(14,.dat T0 v102),(15,.dat T0 (i64.wrap (Int.tdiv v102 q5_14))),(16,.dat T0 (Int.tmod v102 q5_14)),(17,P0 4 0),(101,.dat T0 (List.length r16.2.2:Int)),(102,.dat T0 v102),(111,.dat T0 (rd (0:Int) a.1 (0:Int))),(112,.dat T0 x.1)],[(0,.cells [(.d T4 a.1),(.d T4 a.2)]),(1,.cells [(.d T4 k.1),(.d T4 k.2)]),(2,.cells [N0,N0]),(3,.cells [(.osl 5),(.osl 6)]),(4,.cells [(.d T0 x.2.1),(.d T0 x.2.2.1),(.d T8 x.2.2.2)]),(5,.arr 3 T0 r16.2.1),(6,.arr 23 T0 l5)],7⟩) (fun z=>[(5,⟨[(2,.dat T0 step),(3,P0 0 0),(4,P0 1 0),(6,P0 2 0),(8,.dat T0 (rd (0:Int) a.1 (0:Int))),(9,.dat T0 (rd (0:Int) a.1 (1:Int))),(10,.dat T0 (rd (0:Int) k.1 (2:Int))),(11,.dat T0 q5_14),(12,P0 3 0),(14,.dat T0 v102),(17,P0 4 0),(101,.dat T0 (List.length r16.2.2:Int)),(102,.dat T0 v102)],[(0,.cells [(.d T4 a.1),(.d T4 a.2)]),(1,.cells [(.d T4 k.1),(.d T4 k.2)]),(2,.cells [N0,N0]),(3,.cells [(.osl 5),(.osl 6)]),(4,.cells [(.d T0 z.1),(.d T0 z.2.1),(.d T8 z.2.2)]),(5,.arr 3 T0 r16.2.1),(6,.arr 23 T0 l5)],7⟩)]) (loopF (fun go x=>f174_l17 a k step q5_14 v102 go x.1 x.2.1 x.2.2.1 x.2.2.2)) fuelN ((0:Int),(0:Int),(0:Int),(0:Int)) z28 (AI hz28 (AI (E4 [(0,some 0),(1,some 1),(2,some 2),(3,some 3),(4,some 6),(5,some 4),(6,some 5)] (R13 (AI (R5 TV) (R7 TV)))) (AI (fun _ _ h=>loopZ h) (AI (fun m=>curI (fun v112=>curI (fun c4_0=>curI (fun c4_1=>fun c4_2 z hF=>?_)))) ?_))))
    ·have hF : f174_l17 a k step q5_14 v102 (loopF (fun go x=>f174_l17 a k step q5_14 v102 go x.1 x.2.1 x.2.2.1 x.2.2.2) m) v112 c4_0 c4_1 c4_2 = some z := hF
     unfold f174_l17 at hF
     refine OL (OL (condI hF (fun hF=>?_) (fun hF=>?_)))
     ·refine OL (OL (OL ?_))
      obtain ⟨z29,hz29,hF⟩ := bindE hF
      refine loopI (Int×Int×Int×Int) (Int×Int×Int) (fun x=>⟨[(2,.dat T0 step),(3,P0 0 0),(4,P0 1 0),(6,P0 2 0),(8,.dat T0 (rd (0:Int) a.1 (0:Int))),(9,.dat T0 (rd (0:Int) a.1 (1:Int))),(10,.dat T0 (rd (0:Int) k.1 (2:Int))),(11,.dat T0 q5_14),(12,P0 3 0),(14,.dat T0 v102),(15,.dat T0 (i64.wrap (Int.tdiv v102 q5_14))),(16,.dat T0 (Int.tmod v102 q5_14)),(17,P0 4 0),(18,.dat T0 v112),(101,.dat T0 (List.length r16.2.2:Int)),(102,.dat T0 v102),(111,.dat T0 (rd (0:Int) a.1 (0:Int))),(112,.dat T0 v112),(115,.dat T0 (rd (0:Int) k.1 (2:Int))),(116,.dat T0 x.1)],[(0,.cells [(.d T4 a.1),(.d T4 a.2)]),(1,.cells [(.d T4 k.1),(.d T4 k.2)]),(2,.cells [N0,N0]),(3,.cells [(.osl 5),(.osl 6)]),(4,.cells [(.d T0 x.2.1),(.d T0 x.2.2.1),(.d T8 x.2.2.2)]),(5,.arr 3 T0 r16.2.1),(6,.arr 23 T0 l5)],7⟩) (fun z=>[(7,⟨[(2,.dat T0 step),(3,P0 0 0),(4,P0 1 0),(6,P0 2 0),(8,.dat T0 (rd (0:Int) a.1 (0:Int))),(9,.dat T0 (rd (0:Int) a.1 (1:Int))),(10,.dat T0 (rd (0:Int) k.1 (2:Int))),(11,.dat T0 q5_14),(12,P0 3 0),(14,.dat T0 v102),(15,.dat T0 (i64.wrap (Int.tdiv v102 q5_14))),(16,.dat T0 (Int.tmod v102 q5_14)),(17,P0 4 0),(101,.dat T0 (List.length r16.2.2:Int)),(102,.dat T0 v102),(111,.dat T0 (rd (0:Int) a.1 (0:Int))),(112,.dat T0 v112)],[(0,.cells [(.d T4 a.1),(.d T4 a.2)]),(1,.cells [(.d T4 k.1),(.d T4 k.2)]),(2,.cells [N0,N0]),(3,.cells [(.osl 5),(.osl 6)]),(4,.cells [(.d T0 z.1),(.d T0 z.2.1),(.d T8 z.2.2)]),(5,.arr 3 T0 r16.2.1),(6,.arr 23 T0 l5)],7⟩)]) (loopF (fun go x=>f174_l18 a k step q5_14 v102 v112 go x.1 x.2.1 x.2.2.1 x.2.2.2)) fuelN ((0:Int),c4_0,c4_1,c4_2) z29 (AI hz29 (AI (E4 [(0,some 0),(1,some 1),(2,some 2),(3,some 3),(4,some 4),(5,some 5),(6,some 6)] (R16 (AI (R5 TV) (R7 TV)))) (AI (fun _ _ h=>loopZ h) (AI (fun m=>curI (fun v116=>curI (fun c4_0_2=>curI (fun c4_1_2=>fun c4_2_2 z hF=>?_)))) ?_))))
      ·have hF : f174_l18 a k step q5_14 v102 v112 (loopF (fun go x=>f174_l18 a k step q5_14 v102 v112 go x.1 x.2.1 x.2.2.1 x.2.2.2) m) v116 c4_0_2 c4_1_2 c4_2_2 = some z := hF
       unfold f174_l18 at hF
       refine OL (OL (condI hF (fun hF=>?_) (fun hF=>?_)))
       ·refine OL (OL (EI (.take 0 (.take 1 (.take 2 (.take 3 (.take 4 (.take 5 (.take 6 (.take 7 (.take 8 (.take 9 (.take 10 (.take 11 (.take 12 (.take 13 (.take 14 (.take 15 (.take 16 (.take 17 (.take 18 (.take 19 (.take 20 (.take 21 (.take 22 (.take 23 (.take 24 (.take 25 (.alt 26 .done .done))))))))))))))))))))))))))) (EI [] (EI [] (AI rfl (guardI hF (fun hF=>?_)))))))
        refine guardI hF (fun hF=>?_)
        refine AI TV ?_
        obtain ⟨q21_26,hq21_26,hF⟩ := bindE hF
        refine OL (AI f154_in (callV0 (callI C154 (c4_0_2,c4_1_2,c4_2_2,(rd (0:Int) a.2 (i64.wrap ((i64.wrap ((i64.wrap (v112 * (rd (0:Int) a.1 (1:Int)))) + (i64.wrap ((Int.tmod v102 q5_14) * step)))) + v116))),(rd (0:Int) k.2 (i64.wrap ((i64.wrap ((i64.wrap ((i64.wrap ((i64.wrap (Int.tdiv v102 q5_14)) * (rd (0:Int) a.1 (0:Int)))) + v112)) * (rd (0:Int) k.1 (2:Int)))) + v116)))) q21_26 [(0,some 4)] false C154_holds hq21_26 rfl rfl (R2 (AI (fun h=>nomatch h) (R2 (AI (AI rfl TV) (AI (AI rfl TV) (EI ((i64.wrap (v116 + (1:Int))),q21_26.1,q21_26.2.1,q21_26.2.2) (AI hF (E4 [(0,some 0),(1,some 1),(2,some 2),(3,some 3),(4,some 4),(5,some 5),(6,some 6)] (R16 (AI (R5 TV) (R7 TV))))))))))))))
       have hz := someE hF
       subst hz
       refine E4 [(0,some 0),(1,some 1),(2,some 2),(3,some 3),(4,some 4),(5,some 5),(6,some 6)] (R13 (AI (R5 TV) (R7 TV)))
      refine AI (EI ((i64.wrap (v112 + (1:Int))),z29.1,z29.2.1,z29.2.2) (AI hF (E4 [(0,some 0),(1,some 1),(2,some 2),(3,some 3),(4,some 4),(5,some 5),(6,some 6)] (R13 (AI (R5 TV) (R7 TV)))))) TV
     have hz := someE hF
     subst hz
     refine E4 [(0,some 0),(1,some 1),(2,some 2),(3,some 3),(4,some 4),(5,some 5),(6,some 6)] (R9 (AI (R5 TV) (R7 TV)))
    refine AI (EI (.take 0 (.take 1 (.take 2 (.alt 3 (.take 4 (.alt 5 .done .done)) .done)))) (EI [] (EI [] (AI rfl (AI TV ?_))))) TV
    obtain ⟨q24_3,hq24_3,hF⟩ := bindE hF
    refine OL (AI f155_in (callV0 (callI C155 (z28.1,z28.2.1,z28.2.2,(32:Int)) q24_3 [(0,some 4)] false C155_holds hq24_3 rfl rfl (AI rfl (AI (fun h=>nomatch h) (R2 (AI (AI rfl TV) (AI (AI rfl TV) (guardI hF (fun hF=>?_))))))))))
    refine AI TV (OL (EI ((i64.wrap (v102 + (1:Int))),(List.set l5 (Int.toNat v102) q24_3.1)) (AI hF (E4 [(0,some 0),(1,some 1),(2,some 2),(3,some 3),(4,some 5),(5,some 6)] (R8 (AI (R4 TV) (R6 TV)))))))
   have hz := someE hF
   subst hz
   refine E4 [(0,some 2),(1,some 3),(2,some 4),(3,some 5)] (AI rfl (AI (R2 TV) (R4 TV)))
  refine AI (OL (OL ?_)) TV
  have hy := someE hF
  subst hy
  refine AI rfl (E4 [(0,some 2),(1,some 3)] (R2 (AI (AI rfl TV) (R2 TV))))
 dsimp only [sumF] at hF
 refine AI ?_ TV
 have hy := someE hF
 subst hy
 refine AI rfl (E4 [(0,none),(1,none)] (R2 (AI (AI rfl TV) (R2 TV))))
theorem C174_holds : C174.Holds Tryz.prog 174 := holds_of_vc tab_ok mixed (fn := Tryz.f174) (by kernel_rfl) rfl C174 (fun x y hF=>C174_vc x.1 x.2.1 x.2.2 y hF)
theorem f174_in : InP 174 := ⟨Tryz.f174,by kernel_rfl,by kernel_rfl,by kernel_rfl⟩
def f138 (op:Int) (a : (List Int)×(List Int)) (b : (List Int)×(List Int)) (k:Int) : Option (Int×(List Int)×(List Int)) :=
 bif (op == (2:Int)) then
 bindF (f90 (a.1,a.2) (b.1,b.2)) fun r1 =>
 some (r1.1,r1.2.1,r1.2.2)
 else
 bif (op == (3:Int)) then
 bindF (f173 (a.1,a.2) (b.1,b.2)) fun r2 =>
 some (r2.1,r2.2.1,r2.2.2)
 else
 bif (op == (4:Int)) then
 bindF (f109 (a.1,a.2) (b.1,b.2)) fun r3 =>
 some (r3.1,r3.2.1,r3.2.2)
 else
 bif (op == (6:Int)) then
 bindF (f143 (a.1,a.2) (b.1,b.2)) fun r4 =>
 some (r4.1,r4.2.1,r4.2.2)
 else
 bindF (f174 (a.1,a.2) (b.1,b.2) k) fun r5 =>
 some (r5.1,r5.2.1,r5.2.2)
def C138 : Con where
 X := Int×((List Int)×(List Int))×((List Int)×(List Int))×Int
 Y := Int×(List Int)×(List Int)
 e := 0
 args x := [.dat T0 x.1,.dat T7 x.2.1,.dat T7 x.2.2.1,.dat T0 x.2.2.2]
 hin x := []
 F x := f138 x.1 x.2.1 x.2.2.1 x.2.2.2
 ret y := [.raw true [(.osl 0),(.osl 1)],.dat T0 y.1]
 hout y := [(0,.arr 3 T0 y.2.1),(1,.arr 23 T0 y.2.2)]
 nout := 2
theorem C138_vc (op:Int) (a : (List Int)×(List Int)) (b : (List Int)×(List Int)) (k:Int) (y : Int×(List Int)×(List Int)) (hF : f138 op a b k = some y) : VC Tryz.f138 C138 (op,a,b,k) y := by
 unfold f138 at hF
 refine OL (OL (OL (OL (condI hF (fun hF=>?_) (fun hF=>?_)))))
 ·refine OL ?_
  obtain ⟨r1,hr1,hF⟩ := bindE hF
  refine OL (AI f90_in (callV0 (callI C90 ((a.1,a.2),(b.1,b.2)) r1 [] false C90_holds hr1 rfl rfl (R4 (AI (fun h=>nomatch h) (R2 (AI TV (AI TV (OL ?_)))))))))
  have hy := someE hF
  subst hy
  refine AI rfl (E4 [(0,some 3),(1,some 4)] (R2 (AI (AI rfl TV) (R2 TV))))
 refine OL (condI hF (fun hF=>?_) (fun hF=>?_))
 ·refine OL ?_
  obtain ⟨r2,hr2,hF⟩ := bindE hF
  refine OL (AI f173_in (callV0 (callI C173 ((a.1,a.2),(b.1,b.2)) r2 [] false C173_holds hr2 rfl rfl (R4 (AI (fun h=>nomatch h) (R2 (AI TV (AI TV (OL ?_)))))))))
  have hy := someE hF
  subst hy
  refine AI rfl (E4 [(0,some 3),(1,some 4)] (R2 (AI (AI rfl TV) (R2 TV))))
 refine OL (condI hF (fun hF=>?_) (fun hF=>?_))
 ·refine OL ?_
  obtain ⟨r3,hr3,hF⟩ := bindE hF
  refine OL (AI f109_in (callV0 (callI C109 ((a.1,a.2),(b.1,b.2)) r3 [] false C109_holds hr3 rfl rfl (R4 (AI (fun h=>nomatch h) (R2 (AI TV (AI TV (OL ?_)))))))))
  have hy := someE hF
  subst hy
  refine AI rfl (E4 [(0,some 3),(1,some 4)] (R2 (AI (AI rfl TV) (R2 TV))))
 refine OL (condI hF (fun hF=>?_) (fun hF=>?_))
 ·refine OL ?_
  obtain ⟨r4,hr4,hF⟩ := bindE hF
  refine OL (AI f143_in (callV0 (callI C143 ((a.1,a.2),(b.1,b.2)) r4 [] false C143_holds hr4 rfl rfl (R4 (AI (fun h=>nomatch h) (R2 (AI TV (AI TV (OL ?_)))))))))
  have hy := someE hF
  subst hy
  refine AI rfl (E4 [(0,some 3),(1,some 4)] (R2 (AI (AI rfl TV) (R2 TV))))
 refine OL ?_
 obtain ⟨r5,hr5,hF⟩ := bindE hF
 refine OL (AI f174_in (callV0 (callI C174 ((a.1,a.2),(b.1,b.2),k) r5 [] false C174_holds hr5 rfl rfl (R5 (AI (fun h=>nomatch h) (R2 (AI TV (AI TV (OL ?_)))))))))
 have hy := someE hF
 subst hy
 refine AI rfl (E4 [(0,some 3),(1,some 4)] (R2 (AI (AI rfl TV) (R2 TV))))
theorem C138_holds : C138.Holds Tryz.prog 138 := holds_of_vc tab_ok mixed (fn := Tryz.f138) (by kernel_rfl) rfl C138 (fun x y hF=>C138_vc x.1 x.2.1 x.2.2.1 x.2.2.2 y hF)
theorem f138_in : InP 138 := ⟨Tryz.f138,by kernel_rfl,by kernel_rfl,by kernel_rfl⟩
def f111_l1 (k:Int) (r1 : (List Int)×(List Int)) (go : (Int×(List Int)) → Option (List Int)) (v18:Int) (l2 : List Int) : Option (List Int) :=
 bif (decide (v18 < (List.length r1.2:Int))) then
 guardF (0 ≤ v18 ∧ v18 < (List.length l2:Int)) <|
 bindF (f66 (rd (0:Int) l2 v18) k) fun q7_5 =>
 guardF (0 ≤ v18 ∧ v18 < (List.length l2:Int)) <|
 go ((i64.wrap (v18 + (1:Int))),(List.set l2 (Int.toNat v18) q7_5))
 else
 some l2
def f111 (a : (List Int)×(List Int)) (k:Int) : Option (Int×(List Int)×(List Int)) :=
 bindF (f86 (a.1,a.2)) fun q7_7 =>
 bif (!q7_7) then
 some ((1:Int),[],[])
 else
 bindF (f85 (a.1,a.2)) fun r1 =>
 bindF (loopF (fun go x=>f111_l1 k r1 go x.1 x.2) fuelN ((0:Int),r1.2)) fun z2 =>
 some ((0:Int),r1.1,z2)
def C111 : Con where
 X := ((List Int)×(List Int))×Int
 Y := Int×(List Int)×(List Int)
 e := 0
 args x := [.dat T7 x.1,.dat T0 x.2]
 hin x := []
 F x := f111 x.1 x.2
 ret y := [.raw true [(.osl 0),(.osl 1)],.dat T0 y.1]
 hout y := [(0,.arr 3 T0 y.2.1),(1,.arr 23 T0 y.2.2)]
 nout := 2
theorem C111_vc (a : (List Int)×(List Int)) (k:Int) (y : Int×(List Int)×(List Int)) (hF : f111 a k = some y) : VC Tryz.f111 C111 (a,k) y := by
 unfold f111 at hF
 refine OL (OL (OL ?_))
 obtain ⟨q7_7,hq7_7,hF⟩ := bindE hF
 refine OL (AI f86_in (callV0 (callI C86 (a.1,a.2) q7_7 [] false C86_holds hq7_7 rfl rfl (R2 (AI (fun h=>nomatch h) (R2 (AI TV (AI TV (condI hF (fun hF=>?_) (fun hF=>?_))))))))))
 ·refine OL (OL ?_)
  have hy := someE hF
  subst hy
  refine AI rfl (E4 [(0,none),(1,none)] (R2 (AI (AI rfl TV) (R2 TV))))
 refine OL ?_
 obtain ⟨r1,hr1,hF⟩ := bindE hF
 refine OL (AI f85_in (callV0 (callI C85 (a.1,a.2) r1 [] false C85_holds hr1 rfl rfl (R2 (AI (fun h=>nomatch h) (R2 (AI TV (AI TV (OL (OL (OL ?_)))))))))))
 obtain ⟨z2,hz2,hF⟩ := bindE hF
 refine loopI (Int×(List Int)) (List Int) (fun x=>⟨[(1,.dat T0 k),(4,P0 0 0),(6,P0 1 0),(16,O0 2),(17,.dat T0 (List.length r1.2:Int)),(18,.dat T0 x.1)],[(0,.cells [N0,N0]),(1,.cells [(.osl 3),(.osl 2)]),(2,.arr 23 T0 x.2),(3,.arr 3 T0 r1.1)],4⟩) (fun z=>[(2,⟨[(4,P0 0 0),(6,P0 1 0)],[(0,.cells [N0,N0]),(1,.cells [(.osl 2),(.osl 3)]),(2,.arr 3 T0 r1.1),(3,.arr 23 T0 z)],4⟩)]) (loopF (fun go x=>f111_l1 k r1 go x.1 x.2)) fuelN ((0:Int),r1.2) z2 (AI hz2 (AI (E4 [(0,some 1),(1,some 4),(2,some 3),(3,some 2)] (R4 (AI (R3 TV) (R4 TV)))) (AI (fun _ _ h=>loopZ h) (AI (fun m=>curI (fun v18=>fun l2 z hF=>?_)) ?_))))
 ·have hF : f111_l1 k r1 (loopF (fun go x=>f111_l1 k r1 go x.1 x.2) m) v18 l2 = some z := hF
  unfold f111_l1 at hF
  refine OL (OL (condI hF (fun hF=>?_) (fun hF=>?_)))
  ·refine OL (OL (guardI hF (fun hF=>?_)))
   refine EI (.take 0 (.take 1 (.take 2 (.take 3 (.take 4 (.alt 5 (.take 6 (.alt 7 .done .done)) .done)))))) (EI [] (EI [] (AI rfl (AI TV ?_))))
   obtain ⟨q7_5,hq7_5,hF⟩ := bindE hF
   refine OL (AI f66_in (callV0 (callI C66 ((rd (0:Int) l2 v18),k) q7_5 [] false C66_holds hq7_5 rfl rfl (R2 (AI (fun h=>nomatch h) (R2 (AI TV (AI TV (guardI hF (fun hF=>?_))))))))))
   refine AI TV (OL (EI ((i64.wrap (v18 + (1:Int))),(List.set l2 (Int.toNat v18) q7_5)) (AI hF (E4 [(0,some 0),(1,some 1),(2,some 2),(3,some 3)] (R4 (AI (R3 TV) (R4 TV)))))))
  have hz := someE hF
  subst hz
  refine E4 [(0,some 0),(1,some 1),(2,some 3),(3,some 2)] (AI rfl (AI (R2 TV) (R4 TV)))
 refine AI (OL (OL ?_)) TV
 have hy := someE hF
 subst hy
 refine AI rfl (E4 [(0,some 2),(1,some 3)] (R2 (AI (AI rfl TV) (R2 TV))))
theorem C111_holds : C111.Holds Tryz.prog 111 := holds_of_vc tab_ok mixed (fn := Tryz.f111) (by kernel_rfl) rfl C111 (fun x y hF=>C111_vc x.1 x.2 y hF)
theorem f111_in : InP 111 := ⟨Tryz.f111,by kernel_rfl,by kernel_rfl,by kernel_rfl⟩
def f175_j3 (a : (List Int)×(List Int)) (side:Int) : Option Bool :=
 bindF (f86 (a.1,a.2)) fun r6 =>
 bif (!r6) then
 some true
 else
 bif (decide (side < (0:Int))) then
 some true
 else
 some (decide (side ≥ (List.length a.1:Int)))
def f175_j2 (a : (List Int)×(List Int)) (side:Int) : Option (Sum Unit Unit) :=
 bindF (f175_j3 a side) fun z5 =>
 bif z5 then
 some (Sum.inr ())
 else
 some (Sum.inl ())
def f175_l4 (a : (List Int)×(List Int)) (side:Int) (r7 : List Int) (go : (Int×(List (Int×Int))) → Option (List (Int×Int))) (v55:Int) (l3 : List (Int×Int)) : Option (List (Int×Int)) :=
 bif (decide (v55 < (List.length a.2:Int))) then
 guardF (0 ≤ v55 ∧ v55 < (List.length a.2:Int)) <|
 guardF (0 ≤ side ∧ side < (List.length a.1:Int)) <|
 guardF ((i64.wrap ((rd (0:Int) r7 side) * (rd (0:Int) a.1 side))) ≠ 0) <|
 guardF ((rd (0:Int) r7 side) ≠ 0) <|
 guardF (0 ≤ (i64.wrap ((i64.wrap ((i64.wrap (Int.tdiv v55 (i64.wrap ((rd (0:Int) r7 side) * (rd (0:Int) a.1 side))))) * (rd (0:Int) r7 side))) + (Int.tmod v55 (rd (0:Int) r7 side)))) ∧ (i64.wrap ((i64.wrap ((i64.wrap (Int.tdiv v55 (i64.wrap ((rd (0:Int) r7 side) * (rd (0:Int) a.1 side))))) * (rd (0:Int) r7 side))) + (Int.tmod v55 (rd (0:Int) r7 side)))) < (List.length l3:Int)) <|
 bindF (f41 (rd (0:Int) a.2 v55)) fun q10_7 =>
 bindF (f26 ((rd (Ty.z T9) l3 (i64.wrap ((i64.wrap ((i64.wrap (Int.tdiv v55 (i64.wrap ((rd (0:Int) r7 side) * (rd (0:Int) a.1 side))))) * (rd (0:Int) r7 side))) + (Int.tmod v55 (rd (0:Int) r7 side))))).1,(rd (Ty.z T9) l3 (i64.wrap ((i64.wrap ((i64.wrap (Int.tdiv v55 (i64.wrap ((rd (0:Int) r7 side) * (rd (0:Int) a.1 side))))) * (rd (0:Int) r7 side))) + (Int.tmod v55 (rd (0:Int) r7 side))))).2) (q10_7.1,q10_7.2)) fun q10_8 =>
 guardF (0 ≤ (i64.wrap ((i64.wrap ((i64.wrap (Int.tdiv v55 (i64.wrap ((rd (0:Int) r7 side) * (rd (0:Int) a.1 side))))) * (rd (0:Int) r7 side))) + (Int.tmod v55 (rd (0:Int) r7 side)))) ∧ (i64.wrap ((i64.wrap ((i64.wrap (Int.tdiv v55 (i64.wrap ((rd (0:Int) r7 side) * (rd (0:Int) a.1 side))))) * (rd (0:Int) r7 side))) + (Int.tmod v55 (rd (0:Int) r7 side)))) < (List.length l3:Int)) <|
 go ((i64.wrap (v55 + (1:Int))),(List.set l3 (Int.toNat (i64.wrap ((i64.wrap ((i64.wrap (Int.tdiv v55 (i64.wrap ((rd (0:Int) r7 side) * (rd (0:Int) a.1 side))))) * (rd (0:Int) r7 side))) + (Int.tmod v55 (rd (0:Int) r7 side))))) (q10_8.1,q10_8.2)))
 else
 some l3
def f175_l5 (z8 : List (Int×Int)) (go : (Int×(List Int)) → Option (List Int)) (v93:Int) (l4 : List Int) : Option (List Int) :=
 bif (decide (v93 < (List.length z8:Int))) then
 guardF (0 ≤ v93 ∧ v93 < (List.length z8:Int)) <|
 bindF (f133 ((rd (Ty.z T9) z8 v93).1,(rd (Ty.z T9) z8 v93).2)) fun q16_4 =>
 guardF (0 ≤ v93 ∧ v93 < (List.length l4:Int)) <|
 go ((i64.wrap (v93 + (1:Int))),(List.set l4 (Int.toNat v93) q16_4))
 else
 some l4
def f175 (a : (List Int)×(List Int)) (side:Int) : Option (Int×(List Int)×(List Int)) :=
 bindF (f175_j2 a side) fun z3 =>
 sumF z3 (fun z3a =>
 guardF (0 ≤ side ∧ side ≤ (List.length a.1:Int)) <|
 guardF (0 ≤ (i64.wrap (side + (1:Int))) ∧ (i64.wrap (side + (1:Int))) ≤ (List.length a.1:Int)) <|
 guardF ((List.length ([] : List Int) + List.length (List.take (Int.toNat side) a.1)) * 8 ≤ 140737488355328) <|
 guardF ((List.length (([] : List Int) ++ (List.take (Int.toNat side) a.1)) + List.length (List.drop (Int.toNat (i64.wrap (side + (1:Int)))) a.1)) * 8 ≤ 140737488355328) <|
 bindF (f83 ((([] : List Int) ++ (List.take (Int.toNat side) a.1)) ++ (List.drop (Int.toNat (i64.wrap (side + (1:Int)))) a.1))) fun q3_12 =>
 guardF (0 ≤ q3_12 ∧ q3_12 ≤ q3_12 ∧ Int.toNat q3_12 * 16 ≤ 140737488355328) <|
 bindF (f181 a.1) fun r7 =>
 guardF (0 ≤ side ∧ side < (List.length r7:Int)) <|
 bindF (loopF (fun go x=>f175_l4 a side r7 go x.1 x.2) fuelN ((0:Int),(List.replicate (Int.toNat q3_12) (Ty.z T9)))) fun z8 =>
 bindF (f52 ((([] : List Int) ++ (List.take (Int.toNat side) a.1)) ++ (List.drop (Int.toNat (i64.wrap (side + (1:Int)))) a.1)) (0:Int)) fun q10_10 =>
 bindF (loopF (fun go x=>f175_l5 z8 go x.1 x.2) fuelN ((0:Int),q10_10.2.2)) fun z9 =>
 some ((0:Int),q10_10.2.1,z9)) (fun z3b =>
 some ((1:Int),[],[]))
def C175 : Con where
 X := ((List Int)×(List Int))×Int
 Y := Int×(List Int)×(List Int)
 e := 0
 args x := [.dat T7 x.1,.dat T0 x.2]
 hin x := []
 F x := f175 x.1 x.2
 ret y := [.raw true [(.osl 0),(.osl 1)],.dat T0 y.1]
 hout y := [(0,.arr 3 T0 y.2.1),(1,.arr 23 T0 y.2.2)]
 nout := 2
theorem C175_vc (a : (List Int)×(List Int)) (side:Int) (y : Int×(List Int)×(List Int)) (hF : f175 a side = some y) : VC Tryz.f175 C175 (a,side) y := by
 unfold f175 at hF
 refine OL ?_
 obtain ⟨z3,hz3,hF⟩ := bindE hF
 refine OQ ⟨Sum.elim (fun z3a=>[(0,⟨[(1,.dat T0 side),(2,P0 0 0),(4,P0 1 0)],[(0,.cells [(.d T4 a.1),(.d T4 a.2)]),(1,.cells [N0,N0])],2⟩)]) (fun z3b=>[(1,⟨[(4,P0 0 0),(5,D0 1)],[(0,.cells [N0,N0])],1⟩)]) z3,?_,?_⟩
 ·have hF := hz3
  clear hz3
  unfold f175_j2 at hF
  obtain ⟨z5,hz5,hF⟩ := bindE hF
  refine OQ ⟨[(0,⟨[(1,.dat T0 side),(2,P0 0 0),(4,P0 1 0),(29,.dat .bool z5)],[(0,.cells [(.d T4 a.1),(.d T4 a.2)]),(1,.cells [N0,N0])],2⟩)],?_,?_⟩
  ·have hF := hz5
   clear hz5
   unfold f175_j3 at hF
   obtain ⟨r6,hr6,hF⟩ := bindE hF
   refine OL (AI f86_in (callV0 (callI C86 (a.1,a.2) r6 [] false C86_holds hr6 rfl rfl (R2 (AI (fun h=>nomatch h) (R2 (AI TV (AI TV (condN hF (fun hF=>?_) (fun hF=>?_))))))))))
   ·refine gdYF (condF (condN hF (fun hF=>?_) (fun hF=>?_)))
    ·refine gdYF (gdYF (gdYF (gdYF (condF ?_))))
     have hz := someE hF
     subst hz
     refine E4 [(0,some 0),(1,some 1)] (R3 (AI (R2 TV) (R2 TV)))
    refine gdNF (gdNF (gdNF (gdNF (condT ?_))))
    have hz := someE hF
    subst hz
    refine E4 [(0,some 0),(1,some 1)] (R3 (AI (R2 TV) (R2 TV)))
   refine gdNF (condT (gdNF (gdNF (gdNF (gdNF (gdNF (condT ?_)))))))
   have hz := someE hF
   subst hz
   refine E4 [(0,some 0),(1,some 1)] (R3 (AI (R2 TV) (R2 TV)))
  refine AI (condI hF (fun hF=>?_) (fun hF=>?_)) TV
  ·refine OL (OL ?_)
   have hz := someE hF
   subst hz
   refine E4 [(0,some 1)] (R2 (AI (AI rfl TV) (AI rfl TV)))
  have hz := someE hF
  subst hz
  refine E4 [(0,some 0),(1,some 1)] (R2 (AI (R2 TV) (R2 TV)))
 rcases z3 with z3a | z3b
 ·dsimp only [sumF] at hF
  refine AI (OL (EI (.take 1 (.take 2 (.take 3 (.take 4 (.take 6 (.take 7 (.take 8 (.take 9 (.take 10 (.alt 0 (.alt 5 (.alt 11 (.take 12 .done) .done) .done) .done)))))))))) (EI [] (EI [] (AI rfl (guardI hF (fun hF=>?_))))))) TV
  refine guardI hF (fun hF=>?_)
  refine AI TV (OL (AI TV (OL (guardI hF (fun hF=>?_)))))
  refine AI TV (OL (guardI hF (fun hF=>?_)))
  refine OL ?_
  obtain ⟨q3_12,hq3_12,hF⟩ := bindE hF
  refine OL (AI f83_in (callV0 (callI C83 ((([] : List Int) ++ (List.take (Int.toNat side) a.1)) ++ (List.drop (Int.toNat (i64.wrap (side + (1:Int)))) a.1)) q3_12 [] true C83_holds hq3_12 rfl rfl (AI rfl (AI (fun _=>rfl) (R2 (AI TV (AI TV (guardI hF (fun hF=>?_))))))))))
  refine OL ?_
  obtain ⟨r7,hr7,hF⟩ := bindE hF
  refine OL (AI f181_in (callV0 (callI C181 a.1 r7 [] false C181_holds hr7 rfl rfl (AI rfl (AI (fun h=>nomatch h) (R2 (AI TV (AI TV (guardI hF (fun hF=>?_))))))))))
  refine OL (OL ?_)
  obtain ⟨z8,hz8,hF⟩ := bindE hF
  refine loopI (Int×(List (Int×Int))) (List (Int×Int)) (fun x=>⟨[(1,.dat T0 side),(2,P0 0 0),(4,P0 1 0),(6,O0 2),(7,O0 3),(8,.dat T0 (rd (0:Int) r7 side)),(53,.dat T4 a.2),(54,.dat T0 (List.length a.2:Int)),(55,.dat T0 x.1)],[(0,.cells [(.d T4 a.1),(.d T4 a.2)]),(1,.cells [N0,N0]),(2,.arr 3 T0 ((([] : List Int) ++ (List.take (Int.toNat side) a.1)) ++ (List.drop (Int.toNat (i64.wrap (side + (1:Int)))) a.1))),(3,.arr 40 T9 x.2)],4⟩) (fun z=>[(2,⟨[(4,P0 0 0),(6,O0 1),(7,O0 2)],[(0,.cells [N0,N0]),(1,.arr 3 T0 ((([] : List Int) ++ (List.take (Int.toNat side) a.1)) ++ (List.drop (Int.toNat (i64.wrap (side + (1:Int)))) a.1))),(2,.arr 40 T9 z)],3⟩)]) (loopF (fun go x=>f175_l4 a side r7 go x.1 x.2)) fuelN ((0:Int),(List.replicate (Int.toNat q3_12) (Ty.z T9))) z8 (AI hz8 (AI (E4 [(0,some 0),(1,some 1),(2,some 4),(3,some 5)] (R6 (AI (R4 TV) (R4 TV)))) (AI (fun _ _ h=>loopZ h) (AI (fun m=>curI (fun v55=>fun l3 z hF=>?_)) ?_))))
  ·have hF : f175_l4 a side r7 (loopF (fun go x=>f175_l4 a side r7 go x.1 x.2) m) v55 l3 = some z := hF
   unfold f175_l4 at hF
   refine OL (OL (condI hF (fun hF=>?_) (fun hF=>?_)))
   ·refine OL (OL (guardI hF (fun hF=>?_)))
    refine OL (EI (.take 0 (.take 1 (.take 2 (.take 3 (.take 4 (.take 5 (.take 6 (.take 7 (.take 8 (.take 9 (.take 10 (.take 11 (.take 12 (.take 13 (.take 14 (.take 15 .done)))))))))))))))) (EI [] (EI [] (AI rfl (guardI hF (fun hF=>?_))))))
    refine guardI hF (fun hF=>?_)
    refine guardI hF (fun hF=>?_)
    refine EI (.take 0 (.take 1 (.take 2 (.take 3 (.take 4 (.take 5 (.take 6 (.alt 7 (.alt 8 (.take 9 (.alt 10 .done .done)) .done) .done)))))))) (EI [(10,[3])] (EI [] (AI rfl (guardI hF (fun hF=>?_)))))
    refine AI TV ?_
    obtain ⟨q10_7,hq10_7,hF⟩ := bindE hF
    refine OL (AI f41_in (callV0 (callI C41 (rd (0:Int) a.2 v55) q10_7 [] false C41_holds hq10_7 rfl rfl (AI rfl (AI (fun h=>nomatch h) (R2 (AI TV (AI TV (AI TV ?_)))))))))
    obtain ⟨q10_8,hq10_8,hF⟩ := bindE hF
    refine OL (AI f26_in (callV0 (callI C26 (((rd (Ty.z T9) l3 (i64.wrap ((i64.wrap ((i64.wrap (Int.tdiv v55 (i64.wrap ((rd (0:Int) r7 side) * (rd (0:Int) a.1 side))))) * (rd (0:Int) r7 side))) + (Int.tmod v55 (rd (0:Int) r7 side))))).1,(rd (Ty.z T9) l3 (i64.wrap ((i64.wrap ((i64.wrap (Int.tdiv v55 (i64.wrap ((rd (0:Int) r7 side) * (rd (0:Int) a.1 side))))) * (rd (0:Int) r7 side))) + (Int.tmod v55 (rd (0:Int) r7 side))))).2),(q10_7.1,q10_7.2)) q10_8 [] false C26_holds hq10_8 rfl rfl (R4 (AI (fun h=>nomatch h) (R2 (AI TV (AI TV (guardI hF (fun hF=>?_))))))))))
    refine AI TV (OL (EI ((i64.wrap (v55 + (1:Int))),(List.set l3 (Int.toNat (i64.wrap ((i64.wrap ((i64.wrap (Int.tdiv v55 (i64.wrap ((rd (0:Int) r7 side) * (rd (0:Int) a.1 side))))) * (rd (0:Int) r7 side))) + (Int.tmod v55 (rd (0:Int) r7 side))))) (q10_8.1,q10_8.2))) (AI hF (E4 [(0,some 0),(1,some 1),(2,some 2),(3,some 3)] (R6 (AI (R4 TV) (R4 TV)))))))
   have hz := someE hF
   subst hz
   refine E4 [(0,some 1),(1,some 2),(2,some 3)] (AI rfl (AI (R3 TV) (R3 TV)))
  refine AI (OL ?_) TV
  obtain ⟨q10_10,hq10_10,hF⟩ := bindE hF
  refine OL (AI f52_in (callV0 (callI C52 (((([] : List Int) ++ (List.take (Int.toNat side) a.1)) ++ (List.drop (Int.toNat (i64.wrap (side + (1:Int)))) a.1)),(0:Int)) q10_10 [] true C52_holds hq10_10 rfl rfl (R2 (AI (fun _=>rfl) (R2 (AI TV (AI TV (OL (OL (OL ?_)))))))))))
  obtain ⟨z9,hz9,hF⟩ := bindE hF
  refine loopI (Int×(List Int)) (List Int) (fun x=>⟨[(4,P0 0 0),(12,P0 1 0),(91,O0 2),(92,.dat T0 (List.length z8:Int)),(93,.dat T0 x.1)],[(0,.cells [N0,N0]),(1,.cells [(.osl 3),(.osl 4)]),(2,.arr 40 T9 z8),(3,.arr 3 T0 q10_10.2.1),(4,.arr 23 T0 x.2)],5⟩) (fun z=>[(4,⟨[(4,P0 0 0),(12,P0 1 0)],[(0,.cells [N0,N0]),(1,.cells [(.osl 2),(.osl 3)]),(2,.arr 3 T0 q10_10.2.1),(3,.arr 23 T0 z)],4⟩)]) (loopF (fun go x=>f175_l5 z8 go x.1 x.2)) fuelN ((0:Int),q10_10.2.2) z9 (AI hz9 (AI (E4 [(0,some 0),(1,some 5),(2,some 2),(3,some 3),(4,some 4)] (R3 (AI (R3 TV) (R5 TV)))) (AI (fun _ _ h=>loopZ h) (AI (fun m=>curI (fun v93=>fun l4 z hF=>?_)) ?_))))
  ·have hF : f175_l5 z8 (loopF (fun go x=>f175_l5 z8 go x.1 x.2) m) v93 l4 = some z := hF
   unfold f175_l5 at hF
   refine OL (OL (condI hF (fun hF=>?_) (fun hF=>?_)))
   ·refine OL (OL (guardI hF (fun hF=>?_)))
    refine OL (EI (.take 0 (.take 1 (.take 2 (.take 3 (.alt 4 (.take 5 (.alt 6 .done .done)) .done))))) (EI [] (EI [] (AI rfl (AI TV ?_)))))
    obtain ⟨q16_4,hq16_4,hF⟩ := bindE hF
    refine OL (AI f133_in (callV0 (callI C133 ((rd (Ty.z T9) z8 v93).1,(rd (Ty.z T9) z8 v93).2) q16_4 [] false C133_holds hq16_4 rfl rfl (R2 (AI (fun h=>nomatch h) (R2 (AI TV (AI TV (guardI hF (fun hF=>?_))))))))))
    refine AI TV (OL (EI ((i64.wrap (v93 + (1:Int))),(List.set l4 (Int.toNat v93) q16_4)) (AI hF (E4 [(0,some 0),(1,some 1),(2,some 2),(3,some 3),(4,some 4)] (R3 (AI (R3 TV) (R5 TV)))))))
   have hz := someE hF
   subst hz
   refine E4 [(0,some 0),(1,some 1),(2,some 3),(3,some 4)] (AI rfl (AI (R2 TV) (R4 TV)))
  refine AI (OL (OL ?_)) TV
  have hy := someE hF
  subst hy
  refine AI rfl (E4 [(0,some 2),(1,some 3)] (R2 (AI (AI rfl TV) (R2 TV))))
 dsimp only [sumF] at hF
 refine AI ?_ TV
 have hy := someE hF
 subst hy
 refine AI rfl (E4 [(0,none),(1,none)] (R2 (AI (AI rfl TV) (R2 TV))))
theorem C175_holds : C175.Holds Tryz.prog 175 := holds_of_vc tab_ok mixed (fn := Tryz.f175) (by kernel_rfl) rfl C175 (fun x y hF=>C175_vc x.1 x.2 y hF)
theorem f175_in : InP 175 := ⟨Tryz.f175,by kernel_rfl,by kernel_rfl,by kernel_rfl⟩
def f197_l1 (v : List Int) (go : (Int×Int×Int) → Option (Int×Int)) (v9:Int) (c1_0:Int) (c1_1:Int) : Option (Int×Int) :=
 bif (decide (v9 < (List.length v:Int))) then
 guardF (0 ≤ v9 ∧ v9 < (List.length v:Int)) <|
 bindF (f41 (rd (0:Int) v v9)) fun q5_2 =>
 bindF (f26 (c1_0,c1_1) (q5_2.1,q5_2.2)) fun q5_3 =>
 go ((i64.wrap (v9 + (1:Int))),q5_3.1,q5_3.2)
 else
 some (c1_0,c1_1)
def f197 (v : List Int) : Option (Int×Int) :=
 bindF (loopF (fun go x=>f197_l1 v go x.1 x.2.1 x.2.2) fuelN ((0:Int),(0:Int),(0:Int))) fun z1 =>
 some (z1.1,z1.2)
def C197 : Con where
 X := List Int
 Y := Int×Int
 e := 0
 args x := [.dat T4 x]
 hin x := []
 F x := f197 x
 ret y := [.raw true [(.d T0 y.1),(.d T8 y.2)]]
 hout y := []
 nout := 0
theorem C197_vc (v : List Int) (y : Int×Int) (hF : f197 v = some y) : VC Tryz.f197 C197 v y := by
 unfold f197 at hF
 refine OL (OL (OL (OL (OL ?_))))
 obtain ⟨z1,hz1,hF⟩ := bindE hF
 refine loopI (Int×Int×Int) (Int×Int) (fun x=>⟨[(2,P0 0 0),(3,P0 1 0),(7,.dat T4 v),(8,.dat T0 (List.length v:Int)),(9,.dat T0 x.1)],[(0,.cells [(.d T0 (0:Int)),(.d T8 (0:Int))]),(1,.cells [(.d T0 x.2.1),(.d T8 x.2.2)])],2⟩) (fun z=>[(2,⟨[(2,P0 0 0),(3,P0 1 0)],[(0,.cells [(.d T0 (0:Int)),(.d T8 (0:Int))]),(1,.cells [(.d T0 z.1),(.d T8 z.2)])],2⟩)]) (loopF (fun go x=>f197_l1 v go x.1 x.2.1 x.2.2)) fuelN ((0:Int),(0:Int),(0:Int)) z1 (AI hz1 (AI (E4 [(0,some 0),(1,some 1)] (R4 (AI (R2 TV) (R2 TV)))) (AI (fun _ _ h=>loopZ h) (AI (fun m=>curI (fun v9=>curI (fun c1_0=>fun c1_1 z hF=>?_))) ?_))))
 ·have hF : f197_l1 v (loopF (fun go x=>f197_l1 v go x.1 x.2.1 x.2.2) m) v9 c1_0 c1_1 = some z := hF
  unfold f197_l1 at hF
  refine OL (OL (condI hF (fun hF=>?_) (fun hF=>?_)))
  ·refine OL (OL (guardI hF (fun hF=>?_)))
   refine EI (.take 0 (.take 1 (.alt 2 (.alt 3 (.alt 4 .done .done) .done) .done))) (EI [(4,[1])] (EI [] (AI rfl (AI TV ?_))))
   obtain ⟨q5_2,hq5_2,hF⟩ := bindE hF
   refine OL (AI f41_in (callV0 (callI C41 (rd (0:Int) v v9) q5_2 [] false C41_holds hq5_2 rfl rfl (AI rfl (AI (fun h=>nomatch h) (R2 (AI TV (AI TV (AI TV ?_)))))))))
   obtain ⟨q5_3,hq5_3,hF⟩ := bindE hF
   refine OL (AI f26_in (callV0 (callI C26 ((c1_0,c1_1),(q5_2.1,q5_2.2)) q5_3 [] false C26_holds hq5_3 rfl rfl (R4 (AI (fun h=>nomatch h) (R2 (AI TV (AI TV (AI TV (OL (EI ((i64.wrap (v9 + (1:Int))),q5_3.1,q5_3.2) (AI hF (E4 [(0,some 0),(1,some 1)] (R4 (AI (R2 TV) (R2 TV))))))))))))))))
  have hz := someE hF
  subst hz
  refine E4 [(0,some 0),(1,some 1)] (AI rfl (AI (R2 TV) (R2 TV)))
 refine AI (OL (OL ?_)) TV
 have hy := someE hF
 subst hy
 refine AI rfl (E4 [] (AI rfl (AI (AI rfl TV) TV)))
theorem C197_holds : C197.Holds Tryz.prog 197 := holds_of_vc tab_ok mixed (fn := Tryz.f197) (by kernel_rfl) rfl C197 (fun x y hF=>C197_vc x y hF)
theorem f197_in : InP 197 := ⟨Tryz.f197,by kernel_rfl,by kernel_rfl,by kernel_rfl⟩
def f177 (a : (List Int)×(List Int)) : Option (Int×Int) :=
 bindF (f86 (a.1,a.2)) fun r1 =>
 bif (!r1) then
 some ((0:Int),(1:Int))
 else
 bindF (f197 a.2) fun r2 =>
 bindF (f133 (r2.1,r2.2)) fun r3 =>
 some (r3,(0:Int))
def C177 : Con where
 X := (List Int)×(List Int)
 Y := Int×Int
 e := 0
 args x := [.dat T7 x]
 hin x := []
 F x := f177 x
 ret y := [.dat T0 y.1,.dat T0 y.2]
 hout y := []
 nout := 0
theorem C177_vc (a : (List Int)×(List Int)) (y : Int×Int) (hF : f177 a = some y) : VC Tryz.f177 C177 a y := by
 unfold f177 at hF
 refine OL (OL (OL ?_))
 obtain ⟨r1,hr1,hF⟩ := bindE hF
 refine OL (AI f86_in (callV0 (callI C86 (a.1,a.2) r1 [] false C86_holds hr1 rfl rfl (R2 (AI (fun h=>nomatch h) (R2 (AI TV (AI TV (condI hF (fun hF=>?_) (fun hF=>?_))))))))))
 ·refine OL ?_
  have hy := someE hF
  subst hy
  refine AI rfl (E4 [] (R3 (AI TV TV)))
 refine OL ?_
 obtain ⟨r2,hr2,hF⟩ := bindE hF
 refine OL (AI f197_in (callV0 (callI C197 a.2 r2 [] false C197_holds hr2 rfl rfl (AI rfl (AI (fun h=>nomatch h) (R2 (AI TV (AI TV ?_))))))))
 obtain ⟨r3,hr3,hF⟩ := bindE hF
 refine OL (AI f133_in (callV0 (callI C133 (r2.1,r2.2) r3 [] false C133_holds hr3 rfl rfl (R2 (AI (fun h=>nomatch h) (R2 (AI TV (AI TV ?_))))))))
 have hy := someE hF
 subst hy
 refine AI rfl (E4 [] (R3 (AI TV TV)))
theorem C177_holds : C177.Holds Tryz.prog 177 := holds_of_vc tab_ok mixed (fn := Tryz.f177) (by kernel_rfl) rfl C177 (fun x y hF=>C177_vc x y hF)
theorem f177_in : InP 177 := ⟨Tryz.f177,by kernel_rfl,by kernel_rfl,by kernel_rfl⟩
def f176 (x_:Int) (e:Int) : Option (Int×(List Int)×(List Int)) :=
 bif (e != (0:Int)) then
 some (e,[],[])
 else
 bindF (f52 ([]) x_) fun r1 =>
 some (r1.1,r1.2.1,r1.2.2)
def C176 : Con where
 X := Int×Int
 Y := Int×(List Int)×(List Int)
 e := 0
 args x := [.dat T0 x.1,.dat T0 x.2]
 hin x := []
 F x := f176 x.1 x.2
 ret y := [.raw true [(.osl 0),(.osl 1)],.dat T0 y.1]
 hout y := [(0,.arr 3 T0 y.2.1),(1,.arr 23 T0 y.2.2)]
 nout := 2
theorem C176_vc (x_:Int) (e:Int) (y : Int×(List Int)×(List Int)) (hF : f176 x_ e = some y) : VC Tryz.f176 C176 (x_,e) y := by
 unfold f176 at hF
 refine OL (OL (OL (condI hF (fun hF=>?_) (fun hF=>?_))))
 ·refine OL (OL ?_)
  have hy := someE hF
  subst hy
  refine AI rfl (E4 [(0,none),(1,none)] (R2 (AI (AI rfl TV) (R2 TV))))
 refine OL ?_
 obtain ⟨r1,hr1,hF⟩ := bindE hF
 refine OL (AI f52_in (callV0 (callI C52 ([],x_) r1 [] false C52_holds hr1 rfl rfl (R2 (AI (fun h=>nomatch h) (R2 (AI TV (AI TV (OL ?_)))))))))
 have hy := someE hF
 subst hy
 refine AI rfl (E4 [(0,some 1),(1,some 2)] (R2 (AI (AI rfl TV) (R2 TV))))
theorem C176_holds : C176.Holds Tryz.prog 176 := holds_of_vc tab_ok mixed (fn := Tryz.f176) (by kernel_rfl) rfl C176 (fun x y hF=>C176_vc x.1 x.2 y hF)
theorem f176_in : InP 176 := ⟨Tryz.f176,by kernel_rfl,by kernel_rfl,by kernel_rfl⟩
def f129_j1 (a : Int×Int) (b : Int×Int) : Option Bool :=
 bif (decide (a.1 < b.1)) then
 some true
 else
 bif (a.1 == b.1) then
 some (decide (a.2 < b.2))
 else
 some false
def f129 (a : Int×Int) (b : Int×Int) : Option Int :=
 bindF (f129_j1 a b) fun z1 =>
 bif z1 then
 some (-1:Int)
 else
 bif (a.1 == b.1 && a.2 == b.2) then
 some (0:Int)
 else
 some (1:Int)
def C129 : Con where
 X := (Int×Int)×(Int×Int)
 Y := Int
 e := 0
 args x := [.dat T9 x.1,.dat T9 x.2]
 hin x := []
 F x := f129 x.1 x.2
 ret y := [.dat T0 y]
 hout y := []
 nout := 0
theorem C129_vc (a : Int×Int) (b : Int×Int) (y:Int) (hF : f129 a b = some y) : VC Tryz.f129 C129 (a,b) y := by
 unfold f129 at hF
 refine OL (OL ?_)
 obtain ⟨z1,hz1,hF⟩ := bindE hF
 refine OQ ⟨[(0,⟨[(2,P0 0 0),(3,P0 1 0),(5,.dat .bool z1)],[(0,.cells [(.d T0 a.1),(.d T8 a.2)]),(1,.cells [(.d T0 b.1),(.d T8 b.2)])],2⟩)],?_,?_⟩
 ·have hF := hz1
  clear hz1
  unfold f129_j1 at hF
  refine condN hF (fun hF=>?_) (fun hF=>?_)
  ·refine gdYF (gdYF (gdYF (gdYF (gdYF (condI hF (fun hF=>?_) (fun hF=>?_))))))
   ·refine gdYT (gdYT (gdYT (gdYT (gdYF (condT (condF ?_))))))
    have hz := someE hF
    subst hz
    refine E4 [(0,some 0),(1,some 1)] (R2 (AI (R2 TV) (R2 TV)))
   refine gdNT (gdNT (gdNT (gdNT (gdYF (condF (condF ?_))))))
   have hz := someE hF
   subst hz
   refine E4 [(0,some 0),(1,some 1)] (R2 (AI (R2 TV) (R2 TV)))
  refine gdNF (gdNF (gdNF (gdNF (gdNF (gdNF (condT ?_))))))
  have hz := someE hF
  subst hz
  refine E4 [(0,some 0),(1,some 1)] (R2 (AI (R2 TV) (R2 TV)))
 refine AI (condI hF (fun hF=>?_) (fun hF=>?_)) TV
 ·refine OL ?_
  have hy := someE hF
  subst hy
  refine AI rfl (E4 [] (R2 (AI TV TV)))
 refine OL (AI ⟨by kernel_rfl,by kernel_rfl,by decide,by decide⟩ ?_)
 refine condI hF (fun hF=>?_) (fun hF=>?_)
 ·refine OL ?_
  have hy := someE hF
  subst hy
  refine AI rfl (E4 [] (R2 (AI TV TV)))
 refine OL ?_
 have hy := someE hF
 subst hy
 refine AI rfl (E4 [] (R2 (AI TV TV)))
theorem C129_holds : C129.Holds Tryz.prog 129 := holds_of_vc tab_ok mixed (fn := Tryz.f129) (by kernel_rfl) rfl C129 (fun x y hF=>C129_vc x.1 x.2 y hF)
theorem f129_in : InP 129 := ⟨Tryz.f129,by kernel_rfl,by kernel_rfl,by kernel_rfl⟩
def f195_s1 : ByteArray := ⟨⟨[0,1,2,2,3,3,3,3,4,4,4,4,4,4,4,4,5,5,5,5,5,5,5,5,5,5,5,5,5,5,5,5,6,6,6,6,6,6,6,6,6,6,6,6,6,6,6,6,6,6,6,6,6,6,6,6,6,6,6,6,6,6,6,6,7,7,7,7,7,7,7,7,7,7,7,7,7,7,7,7,7,7,7,7,7,7,7,7,7,7,7,7,7,7,7,7,7,7,7,7,7,7,7,7,7,7,7,7,7,7,7,7,7,7,7,7,7,7,7,7,7,7,7,7,7,7,7,7,8,8,8,8,8,8,8,8,8,8,8,8,8,8,8,8,8,8,8,8,8,8,8,8,8,8,8,8,8,8,8,8,8,8,8,8,8,8,8,8,8,8,8,8,8,8,8,8,8,8,8,8,8,8,8,8,8,8,8,8,8,8,8,8,8,8,8,8,8,8,8,8,8,8,8,8,8,8,8,8,8,8,8,8,8,8,8,8,8,8,8,8,8,8,8,8,8,8,8,8,8,8,8,8,8,8,8,8,8,8,8,8,8,8,8,8,8,8,8,8,8,8,8,8,8,8,8,8]⟩⟩
def f195_j1 (x_:Int) : Option (Int×Int) :=
 bif (decide (x_ ≥ (4294967296:Int))) then
 some ((Int.fdiv x_ (2 ^ min (Int.toNat (32:Int)) (IntKind.bits IntKind.u64))),(32:Int))
 else
 some (x_,(0:Int))
def f195_j2 (z1 : Int×Int) : Option (Int×Int) :=
 bif (decide (z1.1 ≥ (65536:Int))) then
 some ((Int.fdiv z1.1 (2 ^ min (Int.toNat (16:Int)) (IntKind.bits IntKind.u64))),(i64.wrap (z1.2 + (16:Int))))
 else
 some (z1.1,z1.2)
def f195_j3 (z2 : Int×Int) : Option (Int×Int) :=
 bif (decide (z2.1 ≥ (256:Int))) then
 some ((Int.fdiv z2.1 (2 ^ min (Int.toNat (8:Int)) (IntKind.bits IntKind.u64))),(i64.wrap (z2.2 + (8:Int))))
 else
 some (z2.1,z2.2)
def f195 (x_:Int) : Option Int :=
 bindF (f195_j1 x_) fun z1 =>
 bindF (f195_j2 z1) fun z2 =>
 bindF (f195_j3 z2) fun z3 =>
 guardF (0 ≤ (u8.wrap z3.1) ∧ (u8.wrap z3.1) < (ByteArray.size f195_s1:Int)) <|
 some (i64.wrap (z3.2 + (i64.wrap (bt f195_s1 (u8.wrap z3.1)))))
def C195 : Con where
 X := Int
 Y := Int
 e := 0
 args x := [.dat T8 x]
 hin x := []
 F x := f195 x
 ret y := [.dat T0 y]
 hout y := []
 nout := 0
theorem C195_vc (x_:Int) (y:Int) (hF : f195 x_ = some y) : VC Tryz.f195 C195 x_ y := by
 unfold f195 at hF
 refine OL ?_
 obtain ⟨z1,hz1,hF⟩ := bindE hF
 refine OQ ⟨[(0,⟨[(0,.dat T8 z1.1),(2,.dat T0 z1.2)],[],0⟩)],?_,?_⟩
 ·have hF := hz1
  clear hz1
  unfold f195_j1 at hF
  refine OL (condI hF (fun hF=>?_) (fun hF=>?_))
  ·refine OL (AI (by decide) ?_)
   have hz := someE hF
   subst hz
   refine E4 [] (R3 (AI TV TV))
  have hz := someE hF
  subst hz
  refine E4 [] (R3 (AI TV TV))
 refine AI ?_ TV
 obtain ⟨z2,hz2,hF⟩ := bindE hF
 refine OQ ⟨[(0,⟨[(0,.dat T8 z2.1),(2,.dat T0 z2.2)],[],0⟩)],?_,?_⟩
 ·have hF := hz2
  clear hz2
  unfold f195_j2 at hF
  refine OL (condI hF (fun hF=>?_) (fun hF=>?_))
  ·refine OL (AI (by decide) ?_)
   have hz := someE hF
   subst hz
   refine E4 [] (R3 (AI TV TV))
  have hz := someE hF
  subst hz
  refine E4 [] (R3 (AI TV TV))
 refine AI ?_ TV
 obtain ⟨z3,hz3,hF⟩ := bindE hF
 refine OQ ⟨[(0,⟨[(0,.dat T8 z3.1),(2,.dat T0 z3.2)],[],0⟩)],?_,?_⟩
 ·have hF := hz3
  clear hz3
  unfold f195_j3 at hF
  refine OL (condI hF (fun hF=>?_) (fun hF=>?_))
  ·refine OL (AI (by decide) ?_)
   have hz := someE hF
   subst hz
   refine E4 [] (R3 (AI TV TV))
  have hz := someE hF
  subst hz
  refine E4 [] (R3 (AI TV TV))
 refine AI (OL (guardI hF (fun hF=>?_))) TV
 have hy := someE hF
 subst hy
 refine AI rfl (E4 [] (R2 (AI TV TV)))
theorem C195_holds : C195.Holds Tryz.prog 195 := holds_of_vc tab_ok mixed (fn := Tryz.f195) (by kernel_rfl) rfl C195 (fun x y hF=>C195_vc x y hF)
theorem f195_in : InP 195 := ⟨Tryz.f195,by kernel_rfl,by kernel_rfl,by kernel_rfl⟩
def f171 (x_:Int) : Option Int :=
 bindF (f195 x_) fun r1 =>
 some (i64.wrap ((64:Int) - r1))
def C171 : Con where
 X := Int
 Y := Int
 e := 0
 args x := [.dat T8 x]
 hin x := []
 F x := f171 x
 ret y := [.dat T0 y]
 hout y := []
 nout := 0
theorem C171_vc (x_:Int) (y:Int) (hF : f171 x_ = some y) : VC Tryz.f171 C171 x_ y := by
 unfold f171 at hF
 refine OL (OL ?_)
 obtain ⟨r1,hr1,hF⟩ := bindE hF
 refine OL (AI f195_in (callV0 (callI C195 x_ r1 [] false C195_holds hr1 rfl rfl (AI rfl (AI (fun h=>nomatch h) (R2 (AI TV (AI TV ?_))))))))
 have hy := someE hF
 subst hy
 refine AI rfl (E4 [] (R2 (AI TV TV)))
theorem C171_holds : C171.Holds Tryz.prog 171 := holds_of_vc tab_ok mixed (fn := Tryz.f171) (by kernel_rfl) rfl C171 (fun x y hF=>C171_vc x y hF)
theorem f171_in : InP 171 := ⟨Tryz.f171,by kernel_rfl,by kernel_rfl,by kernel_rfl⟩
def f132_j4 (lo:Int) (y_:Int) (q6_7:Int) (q1:Int) (rhat:Int) : Option (Sum Unit Unit) :=
 bif (decide (q1 ≥ (4294967296:Int))) then
 some (Sum.inl ())
 else
 bif (decide ((u64.wrap (q1 * (bitsOf IntKind.u64 (fun p q=>p &&& q) (u64.wrap (y_ * 2 ^ min (Int.toNat (u64.wrap q6_7)) (IntKind.bits IntKind.u64))) (4294967295:Int)))) > (u64.wrap ((u64.wrap ((4294967296:Int) * rhat)) + (Int.fdiv (u64.wrap (lo * 2 ^ min (Int.toNat (u64.wrap q6_7)) (IntKind.bits IntKind.u64))) (2 ^ min (Int.toNat (32:Int)) (IntKind.bits IntKind.u64))))))) then
 some (Sum.inl ())
 else
 some (Sum.inr ())
def f132_l3 (lo:Int) (y_:Int) (q6_7:Int) (go : (Int×Int) → Option Int) (q1:Int) (rhat:Int) : Option Int :=
 bindF (f132_j4 lo y_ q6_7 q1 rhat) fun z4 =>
 sumF z4 (fun z4a =>
 bif (decide ((u64.wrap (rhat + (Int.fdiv (u64.wrap (y_ * 2 ^ min (Int.toNat (u64.wrap q6_7)) (IntKind.bits IntKind.u64))) (2 ^ min (Int.toNat (32:Int)) (IntKind.bits IntKind.u64))))) ≥ (4294967296:Int))) then
 some (u64.wrap (q1 - (1:Int)))
 else
 go ((u64.wrap (q1 - (1:Int))),(u64.wrap (rhat + (Int.fdiv (u64.wrap (y_ * 2 ^ min (Int.toNat (u64.wrap q6_7)) (IntKind.bits IntKind.u64))) (2 ^ min (Int.toNat (32:Int)) (IntKind.bits IntKind.u64))))))) (fun z4b =>
 some q1)
def f132_j8 (lo:Int) (y_:Int) (q6_7:Int) (rhat:Int) (q0:Int) : Option (Sum Unit Unit) :=
 bif (decide (q0 ≥ (4294967296:Int))) then
 some (Sum.inl ())
 else
 bif (decide ((u64.wrap (q0 * (bitsOf IntKind.u64 (fun p q=>p &&& q) (u64.wrap (y_ * 2 ^ min (Int.toNat (u64.wrap q6_7)) (IntKind.bits IntKind.u64))) (4294967295:Int)))) > (u64.wrap ((u64.wrap ((4294967296:Int) * rhat)) + (bitsOf IntKind.u64 (fun p q=>p &&& q) (u64.wrap (lo * 2 ^ min (Int.toNat (u64.wrap q6_7)) (IntKind.bits IntKind.u64))) (4294967295:Int)))))) then
 some (Sum.inl ())
 else
 some (Sum.inr ())
def f132_l7 (lo:Int) (y_:Int) (q6_7:Int) (go : (Int×Int) → Option Int) (rhat:Int) (q0:Int) : Option Int :=
 bindF (f132_j8 lo y_ q6_7 rhat q0) fun z8 =>
 sumF z8 (fun z8a =>
 bif (decide ((u64.wrap (rhat + (Int.fdiv (u64.wrap (y_ * 2 ^ min (Int.toNat (u64.wrap q6_7)) (IntKind.bits IntKind.u64))) (2 ^ min (Int.toNat (32:Int)) (IntKind.bits IntKind.u64))))) ≥ (4294967296:Int))) then
 some (u64.wrap (q0 - (1:Int)))
 else
 go ((u64.wrap (rhat + (Int.fdiv (u64.wrap (y_ * 2 ^ min (Int.toNat (u64.wrap q6_7)) (IntKind.bits IntKind.u64))) (2 ^ min (Int.toNat (32:Int)) (IntKind.bits IntKind.u64))))),(u64.wrap (q0 - (1:Int))))) (fun z8b =>
 some q0)
def f132 (hi:Int) (lo:Int) (y_:Int) : Option (Int×Int) :=
 bif (y_ == (0:Int)) then
 none
 else
 bif (decide (y_ ≤ hi)) then
 none
 else
 bif (hi == (0:Int)) then
 guardF (y_ ≠ 0) <|
 guardF (y_ ≠ 0) <|
 some ((u64.wrap (Int.tdiv lo y_)),(Int.tmod lo y_))
 else
 bindF (f171 y_) fun q6_7 =>
 guardF (0 ≤ (u64.wrap q6_7)) <|
 guardF (0 ≤ (u64.wrap q6_7)) <|
 guardF (0 ≤ (u64.wrap ((64:Int) - (u64.wrap q6_7)))) <|
 guardF (0 ≤ (u64.wrap q6_7)) <|
 guardF ((Int.fdiv (u64.wrap (y_ * 2 ^ min (Int.toNat (u64.wrap q6_7)) (IntKind.bits IntKind.u64))) (2 ^ min (Int.toNat (32:Int)) (IntKind.bits IntKind.u64))) ≠ 0) <|
 bindF (loopF (fun go x=>f132_l3 lo y_ q6_7 go x.1 x.2) fuelN ((u64.wrap (Int.tdiv (bitsOf IntKind.u64 (fun p q=>p ||| q) (u64.wrap (hi * 2 ^ min (Int.toNat (u64.wrap q6_7)) (IntKind.bits IntKind.u64))) (Int.fdiv lo (2 ^ min (Int.toNat (u64.wrap ((64:Int) - (u64.wrap q6_7)))) (IntKind.bits IntKind.u64)))) (Int.fdiv (u64.wrap (y_ * 2 ^ min (Int.toNat (u64.wrap q6_7)) (IntKind.bits IntKind.u64))) (2 ^ min (Int.toNat (32:Int)) (IntKind.bits IntKind.u64))))),(u64.wrap ((bitsOf IntKind.u64 (fun p q=>p ||| q) (u64.wrap (hi * 2 ^ min (Int.toNat (u64.wrap q6_7)) (IntKind.bits IntKind.u64))) (Int.fdiv lo (2 ^ min (Int.toNat (u64.wrap ((64:Int) - (u64.wrap q6_7)))) (IntKind.bits IntKind.u64)))) - (u64.wrap ((u64.wrap (Int.tdiv (bitsOf IntKind.u64 (fun p q=>p ||| q) (u64.wrap (hi * 2 ^ min (Int.toNat (u64.wrap q6_7)) (IntKind.bits IntKind.u64))) (Int.fdiv lo (2 ^ min (Int.toNat (u64.wrap ((64:Int) - (u64.wrap q6_7)))) (IntKind.bits IntKind.u64)))) (Int.fdiv (u64.wrap (y_ * 2 ^ min (Int.toNat (u64.wrap q6_7)) (IntKind.bits IntKind.u64))) (2 ^ min (Int.toNat (32:Int)) (IntKind.bits IntKind.u64))))) * (Int.fdiv (u64.wrap (y_ * 2 ^ min (Int.toNat (u64.wrap q6_7)) (IntKind.bits IntKind.u64))) (2 ^ min (Int.toNat (32:Int)) (IntKind.bits IntKind.u64))))))))) fun z3 =>
 guardF ((Int.fdiv (u64.wrap (y_ * 2 ^ min (Int.toNat (u64.wrap q6_7)) (IntKind.bits IntKind.u64))) (2 ^ min (Int.toNat (32:Int)) (IntKind.bits IntKind.u64))) ≠ 0) <|
 bindF (loopF (fun go x=>f132_l7 lo y_ q6_7 go x.1 x.2) fuelN ((u64.wrap ((u64.wrap ((u64.wrap ((u64.wrap ((bitsOf IntKind.u64 (fun p q=>p ||| q) (u64.wrap (hi * 2 ^ min (Int.toNat (u64.wrap q6_7)) (IntKind.bits IntKind.u64))) (Int.fdiv lo (2 ^ min (Int.toNat (u64.wrap ((64:Int) - (u64.wrap q6_7)))) (IntKind.bits IntKind.u64)))) * (4294967296:Int))) + (Int.fdiv (u64.wrap (lo * 2 ^ min (Int.toNat (u64.wrap q6_7)) (IntKind.bits IntKind.u64))) (2 ^ min (Int.toNat (32:Int)) (IntKind.bits IntKind.u64))))) - (u64.wrap (z3 * (u64.wrap (y_ * 2 ^ min (Int.toNat (u64.wrap q6_7)) (IntKind.bits IntKind.u64))))))) - (u64.wrap ((u64.wrap (Int.tdiv (u64.wrap ((u64.wrap ((u64.wrap ((bitsOf IntKind.u64 (fun p q=>p ||| q) (u64.wrap (hi * 2 ^ min (Int.toNat (u64.wrap q6_7)) (IntKind.bits IntKind.u64))) (Int.fdiv lo (2 ^ min (Int.toNat (u64.wrap ((64:Int) - (u64.wrap q6_7)))) (IntKind.bits IntKind.u64)))) * (4294967296:Int))) + (Int.fdiv (u64.wrap (lo * 2 ^ min (Int.toNat (u64.wrap q6_7)) (IntKind.bits IntKind.u64))) (2 ^ min (Int.toNat (32:Int)) (IntKind.bits IntKind.u64))))) - (u64.wrap (z3 * (u64.wrap (y_ * 2 ^ min (Int.toNat (u64.wrap q6_7)) (IntKind.bits IntKind.u64))))))) (Int.fdiv (u64.wrap (y_ * 2 ^ min (Int.toNat (u64.wrap q6_7)) (IntKind.bits IntKind.u64))) (2 ^ min (Int.toNat (32:Int)) (IntKind.bits IntKind.u64))))) * (Int.fdiv (u64.wrap (y_ * 2 ^ min (Int.toNat (u64.wrap q6_7)) (IntKind.bits IntKind.u64))) (2 ^ min (Int.toNat (32:Int)) (IntKind.bits IntKind.u64))))))),(u64.wrap (Int.tdiv (u64.wrap ((u64.wrap ((u64.wrap ((bitsOf IntKind.u64 (fun p q=>p ||| q) (u64.wrap (hi * 2 ^ min (Int.toNat (u64.wrap q6_7)) (IntKind.bits IntKind.u64))) (Int.fdiv lo (2 ^ min (Int.toNat (u64.wrap ((64:Int) - (u64.wrap q6_7)))) (IntKind.bits IntKind.u64)))) * (4294967296:Int))) + (Int.fdiv (u64.wrap (lo * 2 ^ min (Int.toNat (u64.wrap q6_7)) (IntKind.bits IntKind.u64))) (2 ^ min (Int.toNat (32:Int)) (IntKind.bits IntKind.u64))))) - (u64.wrap (z3 * (u64.wrap (y_ * 2 ^ min (Int.toNat (u64.wrap q6_7)) (IntKind.bits IntKind.u64))))))) (Int.fdiv (u64.wrap (y_ * 2 ^ min (Int.toNat (u64.wrap q6_7)) (IntKind.bits IntKind.u64))) (2 ^ min (Int.toNat (32:Int)) (IntKind.bits IntKind.u64))))))) fun z7 =>
 guardF (0 ≤ (u64.wrap q6_7)) <|
 some ((u64.wrap ((u64.wrap (z3 * (4294967296:Int))) + z7)),(Int.fdiv (u64.wrap ((u64.wrap ((u64.wrap ((u64.wrap ((u64.wrap ((u64.wrap ((bitsOf IntKind.u64 (fun p q=>p ||| q) (u64.wrap (hi * 2 ^ min (Int.toNat (u64.wrap q6_7)) (IntKind.bits IntKind.u64))) (Int.fdiv lo (2 ^ min (Int.toNat (u64.wrap ((64:Int) - (u64.wrap q6_7)))) (IntKind.bits IntKind.u64)))) * (4294967296:Int))) + (Int.fdiv (u64.wrap (lo * 2 ^ min (Int.toNat (u64.wrap q6_7)) (IntKind.bits IntKind.u64))) (2 ^ min (Int.toNat (32:Int)) (IntKind.bits IntKind.u64))))) - (u64.wrap (z3 * (u64.wrap (y_ * 2 ^ min (Int.toNat (u64.wrap q6_7)) (IntKind.bits IntKind.u64))))))) * (4294967296:Int))) + (bitsOf IntKind.u64 (fun p q=>p &&& q) (u64.wrap (lo * 2 ^ min (Int.toNat (u64.wrap q6_7)) (IntKind.bits IntKind.u64))) (4294967295:Int)))) - (u64.wrap (z7 * (u64.wrap (y_ * 2 ^ min (Int.toNat (u64.wrap q6_7)) (IntKind.bits IntKind.u64))))))) (2 ^ min (Int.toNat (u64.wrap q6_7)) (IntKind.bits IntKind.u64))))
def C132 : Con where
 X := Int×Int×Int
 Y := Int×Int
 e := 0
 args x := [.dat T8 x.1,.dat T8 x.2.1,.dat T8 x.2.2]
 hin x := []
 F x := f132 x.1 x.2.1 x.2.2
 ret y := [.dat T8 y.1,.dat T8 y.2]
 hout y := []
 nout := 0
theorem C132_vc (hi:Int) (lo:Int) (y_:Int) (y : Int×Int) (hF : f132 hi lo y_ = some y) : VC Tryz.f132 C132 (hi,lo,y_) y := by
 unfold f132 at hF
 refine OL (OL (OL (condI hF (fun hF=>?_) (fun hF=>?_))))
 ·exact nomatch hF
 refine OL (OL (condI hF (fun hF=>?_) (fun hF=>?_)))
 ·exact nomatch hF
 refine OL (OL (condI hF (fun hF=>?_) (fun hF=>?_)))
 ·refine OL (EI (.take 0 (.take 1 (.take 2 (.take 3 (.take 4 (.take 5 (.take 6 (.take 7 .done)))))))) (EI [] (EI [] (AI rfl (guardI hF (fun hF=>?_))))))
  refine guardI hF (fun hF=>?_)
  have hy := someE hF
  subst hy
  refine AI rfl (E4 [] (R3 (AI TV TV)))
 refine OL ?_
 obtain ⟨q6_7,hq6_7,hF⟩ := bindE hF
 refine OL (AI f171_in (callV0 (callI C171 y_ q6_7 [] false C171_holds hq6_7 rfl rfl (AI rfl (AI (fun h=>nomatch h) (R2 (AI TV (AI TV (OL (guardI hF (fun hF=>?_)))))))))))
 refine OL (AI (by decide) (OL (OL (guardI hF (fun hF=>?_)))))
 refine guardI hF (fun hF=>?_)
 refine OL (guardI hF (fun hF=>?_))
 refine OL (AI (by decide) (OL (OL (guardI hF (fun hF=>?_)))))
 refine OL (OL ?_)
 obtain ⟨z3,hz3,hF⟩ := bindE hF
 refine loopI (Int×Int) Int (fun x=>⟨[(2,.dat T8 (u64.wrap (y_ * 2 ^ min (Int.toNat (u64.wrap q6_7)) (IntKind.bits IntKind.u64)))),(8,.dat T8 (u64.wrap q6_7)),(9,.dat T8 (Int.fdiv (u64.wrap (y_ * 2 ^ min (Int.toNat (u64.wrap q6_7)) (IntKind.bits IntKind.u64))) (2 ^ min (Int.toNat (32:Int)) (IntKind.bits IntKind.u64)))),(10,.dat T8 (bitsOf IntKind.u64 (fun p q=>p &&& q) (u64.wrap (y_ * 2 ^ min (Int.toNat (u64.wrap q6_7)) (IntKind.bits IntKind.u64))) (4294967295:Int))),(11,.dat T8 (bitsOf IntKind.u64 (fun p q=>p ||| q) (u64.wrap (hi * 2 ^ min (Int.toNat (u64.wrap q6_7)) (IntKind.bits IntKind.u64))) (Int.fdiv lo (2 ^ min (Int.toNat (u64.wrap ((64:Int) - (u64.wrap q6_7)))) (IntKind.bits IntKind.u64))))),(13,.dat T8 (Int.fdiv (u64.wrap (lo * 2 ^ min (Int.toNat (u64.wrap q6_7)) (IntKind.bits IntKind.u64))) (2 ^ min (Int.toNat (32:Int)) (IntKind.bits IntKind.u64)))),(14,.dat T8 (bitsOf IntKind.u64 (fun p q=>p &&& q) (u64.wrap (lo * 2 ^ min (Int.toNat (u64.wrap q6_7)) (IntKind.bits IntKind.u64))) (4294967295:Int))),(15,.dat T8 x.1),(16,.dat T8 x.2)],[],0⟩) (fun z=>[(2,⟨[(2,.dat T8 (u64.wrap (y_ * 2 ^ min (Int.toNat (u64.wrap q6_7)) (IntKind.bits IntKind.u64)))),(8,.dat T8 (u64.wrap q6_7)),(9,.dat T8 (Int.fdiv (u64.wrap (y_ * 2 ^ min (Int.toNat (u64.wrap q6_7)) (IntKind.bits IntKind.u64))) (2 ^ min (Int.toNat (32:Int)) (IntKind.bits IntKind.u64)))),(10,.dat T8 (bitsOf IntKind.u64 (fun p q=>p &&& q) (u64.wrap (y_ * 2 ^ min (Int.toNat (u64.wrap q6_7)) (IntKind.bits IntKind.u64))) (4294967295:Int))),(11,.dat T8 (bitsOf IntKind.u64 (fun p q=>p ||| q) (u64.wrap (hi * 2 ^ min (Int.toNat (u64.wrap q6_7)) (IntKind.bits IntKind.u64))) (Int.fdiv lo (2 ^ min (Int.toNat (u64.wrap ((64:Int) - (u64.wrap q6_7)))) (IntKind.bits IntKind.u64))))),(13,.dat T8 (Int.fdiv (u64.wrap (lo * 2 ^ min (Int.toNat (u64.wrap q6_7)) (IntKind.bits IntKind.u64))) (2 ^ min (Int.toNat (32:Int)) (IntKind.bits IntKind.u64)))),(14,.dat T8 (bitsOf IntKind.u64 (fun p q=>p &&& q) (u64.wrap (lo * 2 ^ min (Int.toNat (u64.wrap q6_7)) (IntKind.bits IntKind.u64))) (4294967295:Int))),(15,.dat T8 z)],[],0⟩)]) (loopF (fun go x=>f132_l3 lo y_ q6_7 go x.1 x.2)) fuelN ((u64.wrap (Int.tdiv (bitsOf IntKind.u64 (fun p q=>p ||| q) (u64.wrap (hi * 2 ^ min (Int.toNat (u64.wrap q6_7)) (IntKind.bits IntKind.u64))) (Int.fdiv lo (2 ^ min (Int.toNat (u64.wrap ((64:Int) - (u64.wrap q6_7)))) (IntKind.bits IntKind.u64)))) (Int.fdiv (u64.wrap (y_ * 2 ^ min (Int.toNat (u64.wrap q6_7)) (IntKind.bits IntKind.u64))) (2 ^ min (Int.toNat (32:Int)) (IntKind.bits IntKind.u64))))),(u64.wrap ((bitsOf IntKind.u64 (fun p q=>p ||| q) (u64.wrap (hi * 2 ^ min (Int.toNat (u64.wrap q6_7)) (IntKind.bits IntKind.u64))) (Int.fdiv lo (2 ^ min (Int.toNat (u64.wrap ((64:Int) - (u64.wrap q6_7)))) (IntKind.bits IntKind.u64)))) - (u64.wrap ((u64.wrap (Int.tdiv (bitsOf IntKind.u64 (fun p q=>p ||| q) (u64.wrap (hi * 2 ^ min (Int.toNat (u64.wrap q6_7)) (IntKind.bits IntKind.u64))) (Int.fdiv lo (2 ^ min (Int.toNat (u64.wrap ((64:Int) - (u64.wrap q6_7)))) (IntKind.bits IntKind.u64)))) (Int.fdiv (u64.wrap (y_ * 2 ^ min (Int.toNat (u64.wrap q6_7)) (IntKind.bits IntKind.u64))) (2 ^ min (Int.toNat (32:Int)) (IntKind.bits IntKind.u64))))) * (Int.fdiv (u64.wrap (y_ * 2 ^ min (Int.toNat (u64.wrap q6_7)) (IntKind.bits IntKind.u64))) (2 ^ min (Int.toNat (32:Int)) (IntKind.bits IntKind.u64)))))))) z3 (AI hz3 (AI (E4 [] (R10 (AI TV TV))) (AI (fun _ _ h=>loopZ h) (AI (fun m=>curI (fun q1=>fun rhat z hF=>?_)) ?_))))
 ·have hF : f132_l3 lo y_ q6_7 (loopF (fun go x=>f132_l3 lo y_ q6_7 go x.1 x.2) m) q1 rhat = some z := hF
  unfold f132_l3 at hF
  obtain ⟨z4,hz4,hF⟩ := bindE hF
  refine OQ ⟨Sum.elim (fun z4a=>[(0,⟨[(2,.dat T8 (u64.wrap (y_ * 2 ^ min (Int.toNat (u64.wrap q6_7)) (IntKind.bits IntKind.u64)))),(8,.dat T8 (u64.wrap q6_7)),(9,.dat T8 (Int.fdiv (u64.wrap (y_ * 2 ^ min (Int.toNat (u64.wrap q6_7)) (IntKind.bits IntKind.u64))) (2 ^ min (Int.toNat (32:Int)) (IntKind.bits IntKind.u64)))),(10,.dat T8 (bitsOf IntKind.u64 (fun p q=>p &&& q) (u64.wrap (y_ * 2 ^ min (Int.toNat (u64.wrap q6_7)) (IntKind.bits IntKind.u64))) (4294967295:Int))),(11,.dat T8 (bitsOf IntKind.u64 (fun p q=>p ||| q) (u64.wrap (hi * 2 ^ min (Int.toNat (u64.wrap q6_7)) (IntKind.bits IntKind.u64))) (Int.fdiv lo (2 ^ min (Int.toNat (u64.wrap ((64:Int) - (u64.wrap q6_7)))) (IntKind.bits IntKind.u64))))),(13,.dat T8 (Int.fdiv (u64.wrap (lo * 2 ^ min (Int.toNat (u64.wrap q6_7)) (IntKind.bits IntKind.u64))) (2 ^ min (Int.toNat (32:Int)) (IntKind.bits IntKind.u64)))),(14,.dat T8 (bitsOf IntKind.u64 (fun p q=>p &&& q) (u64.wrap (lo * 2 ^ min (Int.toNat (u64.wrap q6_7)) (IntKind.bits IntKind.u64))) (4294967295:Int))),(15,.dat T8 q1),(16,.dat T8 rhat)],[],0⟩)]) (fun z4b=>[(2,⟨[(2,.dat T8 (u64.wrap (y_ * 2 ^ min (Int.toNat (u64.wrap q6_7)) (IntKind.bits IntKind.u64)))),(8,.dat T8 (u64.wrap q6_7)),(9,.dat T8 (Int.fdiv (u64.wrap (y_ * 2 ^ min (Int.toNat (u64.wrap q6_7)) (IntKind.bits IntKind.u64))) (2 ^ min (Int.toNat (32:Int)) (IntKind.bits IntKind.u64)))),(10,.dat T8 (bitsOf IntKind.u64 (fun p q=>p &&& q) (u64.wrap (y_ * 2 ^ min (Int.toNat (u64.wrap q6_7)) (IntKind.bits IntKind.u64))) (4294967295:Int))),(11,.dat T8 (bitsOf IntKind.u64 (fun p q=>p ||| q) (u64.wrap (hi * 2 ^ min (Int.toNat (u64.wrap q6_7)) (IntKind.bits IntKind.u64))) (Int.fdiv lo (2 ^ min (Int.toNat (u64.wrap ((64:Int) - (u64.wrap q6_7)))) (IntKind.bits IntKind.u64))))),(13,.dat T8 (Int.fdiv (u64.wrap (lo * 2 ^ min (Int.toNat (u64.wrap q6_7)) (IntKind.bits IntKind.u64))) (2 ^ min (Int.toNat (32:Int)) (IntKind.bits IntKind.u64)))),(14,.dat T8 (bitsOf IntKind.u64 (fun p q=>p &&& q) (u64.wrap (lo * 2 ^ min (Int.toNat (u64.wrap q6_7)) (IntKind.bits IntKind.u64))) (4294967295:Int))),(15,.dat T8 q1)],[],0⟩)]) z4,?_,?_⟩
  ·have hF := hz4
   clear hz4
   unfold f132_j4 at hF
   refine OL (condN hF (fun hF=>?_) (fun hF=>?_))
   ·refine gdYF (gdYF (gdYF (gdYF (gdYF (gdYF (gdYF (condF (condI hF (fun hF=>?_) (fun hF=>?_)))))))))
    ·have hz := someE hF
     subst hz
     refine E4 [] (R10 (AI TV TV))
    have hz := someE hF
    subst hz
    refine E4 [] (R9 (AI TV TV))
   refine gdNF (gdNF (gdNF (gdNF (gdNF (gdNF (gdNF (condT (condT ?_))))))))
   have hz := someE hF
   subst hz
   refine E4 [] (R10 (AI TV TV))
  rcases z4 with z4a | z4b
  ·dsimp only [sumF] at hF
   refine AI (OL (OL (OL (condI hF (fun hF=>?_) (fun hF=>?_))))) TV
   ·have hz := someE hF
    subst hz
    refine E4 [] (R9 (AI TV TV))
   refine EI ((u64.wrap (q1 - (1:Int))),(u64.wrap (rhat + (Int.fdiv (u64.wrap (y_ * 2 ^ min (Int.toNat (u64.wrap q6_7)) (IntKind.bits IntKind.u64))) (2 ^ min (Int.toNat (32:Int)) (IntKind.bits IntKind.u64)))))) (AI hF (E4 [] (R10 (AI TV TV))))
  dsimp only [sumF] at hF
  refine AI ?_ TV
  have hz := someE hF
  subst hz
  refine E4 [] (R9 (AI TV TV))
 refine AI (OL (OL (guardI hF (fun hF=>?_)))) TV
 refine OL (OL ?_)
 obtain ⟨z7,hz7,hF⟩ := bindE hF
 refine loopI (Int×Int) Int (fun x=>⟨[(2,.dat T8 (u64.wrap (y_ * 2 ^ min (Int.toNat (u64.wrap q6_7)) (IntKind.bits IntKind.u64)))),(8,.dat T8 (u64.wrap q6_7)),(9,.dat T8 (Int.fdiv (u64.wrap (y_ * 2 ^ min (Int.toNat (u64.wrap q6_7)) (IntKind.bits IntKind.u64))) (2 ^ min (Int.toNat (32:Int)) (IntKind.bits IntKind.u64)))),(10,.dat T8 (bitsOf IntKind.u64 (fun p q=>p &&& q) (u64.wrap (y_ * 2 ^ min (Int.toNat (u64.wrap q6_7)) (IntKind.bits IntKind.u64))) (4294967295:Int))),(14,.dat T8 (bitsOf IntKind.u64 (fun p q=>p &&& q) (u64.wrap (lo * 2 ^ min (Int.toNat (u64.wrap q6_7)) (IntKind.bits IntKind.u64))) (4294967295:Int))),(15,.dat T8 z3),(16,.dat T8 x.1),(17,.dat T8 (u64.wrap ((u64.wrap ((u64.wrap ((bitsOf IntKind.u64 (fun p q=>p ||| q) (u64.wrap (hi * 2 ^ min (Int.toNat (u64.wrap q6_7)) (IntKind.bits IntKind.u64))) (Int.fdiv lo (2 ^ min (Int.toNat (u64.wrap ((64:Int) - (u64.wrap q6_7)))) (IntKind.bits IntKind.u64)))) * (4294967296:Int))) + (Int.fdiv (u64.wrap (lo * 2 ^ min (Int.toNat (u64.wrap q6_7)) (IntKind.bits IntKind.u64))) (2 ^ min (Int.toNat (32:Int)) (IntKind.bits IntKind.u64))))) - (u64.wrap (z3 * (u64.wrap (y_ * 2 ^ min (Int.toNat (u64.wrap q6_7)) (IntKind.bits IntKind.u64)))))))),(18,.dat T8 x.2)],[],0⟩) (fun z=>[(4,⟨[(2,.dat T8 (u64.wrap (y_ * 2 ^ min (Int.toNat (u64.wrap q6_7)) (IntKind.bits IntKind.u64)))),(8,.dat T8 (u64.wrap q6_7)),(14,.dat T8 (bitsOf IntKind.u64 (fun p q=>p &&& q) (u64.wrap (lo * 2 ^ min (Int.toNat (u64.wrap q6_7)) (IntKind.bits IntKind.u64))) (4294967295:Int))),(15,.dat T8 z3),(17,.dat T8 (u64.wrap ((u64.wrap ((u64.wrap ((bitsOf IntKind.u64 (fun p q=>p ||| q) (u64.wrap (hi * 2 ^ min (Int.toNat (u64.wrap q6_7)) (IntKind.bits IntKind.u64))) (Int.fdiv lo (2 ^ min (Int.toNat (u64.wrap ((64:Int) - (u64.wrap q6_7)))) (IntKind.bits IntKind.u64)))) * (4294967296:Int))) + (Int.fdiv (u64.wrap (lo * 2 ^ min (Int.toNat (u64.wrap q6_7)) (IntKind.bits IntKind.u64))) (2 ^ min (Int.toNat (32:Int)) (IntKind.bits IntKind.u64))))) - (u64.wrap (z3 * (u64.wrap (y_ * 2 ^ min (Int.toNat (u64.wrap q6_7)) (IntKind.bits IntKind.u64)))))))),(18,.dat T8 z)],[],0⟩)]) (loopF (fun go x=>f132_l7 lo y_ q6_7 go x.1 x.2)) fuelN ((u64.wrap ((u64.wrap ((u64.wrap ((u64.wrap ((bitsOf IntKind.u64 (fun p q=>p ||| q) (u64.wrap (hi * 2 ^ min (Int.toNat (u64.wrap q6_7)) (IntKind.bits IntKind.u64))) (Int.fdiv lo (2 ^ min (Int.toNat (u64.wrap ((64:Int) - (u64.wrap q6_7)))) (IntKind.bits IntKind.u64)))) * (4294967296:Int))) + (Int.fdiv (u64.wrap (lo * 2 ^ min (Int.toNat (u64.wrap q6_7)) (IntKind.bits IntKind.u64))) (2 ^ min (Int.toNat (32:Int)) (IntKind.bits IntKind.u64))))) - (u64.wrap (z3 * (u64.wrap (y_ * 2 ^ min (Int.toNat (u64.wrap q6_7)) (IntKind.bits IntKind.u64))))))) - (u64.wrap ((u64.wrap (Int.tdiv (u64.wrap ((u64.wrap ((u64.wrap ((bitsOf IntKind.u64 (fun p q=>p ||| q) (u64.wrap (hi * 2 ^ min (Int.toNat (u64.wrap q6_7)) (IntKind.bits IntKind.u64))) (Int.fdiv lo (2 ^ min (Int.toNat (u64.wrap ((64:Int) - (u64.wrap q6_7)))) (IntKind.bits IntKind.u64)))) * (4294967296:Int))) + (Int.fdiv (u64.wrap (lo * 2 ^ min (Int.toNat (u64.wrap q6_7)) (IntKind.bits IntKind.u64))) (2 ^ min (Int.toNat (32:Int)) (IntKind.bits IntKind.u64))))) - (u64.wrap (z3 * (u64.wrap (y_ * 2 ^ min (Int.toNat (u64.wrap q6_7)) (IntKind.bits IntKind.u64))))))) (Int.fdiv (u64.wrap (y_ * 2 ^ min (Int.toNat (u64.wrap q6_7)) (IntKind.bits IntKind.u64))) (2 ^ min (Int.toNat (32:Int)) (IntKind.bits IntKind.u64))))) * (Int.fdiv (u64.wrap (y_ * 2 ^ min (Int.toNat (u64.wrap q6_7)) (IntKind.bits IntKind.u64))) (2 ^ min (Int.toNat (32:Int)) (IntKind.bits IntKind.u64))))))),(u64.wrap (Int.tdiv (u64.wrap ((u64.wrap ((u64.wrap ((bitsOf IntKind.u64 (fun p q=>p ||| q) (u64.wrap (hi * 2 ^ min (Int.toNat (u64.wrap q6_7)) (IntKind.bits IntKind.u64))) (Int.fdiv lo (2 ^ min (Int.toNat (u64.wrap ((64:Int) - (u64.wrap q6_7)))) (IntKind.bits IntKind.u64)))) * (4294967296:Int))) + (Int.fdiv (u64.wrap (lo * 2 ^ min (Int.toNat (u64.wrap q6_7)) (IntKind.bits IntKind.u64))) (2 ^ min (Int.toNat (32:Int)) (IntKind.bits IntKind.u64))))) - (u64.wrap (z3 * (u64.wrap (y_ * 2 ^ min (Int.toNat (u64.wrap q6_7)) (IntKind.bits IntKind.u64))))))) (Int.fdiv (u64.wrap (y_ * 2 ^ min (Int.toNat (u64.wrap q6_7)) (IntKind.bits IntKind.u64))) (2 ^ min (Int.toNat (32:Int)) (IntKind.bits IntKind.u64)))))) z7 (AI hz7 (AI (E4 [] (R10 (AI TV TV))) (AI (fun _ _ h=>loopZ h) (AI (fun m=>curI (fun rhat=>fun q0 z hF=>?_)) ?_))))
 ·have hF : f132_l7 lo y_ q6_7 (loopF (fun go x=>f132_l7 lo y_ q6_7 go x.1 x.2) m) rhat q0 = some z := hF
  unfold f132_l7 at hF
  obtain ⟨z8,hz8,hF⟩ := bindE hF
  refine OQ ⟨Sum.elim (fun z8a=>[(0,⟨[(2,.dat T8 (u64.wrap (y_ * 2 ^ min (Int.toNat (u64.wrap q6_7)) (IntKind.bits IntKind.u64)))),(8,.dat T8 (u64.wrap q6_7)),(9,.dat T8 (Int.fdiv (u64.wrap (y_ * 2 ^ min (Int.toNat (u64.wrap q6_7)) (IntKind.bits IntKind.u64))) (2 ^ min (Int.toNat (32:Int)) (IntKind.bits IntKind.u64)))),(10,.dat T8 (bitsOf IntKind.u64 (fun p q=>p &&& q) (u64.wrap (y_ * 2 ^ min (Int.toNat (u64.wrap q6_7)) (IntKind.bits IntKind.u64))) (4294967295:Int))),(14,.dat T8 (bitsOf IntKind.u64 (fun p q=>p &&& q) (u64.wrap (lo * 2 ^ min (Int.toNat (u64.wrap q6_7)) (IntKind.bits IntKind.u64))) (4294967295:Int))),(15,.dat T8 z3),(16,.dat T8 rhat),(17,.dat T8 (u64.wrap ((u64.wrap ((u64.wrap ((bitsOf IntKind.u64 (fun p q=>p ||| q) (u64.wrap (hi * 2 ^ min (Int.toNat (u64.wrap q6_7)) (IntKind.bits IntKind.u64))) (Int.fdiv lo (2 ^ min (Int.toNat (u64.wrap ((64:Int) - (u64.wrap q6_7)))) (IntKind.bits IntKind.u64)))) * (4294967296:Int))) + (Int.fdiv (u64.wrap (lo * 2 ^ min (Int.toNat (u64.wrap q6_7)) (IntKind.bits IntKind.u64))) (2 ^ min (Int.toNat (32:Int)) (IntKind.bits IntKind.u64))))) - (u64.wrap (z3 * (u64.wrap (y_ * 2 ^ min (Int.toNat (u64.wrap q6_7)) (IntKind.bits IntKind.u64)))))))),(18,.dat T8 q0)],[],0⟩)]) (fun z8b=>[(4,⟨[(2,.dat T8 (u64.wrap (y_ * 2 ^ min (Int.toNat (u64.wrap q6_7)) (IntKind.bits IntKind.u64)))),(8,.dat T8 (u64.wrap q6_7)),(14,.dat T8 (bitsOf IntKind.u64 (fun p q=>p &&& q) (u64.wrap (lo * 2 ^ min (Int.toNat (u64.wrap q6_7)) (IntKind.bits IntKind.u64))) (4294967295:Int))),(15,.dat T8 z3),(17,.dat T8 (u64.wrap ((u64.wrap ((u64.wrap ((bitsOf IntKind.u64 (fun p q=>p ||| q) (u64.wrap (hi * 2 ^ min (Int.toNat (u64.wrap q6_7)) (IntKind.bits IntKind.u64))) (Int.fdiv lo (2 ^ min (Int.toNat (u64.wrap ((64:Int) - (u64.wrap q6_7)))) (IntKind.bits IntKind.u64)))) * (4294967296:Int))) + (Int.fdiv (u64.wrap (lo * 2 ^ min (Int.toNat (u64.wrap q6_7)) (IntKind.bits IntKind.u64))) (2 ^ min (Int.toNat (32:Int)) (IntKind.bits IntKind.u64))))) - (u64.wrap (z3 * (u64.wrap (y_ * 2 ^ min (Int.toNat (u64.wrap q6_7)) (IntKind.bits IntKind.u64)))))))),(18,.dat T8 q0)],[],0⟩)]) z8,?_,?_⟩
  ·have hF := hz8
   clear hz8
   unfold f132_j8 at hF
   refine OL (condN hF (fun hF=>?_) (fun hF=>?_))
   ·refine gdYF (gdYF (gdYF (gdYF (gdYF (gdYF (gdYF (condF (condI hF (fun hF=>?_) (fun hF=>?_)))))))))
    ·have hz := someE hF
     subst hz
     refine E4 [] (R10 (AI TV TV))
    have hz := someE hF
    subst hz
    refine E4 [] (R7 (AI TV TV))
   refine gdNF (gdNF (gdNF (gdNF (gdNF (gdNF (gdNF (condT (condT ?_))))))))
   have hz := someE hF
   subst hz
   refine E4 [] (R10 (AI TV TV))
  rcases z8 with z8a | z8b
  ·dsimp only [sumF] at hF
   refine AI (OL (OL (OL (condI hF (fun hF=>?_) (fun hF=>?_))))) TV
   ·have hz := someE hF
    subst hz
    refine E4 [] (R7 (AI TV TV))
   refine EI ((u64.wrap (rhat + (Int.fdiv (u64.wrap (y_ * 2 ^ min (Int.toNat (u64.wrap q6_7)) (IntKind.bits IntKind.u64))) (2 ^ min (Int.toNat (32:Int)) (IntKind.bits IntKind.u64))))),(u64.wrap (q0 - (1:Int)))) (AI hF (E4 [] (R10 (AI TV TV))))
  dsimp only [sumF] at hF
  refine AI ?_ TV
  have hz := someE hF
  subst hz
  refine E4 [] (R7 (AI TV TV))
 refine AI (OL (guardI hF (fun hF=>?_))) TV
 have hy := someE hF
 subst hy
 refine AI rfl (E4 [] (R3 (AI TV TV)))
theorem C132_holds : C132.Holds Tryz.prog 132 := holds_of_vc tab_ok mixed (fn := Tryz.f132) (by kernel_rfl) rfl C132 (fun x y hF=>C132_vc x.1 x.2.1 x.2.2 y hF)
theorem f132_in : InP 132 := ⟨Tryz.f132,by kernel_rfl,by kernel_rfl,by kernel_rfl⟩
def f128_j3 (r2:Int) (r4 : Int×Int) : Option Bool :=
 bif (decide (r4.2 > (u64.wrap (r2 - r4.2)))) then
 some true
 else
 bif (r4.2 == (u64.wrap (r2 - r4.2))) then
 some ((bitsOf IntKind.u64 (fun p q=>p &&& q) r4.1 (1:Int)) == (1:Int))
 else
 some false
def f128_j2 (r2:Int) (r4 : Int×Int) : Option (Int×Int) :=
 bindF (f128_j3 r2 r4) fun z8 =>
 bif z8 then
 bindF (add64 r4.1 (1:Int) (0:Int)) fun r9 =>
 some (r9.1,r9.2)
 else
 some (r4.1,(0:Int))
def f128 (a:Int) (b:Int) : Option Int :=
 bif (b == (0:Int)) then
 bif (decide (a > (0:Int))) then
 some (9223372036854775807:Int)
 else
 bif (decide (a < (0:Int))) then
 some (-9223372036854775808:Int)
 else
 some (0:Int)
 else
 bindF (f96 a) fun r1 =>
 bindF (f96 b) fun r2 =>
 bif (decide ((Int.fdiv r1 (2 ^ min (Int.toNat (32:Int)) (IntKind.bits IntKind.u64))) ≥ r2)) then
 bindF (f97 (1:Int) (0:Int) (!((decide (a < (0:Int))) == (decide (b < (0:Int)))))) fun r3 =>
 some r3
 else
 bindF (f132 (Int.fdiv r1 (2 ^ min (Int.toNat (32:Int)) (IntKind.bits IntKind.u64))) (u64.wrap (r1 * 2 ^ min (Int.toNat (32:Int)) (IntKind.bits IntKind.u64))) r2) fun r4 =>
 bindF (f128_j2 r2 r4) fun z7 =>
 bindF (f97 z7.2 z7.1 (!((decide (a < (0:Int))) == (decide (b < (0:Int)))))) fun r10 =>
 some r10
def C128 : Con where
 X := Int×Int
 Y := Int
 e := 0
 args x := [.dat T0 x.1,.dat T0 x.2]
 hin x := []
 F x := f128 x.1 x.2
 ret y := [.dat T0 y]
 hout y := []
 nout := 0
theorem C128_vc (a:Int) (b:Int) (y:Int) (hF : f128 a b = some y) : VC Tryz.f128 C128 (a,b) y := by
 unfold f128 at hF
 refine OL (OL (OL (condI hF (fun hF=>?_) (fun hF=>?_))))
 ·refine OL (OL (condI hF (fun hF=>?_) (fun hF=>?_)))
  ·refine OL ?_
   have hy := someE hF
   subst hy
   refine AI rfl (E4 [] (R2 (AI TV TV)))
  refine OL (condI hF (fun hF=>?_) (fun hF=>?_))
  ·refine OL ?_
   have hy := someE hF
   subst hy
   refine AI rfl (E4 [] (R2 (AI TV TV)))
  refine OL ?_
  have hy := someE hF
  subst hy
  refine AI rfl (E4 [] (R2 (AI TV TV)))
 refine OL ?_
 obtain ⟨r1,hr1,hF⟩ := bindE hF
 refine OL (AI f96_in (callV0 (callI C96 a r1 [] false C96_holds hr1 rfl rfl (AI rfl (AI (fun h=>nomatch h) (R2 (AI TV (AI TV ?_))))))))
 obtain ⟨r2,hr2,hF⟩ := bindE hF
 refine OL (AI f96_in (callV0 (callI C96 b r2 [] false C96_holds hr2 rfl rfl (AI rfl (AI (fun h=>nomatch h) (R2 (AI TV (AI TV (OL (OL (AI (by decide) (AI (by decide) (OL (OL (condI hF (fun hF=>?_) (fun hF=>?_))))))))))))))))
 ·refine OL ?_
  obtain ⟨r3,hr3,hF⟩ := bindE hF
  refine OL (AI f97_in (callV0 (callI C97 ((1:Int),(0:Int),(!((decide (a < (0:Int))) == (decide (b < (0:Int)))))) r3 [] false C97_holds hr3 rfl rfl (R3 (AI (fun h=>nomatch h) (R2 (AI TV (AI TV ?_))))))))
  have hy := someE hF
  subst hy
  refine AI rfl (E4 [] (R2 (AI TV TV)))
 refine OL ?_
 obtain ⟨r4,hr4,hF⟩ := bindE hF
 refine OL (AI f132_in (callV0 (callI C132 ((Int.fdiv r1 (2 ^ min (Int.toNat (32:Int)) (IntKind.bits IntKind.u64))),(u64.wrap (r1 * 2 ^ min (Int.toNat (32:Int)) (IntKind.bits IntKind.u64))),r2) r4 [] false C132_holds hr4 rfl rfl (R3 (AI (fun h=>nomatch h) (R2 (AI TV (AI TV (OL ?_)))))))))
 obtain ⟨z7,hz7,hF⟩ := bindE hF
 refine OQ ⟨[(0,⟨[(7,.dat .bool (!((decide (a < (0:Int))) == (decide (b < (0:Int)))))),(10,.dat T8 z7.1),(12,.dat T8 z7.2)],[],0⟩)],?_,?_⟩
 ·have hF := hz7
  clear hz7
  unfold f128_j2 at hF
  obtain ⟨z8,hz8,hF⟩ := bindE hF
  refine OQ ⟨[(0,⟨[(7,.dat .bool (!((decide (a < (0:Int))) == (decide (b < (0:Int)))))),(10,.dat T8 r4.1),(12,.dat T8 (0:Int)),(62,.dat .bool z8)],[],0⟩)],?_,?_⟩
  ·have hF := hz8
   clear hz8
   unfold f128_j3 at hF
   refine condN hF (fun hF=>?_) (fun hF=>?_)
   ·refine gdYF (gdYF (gdYF (gdYF (gdYF (condI hF (fun hF=>?_) (fun hF=>?_))))))
    ·refine gdYT (gdYT (gdYF (condT (condF ?_))))
     have hz := someE hF
     subst hz
     refine E4 [] (R5 (AI TV TV))
    refine gdNT (gdNT (gdYF (condF (condF ?_))))
    have hz := someE hF
    subst hz
    refine E4 [] (R5 (AI TV TV))
   refine gdNF (gdNF (gdNF (gdNF (gdNF (gdNF (condT ?_))))))
   have hz := someE hF
   subst hz
   refine E4 [] (R5 (AI TV TV))
  refine AI (condI hF (fun hF=>?_) (fun hF=>?_)) TV
  ·obtain ⟨r9,hr9,hF⟩ := bindE hF
   refine OQ ⟨ext3 add64,[r9.1,r9.2],add64_ok,AI (ext3I hr9) ?_⟩
   have hz := someE hF
   subst hz
   refine E4 [] (R4 (AI TV TV))
  have hz := someE hF
  subst hz
  refine E4 [] (R4 (AI TV TV))
 refine AI (OL ?_) TV
 obtain ⟨r10,hr10,hF⟩ := bindE hF
 refine OL (AI f97_in (callV0 (callI C97 (z7.2,z7.1,(!((decide (a < (0:Int))) == (decide (b < (0:Int)))))) r10 [] false C97_holds hr10 rfl rfl (R3 (AI (fun h=>nomatch h) (R2 (AI TV (AI TV ?_))))))))
 have hy := someE hF
 subst hy
 refine AI rfl (E4 [] (R2 (AI TV TV)))
theorem C128_holds : C128.Holds Tryz.prog 128 := holds_of_vc tab_ok mixed (fn := Tryz.f128) (by kernel_rfl) rfl C128 (fun x y hF=>C128_vc x.1 x.2 y hF)
theorem f128_in : InP 128 := ⟨Tryz.f128,by kernel_rfl,by kernel_rfl,by kernel_rfl⟩
def f130 (a : Int×Int) : Option (Int×Int×Bool) :=
 bif (decide (a.1 < (0:Int))) then
 bindF (f134 (a.1,a.2)) fun q4_7 =>
 some ((u64.wrap q4_7.1),q4_7.2,true)
 else
 some ((u64.wrap a.1),a.2,false)
def C130 : Con where
 X := Int×Int
 Y := Int×Int×Bool
 e := 0
 args x := [.dat T9 x]
 hin x := []
 F x := f130 x
 ret y := [.dat T8 y.1,.dat T8 y.2.1,.dat .bool y.2.2]
 hout y := []
 nout := 0
theorem C130_vc (a : Int×Int) (y : Int×Int×Bool) (hF : f130 a = some y) : VC Tryz.f130 C130 a y := by
 unfold f130 at hF
 refine OL (OL (OL (condI hF (fun hF=>?_) (fun hF=>?_))))
 ·refine OL ?_
  obtain ⟨q4_7,hq4_7,hF⟩ := bindE hF
  refine OL (AI f134_in (callV0 (callI C134 (a.1,a.2) q4_7 [] false C134_holds hq4_7 rfl rfl (R2 (AI (fun h=>nomatch h) (R2 (AI TV (AI TV (OL (OL (EI (.take 0 (.take 1 (.take 2 (.take 3 (.take 4 (.take 5 (.take 6 (.take 7 .done)))))))) (EI [] (EI [] (AI rfl ?_))))))))))))))
  have hy := someE hF
  subst hy
  refine AI rfl (E4 [] (R4 (AI TV TV)))
 refine OL (EI (.take 0 (.take 1 (.take 2 (.take 3 (.take 4 (.take 5 (.take 6 (.take 7 .done)))))))) (EI [] (EI [] (AI rfl ?_))))
 have hy := someE hF
 subst hy
 refine AI rfl (E4 [] (R4 (AI TV TV)))
theorem C130_holds : C130.Holds Tryz.prog 130 := holds_of_vc tab_ok mixed (fn := Tryz.f130) (by kernel_rfl) rfl C130 (fun x y hF=>C130_vc x y hF)
theorem f130_in : InP 130 := ⟨Tryz.f130,by kernel_rfl,by kernel_rfl,by kernel_rfl⟩
def f98_j3 (r4:Int) (q6_7 : Int×Int) : Option Bool :=
 bif (decide (q6_7.2 > (u64.wrap (r4 - q6_7.2)))) then
 some true
 else
 bif (q6_7.2 == (u64.wrap (r4 - q6_7.2))) then
 some ((bitsOf IntKind.u64 (fun p q=>p &&& q) q6_7.1 (1:Int)) == (1:Int))
 else
 some false
def f98_j2 (r3 : Int×Int×Bool) (r4:Int) (q6_7 : Int×Int) : Option (Int×Int) :=
 bindF (f98_j3 r4 q6_7) fun z8 =>
 bif z8 then
 bindF (add64 q6_7.1 (1:Int) (0:Int)) fun r9 =>
 some ((u64.wrap ((u64.wrap (Int.tdiv r3.1 r4)) + r9.2)),r9.1)
 else
 some ((u64.wrap (Int.tdiv r3.1 r4)),q6_7.1)
def f98 (a : Int×Int) (n:Int) : Option Int :=
 bif (n == (0:Int)) then
 bindF (f129 (a.1,a.2) ((0:Int),(0:Int))) fun r1 =>
 bindF (f128 r1 (0:Int)) fun r2 =>
 some r2
 else
 bindF (f130 (a.1,a.2)) fun r3 =>
 bindF (f131 n) fun r4 =>
 guardF (r4 ≠ 0) <|
 guardF (r4 ≠ 0) <|
 bindF (f132 (Int.tmod r3.1 r4) r3.2.1 r4) fun q6_7 =>
 bindF (f98_j2 r3 r4 q6_7) fun z7 =>
 bif (!(r3.2.2 == (decide (n < (0:Int))))) then
 bindF (f134 ((i64.wrap (if (9223372036854775807:Int) < z7.1 then (9223372036854775807:Int) else z7.1)),z7.2)) fun r10 =>
 bindF (f133 (r10.1,r10.2)) fun r11 =>
 some r11
 else
 bindF (f133 ((i64.wrap (if (9223372036854775807:Int) < z7.1 then (9223372036854775807:Int) else z7.1)),z7.2)) fun r12 =>
 some r12
def C98 : Con where
 X := (Int×Int)×Int
 Y := Int
 e := 0
 args x := [.dat T9 x.1,.dat T0 x.2]
 hin x := []
 F x := f98 x.1 x.2
 ret y := [.dat T0 y]
 hout y := []
 nout := 0
theorem C98_vc (a : Int×Int) (n:Int) (y:Int) (hF : f98 a n = some y) : VC Tryz.f98 C98 (a,n) y := by
 unfold f98 at hF
 refine OL (OL (OL (condI hF (fun hF=>?_) (fun hF=>?_))))
 ·refine OL ?_
  obtain ⟨r1,hr1,hF⟩ := bindE hF
  refine OL (AI f129_in (callV0 (callI C129 ((a.1,a.2),((0:Int),(0:Int))) r1 [] false C129_holds hr1 rfl rfl (R4 (AI (fun h=>nomatch h) (R2 (AI TV (AI TV ?_))))))))
  obtain ⟨r2,hr2,hF⟩ := bindE hF
  refine OL (AI f128_in (callV0 (callI C128 (r1,(0:Int)) r2 [] false C128_holds hr2 rfl rfl (R2 (AI (fun h=>nomatch h) (R2 (AI TV (AI TV ?_))))))))
  have hy := someE hF
  subst hy
  refine AI rfl (E4 [] (R2 (AI TV TV)))
 refine OL ?_
 obtain ⟨r3,hr3,hF⟩ := bindE hF
 refine OL (AI f130_in (callV0 (callI C130 (a.1,a.2) r3 [] false C130_holds hr3 rfl rfl (R2 (AI (fun h=>nomatch h) (R2 (AI TV (AI TV (OL ?_)))))))))
 obtain ⟨r4,hr4,hF⟩ := bindE hF
 refine OL (AI f131_in (callV0 (callI C131 n r4 [] false C131_holds hr4 rfl rfl (AI rfl (AI (fun h=>nomatch h) (R2 (AI TV (AI TV (OL (OL (EI (.take 0 (.take 1 (.take 2 (.take 3 (.take 4 (.take 5 (.take 6 (.take 7 .done)))))))) (EI [] (EI [] (AI rfl (guardI hF (fun hF=>?_))))))))))))))))
 refine guardI hF (fun hF=>?_)
 refine OL ?_
 obtain ⟨q6_7,hq6_7,hF⟩ := bindE hF
 refine OL (AI f132_in (callV0 (callI C132 ((Int.tmod r3.1 r4),r3.2.1,r4) q6_7 [] false C132_holds hq6_7 rfl rfl (R3 (AI (fun h=>nomatch h) (R2 (AI TV (AI TV ?_))))))))
 obtain ⟨z7,hz7,hF⟩ := bindE hF
 refine OQ ⟨[(0,⟨[(7,.dat .bool (!(r3.2.2 == (decide (n < (0:Int)))))),(9,.dat T8 z7.1),(11,.dat T8 z7.2)],[],0⟩)],?_,?_⟩
 ·have hF := hz7
  clear hz7
  unfold f98_j2 at hF
  obtain ⟨z8,hz8,hF⟩ := bindE hF
  refine OQ ⟨[(0,⟨[(7,.dat .bool (!(r3.2.2 == (decide (n < (0:Int)))))),(9,.dat T8 (u64.wrap (Int.tdiv r3.1 r4))),(11,.dat T8 q6_7.1),(61,.dat .bool z8)],[],0⟩)],?_,?_⟩
  ·have hF := hz8
   clear hz8
   unfold f98_j3 at hF
   refine condN hF (fun hF=>?_) (fun hF=>?_)
   ·refine gdYF (gdYF (gdYF (gdYF (gdYF (condI hF (fun hF=>?_) (fun hF=>?_))))))
    ·refine gdYT (gdYT (gdYF (condT (condF ?_))))
     have hz := someE hF
     subst hz
     refine E4 [] (R5 (AI TV TV))
    refine gdNT (gdNT (gdYF (condF (condF ?_))))
    have hz := someE hF
    subst hz
    refine E4 [] (R5 (AI TV TV))
   refine gdNF (gdNF (gdNF (gdNF (gdNF (gdNF (condT ?_))))))
   have hz := someE hF
   subst hz
   refine E4 [] (R5 (AI TV TV))
  refine AI (condI hF (fun hF=>?_) (fun hF=>?_)) TV
  ·refine OL (OL ?_)
   obtain ⟨r9,hr9,hF⟩ := bindE hF
   refine OQ ⟨ext3 add64,[r9.1,r9.2],add64_ok,AI (ext3I hr9) ?_⟩
   have hz := someE hF
   subst hz
   refine E4 [] (R4 (AI TV TV))
  have hz := someE hF
  subst hz
  refine E4 [] (R4 (AI TV TV))
 refine AI (OL (OL (OL (OL (condI hF (fun hF=>?_) (fun hF=>?_)))))) TV
 ·refine OL ?_
  obtain ⟨r10,hr10,hF⟩ := bindE hF
  refine OL (AI f134_in (callV0 (callI C134 ((i64.wrap (if (9223372036854775807:Int) < z7.1 then (9223372036854775807:Int) else z7.1)),z7.2) r10 [] false C134_holds hr10 rfl rfl (R2 (AI (fun h=>nomatch h) (R2 (AI TV (AI TV ?_))))))))
  obtain ⟨r11,hr11,hF⟩ := bindE hF
  refine OL (AI f133_in (callV0 (callI C133 (r10.1,r10.2) r11 [] false C133_holds hr11 rfl rfl (R2 (AI (fun h=>nomatch h) (R2 (AI TV (AI TV ?_))))))))
  have hy := someE hF
  subst hy
  refine AI rfl (E4 [] (R2 (AI TV TV)))
 refine OL ?_
 obtain ⟨r12,hr12,hF⟩ := bindE hF
 refine OL (AI f133_in (callV0 (callI C133 ((i64.wrap (if (9223372036854775807:Int) < z7.1 then (9223372036854775807:Int) else z7.1)),z7.2) r12 [] false C133_holds hr12 rfl rfl (R2 (AI (fun h=>nomatch h) (R2 (AI TV (AI TV ?_))))))))
 have hy := someE hF
 subst hy
 refine AI rfl (E4 [] (R2 (AI TV TV)))
theorem C98_holds : C98.Holds Tryz.prog 98 := holds_of_vc tab_ok mixed (fn := Tryz.f98) (by kernel_rfl) rfl C98 (fun x y hF=>C98_vc x.1 x.2 y hF)
theorem f98_in : InP 98 := ⟨Tryz.f98,by kernel_rfl,by kernel_rfl,by kernel_rfl⟩
def f178 (a : (List Int)×(List Int)) : Option (Int×Int) :=
 bindF (f86 (a.1,a.2)) fun q3_8 =>
 bif (!q3_8) then
 some ((0:Int),(1:Int))
 else
 bindF (f197 a.2) fun q3_2 =>
 bindF (f98 (q3_2.1,q3_2.2) (List.length a.2:Int)) fun q3_6 =>
 some (q3_6,(0:Int))
def C178 : Con where
 X := (List Int)×(List Int)
 Y := Int×Int
 e := 0
 args x := [.dat T7 x]
 hin x := []
 F x := f178 x
 ret y := [.dat T0 y.1,.dat T0 y.2]
 hout y := []
 nout := 0
theorem C178_vc (a : (List Int)×(List Int)) (y : Int×Int) (hF : f178 a = some y) : VC Tryz.f178 C178 a y := by
 unfold f178 at hF
 refine OL (OL (OL ?_))
 obtain ⟨q3_8,hq3_8,hF⟩ := bindE hF
 refine OL (AI f86_in (callV0 (callI C86 (a.1,a.2) q3_8 [] false C86_holds hq3_8 rfl rfl (R2 (AI (fun h=>nomatch h) (R2 (AI TV (AI TV (condI hF (fun hF=>?_) (fun hF=>?_))))))))))
 ·refine OL ?_
  have hy := someE hF
  subst hy
  refine AI rfl (E4 [] (R3 (AI TV TV)))
 refine OL (EI (.take 0 (.take 1 (.take 3 (.take 4 (.take 5 (.alt 2 (.alt 6 (.take 7 (.take 8 .done)) .done) .done)))))) (EI [] (EI [] (AI rfl (AI TV ?_)))))
 obtain ⟨q3_2,hq3_2,hF⟩ := bindE hF
 refine OL (AI f197_in (callV0 (callI C197 a.2 q3_2 [] false C197_holds hq3_2 rfl rfl (AI rfl (AI (fun h=>nomatch h) (R2 (AI TV (AI TV (AI TV ?_)))))))))
 obtain ⟨q3_6,hq3_6,hF⟩ := bindE hF
 refine OL (AI f98_in (callV0 (callI C98 ((q3_2.1,q3_2.2),(List.length a.2:Int)) q3_6 [] false C98_holds hq3_6 rfl rfl (R3 (AI (fun h=>nomatch h) (R2 (AI TV (AI TV ?_))))))))
 have hy := someE hF
 subst hy
 refine AI rfl (E4 [] (R3 (AI TV TV)))
theorem C178_holds : C178.Holds Tryz.prog 178 := holds_of_vc tab_ok mixed (fn := Tryz.f178) (by kernel_rfl) rfl C178 (fun x y hF=>C178_vc x y hF)
theorem f178_in : InP 178 := ⟨Tryz.f178,by kernel_rfl,by kernel_rfl,by kernel_rfl⟩
def f148 (kind:Int) : Option Bool :=
 bif (decide (kind ≥ (1:Int))) then
 some (decide (kind ≤ (5:Int)))
 else
 some false
def C148 : Con where
 X := Int
 Y := Bool
 e := 0
 args x := [.dat T0 x]
 hin x := []
 F x := f148 x
 ret y := [.dat .bool y]
 hout y := []
 nout := 0
theorem C148_vc (kind:Int) (y : Bool) (hF : f148 kind = some y) : VC Tryz.f148 C148 kind y := by
 unfold f148 at hF
 refine OL (OL (condI hF (fun hF=>?_) (fun hF=>?_)))
 ·refine gdYT (condT ?_)
  have hy := someE hF
  subst hy
  refine AI rfl (E4 [] (R2 (AI TV TV)))
 refine gdNT (condF ?_)
 have hy := someE hF
 subst hy
 refine AI rfl (E4 [] (R2 (AI TV TV)))
theorem C148_holds : C148.Holds Tryz.prog 148 := holds_of_vc tab_ok mixed (fn := Tryz.f148) (by kernel_rfl) rfl C148 (fun x y hF=>C148_vc x y hF)
theorem f148_in : InP 148 := ⟨Tryz.f148,by kernel_rfl,by kernel_rfl,by kernel_rfl⟩
def f219 (n:Int) : Option Int :=
 bif (decide (n ≥ (2147483648:Int))) then
 some (9223372036854775807:Int)
 else
 bif (decide (n < (-2147483648:Int))) then
 some (-9223372036854775808:Int)
 else
 some (i64.wrap (n * 2 ^ min (Int.toNat (32:Int)) (IntKind.bits IntKind.i64)))
def C219 : Con where
 X := Int
 Y := Int
 e := 0
 args x := [.dat T0 x]
 hin x := []
 F x := f219 x
 ret y := [.dat T0 y]
 hout y := []
 nout := 0
theorem C219_vc (n:Int) (y:Int) (hF : f219 n = some y) : VC Tryz.f219 C219 n y := by
 unfold f219 at hF
 refine OL (OL (OL (condI hF (fun hF=>?_) (fun hF=>?_))))
 ·refine OL ?_
  have hy := someE hF
  subst hy
  refine AI rfl (E4 [] (R2 (AI TV TV)))
 refine OL (condI hF (fun hF=>?_) (fun hF=>?_))
 ·refine OL ?_
  have hy := someE hF
  subst hy
  refine AI rfl (E4 [] (R2 (AI TV TV)))
 refine OL (AI (by decide) ?_)
 have hy := someE hF
 subst hy
 refine AI rfl (E4 [] (R2 (AI TV TV)))
theorem C219_holds : C219.Holds Tryz.prog 219 := holds_of_vc tab_ok mixed (fn := Tryz.f219) (by kernel_rfl) rfl C219 (fun x y hF=>C219_vc x y hF)
theorem f219_in : InP 219 := ⟨Tryz.f219,by kernel_rfl,by kernel_rfl,by kernel_rfl⟩
def f220 (x_:Int) (lo:Int) (hi:Int) : Option Int :=
 some (if hi < (if lo > x_ then lo else x_) then hi else (if lo > x_ then lo else x_))
def C220 : Con where
 X := Int×Int×Int
 Y := Int
 e := 0
 args x := [.dat T0 x.1,.dat T0 x.2.1,.dat T0 x.2.2]
 hin x := []
 F x := f220 x.1 x.2.1 x.2.2
 ret y := [.dat T0 y]
 hout y := []
 nout := 0
theorem C220_vc (x_:Int) (lo:Int) (hi:Int) (y:Int) (hF : f220 x_ lo hi = some y) : VC Tryz.f220 C220 (x_,lo,hi) y := by
 unfold f220 at hF
 refine OL (OL ?_)
 have hy := someE hF
 subst hy
 refine AI rfl (E4 [] (R2 (AI TV TV)))
theorem C220_holds : C220.Holds Tryz.prog 220 := holds_of_vc tab_ok mixed (fn := Tryz.f220) (by kernel_rfl) rfl C220 (fun x y hF=>C220_vc x.1 x.2.1 x.2.2 y hF)
theorem f220_in : InP 220 := ⟨Tryz.f220,by kernel_rfl,by kernel_rfl,by kernel_rfl⟩
def f221 (a:Int) : Option Int :=
 bif (a == (-9223372036854775808:Int)) then
 some (9223372036854775807:Int)
 else
 some (i64.wrap (0 - a))
def C221 : Con where
 X := Int
 Y := Int
 e := 0
 args x := [.dat T0 x]
 hin x := []
 F x := f221 x
 ret y := [.dat T0 y]
 hout y := []
 nout := 0
theorem C221_vc (a:Int) (y:Int) (hF : f221 a = some y) : VC Tryz.f221 C221 a y := by
 unfold f221 at hF
 refine OL (OL (OL (condI hF (fun hF=>?_) (fun hF=>?_))))
 ·refine OL ?_
  have hy := someE hF
  subst hy
  refine AI rfl (E4 [] (R2 (AI TV TV)))
 refine OL ?_
 have hy := someE hF
 subst hy
 refine AI rfl (E4 [] (R2 (AI TV TV)))
theorem C221_holds : C221.Holds Tryz.prog 221 := holds_of_vc tab_ok mixed (fn := Tryz.f221) (by kernel_rfl) rfl C221 (fun x y hF=>C221_vc x y hF)
theorem f221_in : InP 221 := ⟨Tryz.f221,by kernel_rfl,by kernel_rfl,by kernel_rfl⟩
def f198 (kind:Int) (x_:Int) : Option (Int×Int) :=
 bif (kind == (1:Int)) then
 some ((if (0:Int) > x_ then (0:Int) else x_),(0:Int))
 else
 bif (kind == (2:Int)) then
 bif (decide (x_ > (0:Int))) then
 some (x_,(0:Int))
 else
 bindF (f219 (8:Int)) fun r1 =>
 bindF (f128 x_ r1) fun r2 =>
 some (r2,(0:Int))
 else
 bif (kind == (3:Int)) then
 bindF (f220 x_ (-4294967296:Int) (4294967296:Int)) fun r3 =>
 some (r3,(0:Int))
 else
 bif (kind == (4:Int)) then
 bif (decide (x_ < (0:Int))) then
 bindF (f221 x_) fun r4 =>
 some (r4,(0:Int))
 else
 some (x_,(0:Int))
 else
 bif (kind == (5:Int)) then
 bindF (f219 (2:Int)) fun r5 =>
 bindF (f128 x_ r5) fun r6 =>
 bindF (f65 r6 (2147483648:Int)) fun r7 =>
 bindF (f220 r7 (0:Int) (4294967296:Int)) fun r8 =>
 some (r8,(0:Int))
 else
 some ((0:Int),(1:Int))
def C198 : Con where
 X := Int×Int
 Y := Int×Int
 e := 0
 args x := [.dat T0 x.1,.dat T0 x.2]
 hin x := []
 F x := f198 x.1 x.2
 ret y := [.dat T0 y.1,.dat T0 y.2]
 hout y := []
 nout := 0
theorem C198_vc (kind:Int) (x_:Int) (y : Int×Int) (hF : f198 kind x_ = some y) : VC Tryz.f198 C198 (kind,x_) y := by
 unfold f198 at hF
 refine OL (OL (OL (OL (condI hF (fun hF=>?_) (fun hF=>?_)))))
 ·refine OL ?_
  have hy := someE hF
  subst hy
  refine AI rfl (E4 [] (R3 (AI TV TV)))
 refine OL (condI hF (fun hF=>?_) (fun hF=>?_))
 ·refine OL (OL (condI hF (fun hF=>?_) (fun hF=>?_)))
  ·refine OL ?_
   have hy := someE hF
   subst hy
   refine AI rfl (E4 [] (R3 (AI TV TV)))
  refine OL ?_
  obtain ⟨r1,hr1,hF⟩ := bindE hF
  refine OL (AI f219_in (callV0 (callI C219 (8:Int) r1 [] false C219_holds hr1 rfl rfl (AI rfl (AI (fun h=>nomatch h) (R2 (AI TV (AI TV ?_))))))))
  obtain ⟨r2,hr2,hF⟩ := bindE hF
  refine OL (AI f128_in (callV0 (callI C128 (x_,r1) r2 [] false C128_holds hr2 rfl rfl (R2 (AI (fun h=>nomatch h) (R2 (AI TV (AI TV ?_))))))))
  have hy := someE hF
  subst hy
  refine AI rfl (E4 [] (R3 (AI TV TV)))
 refine OL (condI hF (fun hF=>?_) (fun hF=>?_))
 ·refine OL ?_
  obtain ⟨r3,hr3,hF⟩ := bindE hF
  have hr3 : C220.F (x_,(-4294967296:Int),(4294967296:Int)) = some r3 := hr3
  refine OL (AI f220_in (callV0 (callI C220 _ r3 [] false C220_holds hr3 rfl rfl (R3 (AI (fun h=>nomatch h) (R2 (AI TV (AI TV ?_))))))))
  have hy := someE hF
  subst hy
  refine AI rfl (E4 [] (R3 (AI TV TV)))
 refine OL (condI hF (fun hF=>?_) (fun hF=>?_))
 ·refine OL (OL (condI hF (fun hF=>?_) (fun hF=>?_)))
  ·refine OL ?_
   obtain ⟨r4,hr4,hF⟩ := bindE hF
   refine OL (AI f221_in (callV0 (callI C221 x_ r4 [] false C221_holds hr4 rfl rfl (AI rfl (AI (fun h=>nomatch h) (R2 (AI TV (AI TV ?_))))))))
   have hy := someE hF
   subst hy
   refine AI rfl (E4 [] (R3 (AI TV TV)))
  refine OL ?_
  have hy := someE hF
  subst hy
  refine AI rfl (E4 [] (R3 (AI TV TV)))
 refine OL (condI hF (fun hF=>?_) (fun hF=>?_))
 ·refine OL ?_
  obtain ⟨r5,hr5,hF⟩ := bindE hF
  refine OL (AI f219_in (callV0 (callI C219 (2:Int) r5 [] false C219_holds hr5 rfl rfl (AI rfl (AI (fun h=>nomatch h) (R2 (AI TV (AI TV ?_))))))))
  obtain ⟨r6,hr6,hF⟩ := bindE hF
  refine OL (AI f128_in (callV0 (callI C128 (x_,r5) r6 [] false C128_holds hr6 rfl rfl (R2 (AI (fun h=>nomatch h) (R2 (AI TV (AI TV ?_))))))))
  obtain ⟨r7,hr7,hF⟩ := bindE hF
  refine OL (AI f65_in (callV0 (callI C65 (r6,(2147483648:Int)) r7 [] false C65_holds hr7 rfl rfl (R2 (AI (fun h=>nomatch h) (R2 (AI TV (AI TV ?_))))))))
  obtain ⟨r8,hr8,hF⟩ := bindE hF
  refine OL (AI f220_in (callV0 (callI C220 (r7,(0:Int),(4294967296:Int)) r8 [] false C220_holds hr8 rfl rfl (R3 (AI (fun h=>nomatch h) (R2 (AI TV (AI TV ?_))))))))
  have hy := someE hF
  subst hy
  refine AI rfl (E4 [] (R3 (AI TV TV)))
 refine OL ?_
 have hy := someE hF
 subst hy
 refine AI rfl (E4 [] (R3 (AI TV TV)))
theorem C198_holds : C198.Holds Tryz.prog 198 := holds_of_vc tab_ok mixed (fn := Tryz.f198) (by kernel_rfl) rfl C198 (fun x y hF=>C198_vc x.1 x.2 y hF)
theorem f198_in : InP 198 := ⟨Tryz.f198,by kernel_rfl,by kernel_rfl,by kernel_rfl⟩
def f179_j3 (kind:Int) (t : (List Int)×(List Int)) : Option Bool :=
 bindF (f148 kind) fun r9 =>
 bif (!r9) then
 some true
 else
 bindF (f86 (t.1,t.2)) fun r10 =>
 some (!r10)
def f179_j2 (kind:Int) (t : (List Int)×(List Int)) : Option (Sum Unit Unit) :=
 bindF (f179_j3 kind t) fun z8 =>
 bif z8 then
 some (Sum.inr ())
 else
 some (Sum.inl ())
def f179_l4 (kind:Int) (t : (List Int)×(List Int)) (go : (Int×(List Int)) → Option (List Int)) (v23:Int) (l3 : List Int) : Option (List Int) :=
 bif (decide (v23 < (List.length t.2:Int))) then
 guardF (0 ≤ v23 ∧ v23 < (List.length t.2:Int)) <|
 bindF (f198 kind (rd (0:Int) t.2 v23)) fun q7_5 =>
 guardF (0 ≤ v23 ∧ v23 < (List.length l3:Int)) <|
 go ((i64.wrap (v23 + (1:Int))),(List.set l3 (Int.toNat v23) q7_5.1))
 else
 some l3
def f179 (kind:Int) (t : (List Int)×(List Int)) : Option (Int×(List Int)×(List Int)) :=
 bindF (f179_j2 kind t) fun z5 =>
 sumF z5 (fun z5a =>
 bindF (f85 (t.1,t.2)) fun r11 =>
 bindF (loopF (fun go x=>f179_l4 kind t go x.1 x.2) fuelN ((0:Int),r11.2)) fun z12 =>
 some ((0:Int),r11.1,z12)) (fun z5b =>
 some ((1:Int),[],[]))
def C179 : Con where
 X := Int×((List Int)×(List Int))
 Y := Int×(List Int)×(List Int)
 e := 0
 args x := [.dat T0 x.1,.dat T7 x.2]
 hin x := []
 F x := f179 x.1 x.2
 ret y := [.raw true [(.osl 0),(.osl 1)],.dat T0 y.1]
 hout y := [(0,.arr 3 T0 y.2.1),(1,.arr 23 T0 y.2.2)]
 nout := 2
theorem C179_vc (kind:Int) (t : (List Int)×(List Int)) (y : Int×(List Int)×(List Int)) (hF : f179 kind t = some y) : VC Tryz.f179 C179 (kind,t) y := by
 unfold f179 at hF
 refine OL ?_
 obtain ⟨z5,hz5,hF⟩ := bindE hF
 refine OQ ⟨Sum.elim (fun z5a=>[(0,⟨[(0,.dat T0 kind),(3,P0 0 0),(4,P0 1 0)],[(0,.cells [(.d T4 t.1),(.d T4 t.2)]),(1,.cells [N0,N0])],2⟩)]) (fun z5b=>[(1,⟨[(4,P0 0 0),(5,D0 1)],[(0,.cells [N0,N0])],1⟩)]) z5,?_,?_⟩
 ·have hF := hz5
  clear hz5
  unfold f179_j2 at hF
  obtain ⟨z8,hz8,hF⟩ := bindE hF
  refine OQ ⟨[(0,⟨[(0,.dat T0 kind),(3,P0 0 0),(4,P0 1 0),(16,.dat .bool z8)],[(0,.cells [(.d T4 t.1),(.d T4 t.2)]),(1,.cells [N0,N0])],2⟩)],?_,?_⟩
  ·have hF := hz8
   clear hz8
   unfold f179_j3 at hF
   obtain ⟨r9,hr9,hF⟩ := bindE hF
   refine OL (AI f148_in (callV0 (callI C148 kind r9 [] false C148_holds hr9 rfl rfl (AI rfl (AI (fun h=>nomatch h) (R2 (AI TV (AI TV (condN hF (fun hF=>?_) (fun hF=>?_))))))))))
   ·refine gdYF ?_
    obtain ⟨r10,hr10,hF⟩ := bindE hF
    refine OL (AI f86_in (callV0 (callI C86 (t.1,t.2) r10 [] false C86_holds hr10 rfl rfl (R2 (AI (fun h=>nomatch h) (R2 (AI TV (AI TV (gdYF (condF ?_))))))))))
    have hz := someE hF
    subst hz
    refine E4 [(0,some 0),(1,some 1)] (R3 (AI (R2 TV) (R2 TV)))
   refine gdNF (gdNF (condT ?_))
   have hz := someE hF
   subst hz
   refine E4 [(0,some 0),(1,some 1)] (R3 (AI (R2 TV) (R2 TV)))
  refine AI (condI hF (fun hF=>?_) (fun hF=>?_)) TV
  ·refine OL (OL ?_)
   have hz := someE hF
   subst hz
   refine E4 [(0,some 1)] (R2 (AI (AI rfl TV) (AI rfl TV)))
  have hz := someE hF
  subst hz
  refine E4 [(0,some 0),(1,some 1)] (R2 (AI (R2 TV) (R2 TV)))
 rcases z5 with z5a | z5b
 ·dsimp only [sumF] at hF
  refine AI (OL ?_) TV
  obtain ⟨r11,hr11,hF⟩ := bindE hF
  refine OL (AI f85_in (callV0 (callI C85 (t.1,t.2) r11 [] false C85_holds hr11 rfl rfl (R2 (AI (fun h=>nomatch h) (R2 (AI TV (AI TV (OL (OL (OL ?_)))))))))))
  obtain ⟨z12,hz12,hF⟩ := bindE hF
  refine loopI (Int×(List Int)) (List Int) (fun x=>⟨[(0,.dat T0 kind),(4,P0 0 0),(6,P0 1 0),(21,.dat T4 t.2),(22,.dat T0 (List.length t.2:Int)),(23,.dat T0 x.1)],[(0,.cells [N0,N0]),(1,.cells [(.osl 2),(.osl 3)]),(2,.arr 3 T0 r11.1),(3,.arr 23 T0 x.2)],4⟩) (fun z=>[(2,⟨[(4,P0 0 0),(6,P0 1 0)],[(0,.cells [N0,N0]),(1,.cells [(.osl 2),(.osl 3)]),(2,.arr 3 T0 r11.1),(3,.arr 23 T0 z)],4⟩)]) (loopF (fun go x=>f179_l4 kind t go x.1 x.2)) fuelN ((0:Int),r11.2) z12 (AI hz12 (AI (E4 [(0,some 1),(1,some 4),(2,some 2),(3,some 3)] (R5 (AI (R2 TV) (R4 TV)))) (AI (fun _ _ h=>loopZ h) (AI (fun m=>curI (fun v23=>fun l3 z hF=>?_)) ?_))))
  ·have hF : f179_l4 kind t (loopF (fun go x=>f179_l4 kind t go x.1 x.2) m) v23 l3 = some z := hF
   unfold f179_l4 at hF
   refine OL (OL (condI hF (fun hF=>?_) (fun hF=>?_)))
   ·refine OL (OL (guardI hF (fun hF=>?_)))
    refine EI (.take 0 (.take 1 (.take 2 (.take 3 (.take 4 (.alt 5 (.take 6 (.take 7 (.take 8 (.take 9 (.alt 10 .done .done))))) .done)))))) (EI [] (EI [] (AI rfl (AI TV ?_))))
    obtain ⟨q7_5,hq7_5,hF⟩ := bindE hF
    refine OL (AI f198_in (callV0 (callI C198 (kind,(rd (0:Int) t.2 v23)) q7_5 [] false C198_holds hq7_5 rfl rfl (R2 (AI (fun h=>nomatch h) (R2 (AI TV (AI TV (guardI hF (fun hF=>?_))))))))))
    refine AI TV (OL (EI ((i64.wrap (v23 + (1:Int))),(List.set l3 (Int.toNat v23) q7_5.1)) (AI hF (E4 [(0,some 0),(1,some 1),(2,some 2),(3,some 3)] (R5 (AI (R2 TV) (R4 TV)))))))
   have hz := someE hF
   subst hz
   refine E4 [(0,some 0),(1,some 1),(2,some 2),(3,some 3)] (AI rfl (AI (R2 TV) (R4 TV)))
  refine AI (OL (OL ?_)) TV
  have hy := someE hF
  subst hy
  refine AI rfl (E4 [(0,some 2),(1,some 3)] (R2 (AI (AI rfl TV) (R2 TV))))
 dsimp only [sumF] at hF
 refine AI ?_ TV
 have hy := someE hF
 subst hy
 refine AI rfl (E4 [(0,none),(1,none)] (R2 (AI (AI rfl TV) (R2 TV))))
theorem C179_holds : C179.Holds Tryz.prog 179 := holds_of_vc tab_ok mixed (fn := Tryz.f179) (by kernel_rfl) rfl C179 (fun x y hF=>C179_vc x.1 x.2 y hF)
theorem f179_in : InP 179 := ⟨Tryz.f179,by kernel_rfl,by kernel_rfl,by kernel_rfl⟩
end Go.Proofs
