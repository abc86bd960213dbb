import Derived.Test.YtgkmdgdkmgkelaaGreatGradJoinsS2
set_option linter.unusedVariables false
set_option maxRecDepth 100000
set_option maxHeartbeats 8000000
namespace Go.Proofs
open Go.AM
open IntKind (i64 u64 i32 u32 i16 u16 i8 u8)
def f156_j3 (a : (List Int)×(List Int)) (wid:Int) : Option Bool :=
 bif (decide (wid < (1:Int))) then
 some true
 else
 guardF (0 ≤ (1:Int) ∧ (1:Int) < (List.length a.1:Int)) <|
 some (decide (wid > (rd (0:Int) a.1 (1:Int))))
def f156_j2 (a : (List Int)×(List Int)) (wid:Int) : Option (Sum Unit Int) :=
 bindF (f86 (a.1,a.2)) fun r4 =>
 bif (!r4) then
 some (Sum.inr (1:Int))
 else
 bif ((List.length a.1:Int) != (2:Int)) then
 some (Sum.inr (4:Int))
 else
 bindF (f156_j3 a wid) fun z5 =>
 bif z5 then
 some (Sum.inr (1:Int))
 else
 some (Sum.inl ())
def f156_l7 (a : (List Int)×(List Int)) (wid:Int) (v61:Int) (go : (Int×Int) → Option Int) (best:Int) (at_:Int) : Option Int :=
 guardF ((i64.wrap (Int.tdiv (rd (0:Int) a.1 (1:Int)) wid)) ≠ 0) <|
 guardF ((i64.wrap (Int.tdiv (rd (0:Int) a.1 (1:Int)) wid)) ≠ 0) <|
 bif (decide (at_ < (i64.wrap ((i64.wrap ((i64.wrap ((i64.wrap (Int.tdiv v61 (i64.wrap (Int.tdiv (rd (0:Int) a.1 (1:Int)) wid)))) * (rd (0:Int) a.1 (1:Int)))) + (i64.wrap ((Int.tmod v61 (i64.wrap (Int.tdiv (rd (0:Int) a.1 (1:Int)) wid))) * wid)))) + wid)))) then
 guardF (0 ≤ at_ ∧ at_ < (List.length a.2:Int)) <|
 guardF (0 ≤ best ∧ best < (List.length a.2:Int)) <|
 bif (decide ((rd (0:Int) a.2 at_) > (rd (0:Int) a.2 best))) then
 go (at_,(i64.wrap (at_ + (1:Int))))
 else
 go (best,(i64.wrap (at_ + (1:Int))))
 else
 some best
def f156_l6 (a : (List Int)×(List Int)) (wid:Int) (q7_11 : Int×(List Int)×(List Int)) (go : (Int×(List Int)×(List Int)) → Option ((List Int)×(List Int))) (v61:Int) (l3 : List Int) (l5 : List Int) : Option ((List Int)×(List Int)) :=
 bif (decide (v61 < (List.length q7_11.2.2:Int))) then
 guardF ((i64.wrap (Int.tdiv (rd (0:Int) a.1 (1:Int)) wid)) ≠ 0) <|
 guardF ((i64.wrap (Int.tdiv (rd (0:Int) a.1 (1:Int)) wid)) ≠ 0) <|
 bindF (loopF (fun go x=>f156_l7 a wid v61 go x.1 x.2) fuelN ((i64.wrap ((i64.wrap ((i64.wrap (Int.tdiv v61 (i64.wrap (Int.tdiv (rd (0:Int) a.1 (1:Int)) wid)))) * (rd (0:Int) a.1 (1:Int)))) + (i64.wrap ((Int.tmod v61 (i64.wrap (Int.tdiv (rd (0:Int) a.1 (1:Int)) wid))) * wid)))),(i64.wrap ((i64.wrap ((i64.wrap ((i64.wrap (Int.tdiv v61 (i64.wrap (Int.tdiv (rd (0:Int) a.1 (1:Int)) wid)))) * (rd (0:Int) a.1 (1:Int)))) + (i64.wrap ((Int.tmod v61 (i64.wrap (Int.tdiv (rd (0:Int) a.1 (1:Int)) wid))) * wid)))) + (1:Int))))) fun z9 =>
 guardF (0 ≤ z9 ∧ z9 < (List.length a.2:Int)) <|
 guardF (0 ≤ v61 ∧ v61 < (List.length l5:Int)) <|
 guardF ((List.length l3 + List.length ([z9])) * 8 ≤ 140737488355328) <|
 go ((i64.wrap (v61 + (1:Int))),(l3 ++ ([z9])),(List.set l5 (Int.toNat v61) (rd (0:Int) a.2 z9)))
 else
 some (l3,l5)
def f156 (a : (List Int)×(List Int)) (wid:Int) : Option (Int×(List Int)×(List Int)×(List Int)) :=
 bindF (f156_j2 a wid) fun z3 =>
 sumF z3 (fun z3a =>
 guardF (0 ≤ (1:Int) ∧ (1:Int) < (List.length a.1:Int)) <|
 guardF (0 ≤ (1:Int) ∧ (1:Int) < (List.length a.1:Int)) <|
 guardF (wid ≠ 0) <|
 guardF (0 ≤ (0:Int) ∧ (0:Int) < (List.length a.1:Int)) <|
 bindF (f153 ([(rd (0:Int) a.1 (0:Int)),(i64.wrap (Int.tdiv (rd (0:Int) a.1 (1:Int)) wid))])) fun q7_11 =>
 bindF (loopF (fun go x=>f156_l6 a wid q7_11 go x.1 x.2.1 x.2.2) fuelN ((0:Int),[],q7_11.2.2)) fun z8 =>
 some ((0:Int),q7_11.2.1,z8.2,z8.1)) (fun z3b =>
 some (z3b,[],[],[]))
def C156 : Con where
 X := ((List Int)×(List Int))×Int
 Y := Int×(List Int)×(List Int)×(List Int)
 e := 0
 args x := [.dat T7 x.1,.dat T0 x.2]
 hin x := []
 F x := f156 x.1 x.2
 ret y := [.raw true [(.osl 0),(.osl 1)],O0 2,.dat T0 y.1]
 hout y := [(0,.arr 3 T0 y.2.1),(1,.arr 23 T0 y.2.2.1),(2,.arr 3 T0 y.2.2.2)]
 nout := 3
theorem C156_vc (a : (List Int)×(List Int)) (wid:Int) (y : Int×(List Int)×(List Int)×(List Int)) (hF : f156 a wid = some y) : VC Tryz.f156 C156 (a,wid) y := by
 unfold f156 at hF
 refine OL ?_
 obtain ⟨z3,hz3,hF⟩ := bindE hF
 refine OQ ⟨Sum.elim (fun z3a=>[(0,⟨[(1,.dat T0 wid),(2,P0 0 0),(4,P0 1 0)],[(0,.cells [(.d T4 a.1),(.d T4 a.2)]),(1,.cells [N0,N0])],2⟩)]) (fun z3b=>[(1,⟨[(4,P0 0 0),(5,.raw false [N0]),(6,.dat T0 z3b)],[(0,.cells [N0,N0])],1⟩)]) z3,?_,?_⟩
 ·have hF := hz3
  clear hz3
  unfold f156_j2 at hF
  refine OL ?_
  obtain ⟨r4,hr4,hF⟩ := bindE hF
  refine OL (AI f86_in (callV0 (callI C86 (a.1,a.2) r4 [] false C86_holds hr4 rfl rfl (R2 (AI (fun h=>nomatch h) (R2 (AI TV (AI TV (condI hF (fun hF=>?_) (fun hF=>?_))))))))))
  ·refine OL (OL ?_)
   have hz := someE hF
   subst hz
   refine E4 [(0,some 1)] (R2 (AI (R2 TV) (AI rfl TV)))
  refine OL (condI hF (fun hF=>?_) (fun hF=>?_))
  ·refine OL (OL ?_)
   have hz := someE hF
   subst hz
   refine E4 [(0,some 1)] (R2 (AI (R2 TV) (AI rfl TV)))
  obtain ⟨z5,hz5,hF⟩ := bindE hF
  refine OQ ⟨[(0,⟨[(1,.dat T0 wid),(2,P0 0 0),(4,P0 1 0),(26,.dat .bool z5)],[(0,.cells [(.d T4 a.1),(.d T4 a.2)]),(1,.cells [N0,N0])],2⟩)],?_,?_⟩
  ·have hF := hz5
   clear hz5
   unfold f156_j3 at hF
   refine condN hF (fun hF=>?_) (fun hF=>?_)
   ·refine gdYF (gdYF (gdYF (guardI hF (fun hF=>?_))))
    refine gdYF (gdYF (condF ?_))
    have hz := someE hF
    subst hz
    refine E4 [(0,some 0),(1,some 1)] (R3 (AI (R2 TV) (R2 TV)))
   refine gdNF (gdNF (gdNF (gdNF (gdNF (condT ?_)))))
   have hz := someE hF
   subst hz
   refine E4 [(0,some 0),(1,some 1)] (R3 (AI (R2 TV) (R2 TV)))
  refine AI (condI hF (fun hF=>?_) (fun hF=>?_)) TV
  ·refine OL (OL ?_)
   have hz := someE hF
   subst hz
   refine E4 [(0,some 1)] (R2 (AI (R2 TV) (AI rfl TV)))
  have hz := someE hF
  subst hz
  refine E4 [(0,some 0),(1,some 1)] (R2 (AI (R2 TV) (R2 TV)))
 rcases z3 with z3a | z3b
 ·dsimp only [sumF] at hF
  refine AI (OL (EI (.take 0 (.take 1 (.take 2 (.take 3 (.take 4 (.take 5 (.take 6 (.take 7 (.take 8 (.take 9 (.take 10 (.take 11 .done)))))))))))) (EI [] (EI [] (AI rfl (guardI hF (fun hF=>?_))))))) TV
  refine guardI hF (fun hF=>?_)
  refine guardI hF (fun hF=>?_)
  refine OL (guardI hF (fun hF=>?_))
  refine OL ?_
  obtain ⟨q7_11,hq7_11,hF⟩ := bindE hF
  refine OL (AI f153_in (callV0 (callI C153 [(rd (0:Int) a.1 (0:Int)),(i64.wrap (Int.tdiv (rd (0:Int) a.1 (1:Int)) wid))] q7_11 [] true C153_holds hq7_11 rfl rfl (AI rfl (AI (fun _=>rfl) (R2 (AI TV (AI TV (OL (OL (OL (OL ?_))))))))))))
  obtain ⟨z8,hz8,hF⟩ := bindE hF
  refine loopI (Int×(List Int)×(List Int)) ((List Int)×(List Int)) (fun x=>⟨[(1,.dat T0 wid),(2,P0 0 0),(4,P0 1 0),(7,.dat T0 (rd (0:Int) a.1 (1:Int))),(8,.dat T0 (i64.wrap (Int.tdiv (rd (0:Int) a.1 (1:Int)) wid))),(9,P0 2 0),(11,O0 3),(60,.dat T0 (List.length q7_11.2.2:Int)),(61,.dat T0 x.1)],[(0,.cells [(.d T4 a.1),(.d T4 a.2)]),(1,.cells [N0,N0]),(2,.cells [(.osl 4),(.osl 5)]),(3,.arr 3 T0 x.2.1),(4,.arr 3 T0 q7_11.2.1),(5,.arr 23 T0 x.2.2)],6⟩) (fun z=>[(3,⟨[(4,P0 0 0),(9,P0 1 0),(11,O0 2)],[(0,.cells [N0,N0]),(1,.cells [(.osl 3),(.osl 4)]),(2,.arr 3 T0 z.1),(3,.arr 3 T0 q7_11.2.1),(4,.arr 23 T0 z.2)],5⟩)]) (loopF (fun go x=>f156_l6 a wid q7_11 go x.1 x.2.1 x.2.2)) fuelN ((0:Int),[],q7_11.2.2) z8 (AI hz8 (AI (E4 [(0,some 0),(1,some 1),(2,some 5),(3,none),(4,some 3),(5,some 4)] (R6 (AI (R4 TV) (R6 TV)))) (AI (fun _ _ h=>loopZ h) (AI (fun m=>curI (fun v61=>curI (fun l3=>fun l5 z hF=>?_))) ?_))))
  ·have hF : f156_l6 a wid q7_11 (loopF (fun go x=>f156_l6 a wid q7_11 go x.1 x.2.1 x.2.2) m) v61 l3 l5 = some z := hF
   unfold f156_l6 at hF
   refine OL (OL (condI hF (fun hF=>?_) (fun hF=>?_)))
   ·refine OL (OL (OL (EI (.take 0 (.take 1 (.take 2 (.take 3 (.take 4 (.take 5 (.take 6 (.take 7 (.take 8 (.take 9 (.take 10 (.take 11 .done)))))))))))) (EI [] (EI [] (AI rfl (guardI hF (fun hF=>?_))))))))
    refine guardI hF (fun hF=>?_)
    refine OL (OL ?_)
    obtain ⟨z9,hz9,hF⟩ := bindE hF
    refine loopI (Int×Int) Int (fun x=>⟨[(1,.dat T0 wid),(2,P0 0 0),(4,P0 1 0),(7,.dat T0 (rd (0:Int) a.1 (1:Int))),(8,.dat T0 (i64.wrap (Int.tdiv (rd (0:Int) a.1 (1:Int)) wid))),(9,P0 2 0),(11,O0 3),(12,.dat T0 v61),(13,.dat T0 x.1),(14,.dat T0 x.2),(60,.dat T0 (List.length q7_11.2.2:Int)),(61,.dat T0 v61)],[(0,.cells [(.d T4 a.1),(.d T4 a.2)]),(1,.cells [N0,N0]),(2,.cells [(.osl 4),(.osl 5)]),(3,.arr 3 T0 l3),(4,.arr 3 T0 q7_11.2.1),(5,.arr 23 T0 l5)],6⟩) (fun z=>[(5,⟨[(1,.dat T0 wid),(2,P0 0 0),(4,P0 1 0),(7,.dat T0 (rd (0:Int) a.1 (1:Int))),(8,.dat T0 (i64.wrap (Int.tdiv (rd (0:Int) a.1 (1:Int)) wid))),(9,P0 2 0),(11,O0 3),(12,.dat T0 v61),(13,.dat T0 z),(60,.dat T0 (List.length q7_11.2.2:Int)),(61,.dat T0 v61)],[(0,.cells [(.d T4 a.1),(.d T4 a.2)]),(1,.cells [N0,N0]),(2,.cells [(.osl 4),(.osl 5)]),(3,.arr 3 T0 l3),(4,.arr 3 T0 q7_11.2.1),(5,.arr 23 T0 l5)],6⟩)]) (loopF (fun go x=>f156_l7 a wid v61 go x.1 x.2)) fuelN ((i64.wrap ((i64.wrap ((i64.wrap (Int.tdiv v61 (i64.wrap (Int.tdiv (rd (0:Int) a.1 (1:Int)) wid)))) * (rd (0:Int) a.1 (1:Int)))) + (i64.wrap ((Int.tmod v61 (i64.wrap (Int.tdiv (rd (0:Int) a.1 (1:Int)) wid))) * wid)))),(i64.wrap ((i64.wrap ((i64.wrap ((i64.wrap (Int.tdiv v61 (i64.wrap (Int.tdiv (rd (0:Int) a.1 (1:Int)) wid)))) * (rd (0:Int) a.1 (1:Int)))) + (i64.wrap ((Int.tmod v61 (i64.wrap (Int.tdiv (rd (0:Int) a.1 (1:Int)) wid))) * wid)))) + (1:Int)))) z9 (AI hz9 (AI (E4 [(0,some 0),(1,some 1),(2,some 2),(3,some 3),(4,some 4),(5,some 5)] (R9 (AI (R4 TV) (R6 TV)))) (AI (fun _ _ h=>loopZ h) (AI (fun m=>curI (fun best=>fun at_ z hF=>?_)) ?_))))
    ·have hF : f156_l7 a wid v61 (loopF (fun go x=>f156_l7 a wid v61 go x.1 x.2) m) best at_ = some z := hF
     unfold f156_l7 at hF
     refine OL (OL (EI (.take 0 (.take 1 (.take 2 (.take 3 (.take 4 (.take 5 (.take 6 (.take 7 (.take 8 (.take 9 (.take 10 (.take 11 (.take 12 (.take 13 (.take 14 .done))))))))))))))) (EI [] (EI [] (AI rfl (guardI hF (fun hF=>?_)))))))
     refine guardI hF (fun hF=>?_)
     refine condI hF (fun hF=>?_) (fun hF=>?_)
     ·refine OL (OL (EI (.take 0 (.take 1 (.take 2 (.take 3 (.take 4 (.take 5 (.take 6 (.take 7 (.take 8 (.take 9 (.take 10 .done))))))))))) (EI [] (EI [] (AI rfl (guardI hF (fun hF=>?_)))))))
      refine guardI hF (fun hF=>?_)
      refine condI hF (fun hF=>?_) (fun hF=>?_)
      ·refine EI (at_,(i64.wrap (at_ + (1:Int)))) (AI hF (E4 [(0,some 0),(1,some 1),(2,some 2),(3,some 3),(4,some 4),(5,some 5)] (R9 (AI (R4 TV) (R6 TV)))))
      refine EI (best,(i64.wrap (at_ + (1:Int)))) (AI hF (E4 [(0,some 0),(1,some 1),(2,some 2),(3,some 3),(4,some 4),(5,some 5)] (R9 (AI (R4 TV) (R6 TV)))))
     have hz := someE hF
     subst hz
     refine E4 [(0,some 0),(1,some 1),(2,some 2),(3,some 3),(4,some 4),(5,some 5)] (R8 (AI (R4 TV) (R6 TV)))
    refine AI (OL (EI (.take 0 (.take 1 (.take 2 (.take 3 (.take 4 (.take 5 (.take 6 (.take 7 (.take 8 (.alt 9 .done .done)))))))))) (EI [] (EI [] (AI rfl (guardI hF (fun hF=>?_))))))) TV
    refine guardI hF (fun hF=>?_)
    refine AI TV (OL (OL (OL (guardI hF (fun hF=>?_)))))
    refine EI ((i64.wrap (v61 + (1:Int))),(l3 ++ ([z9])),(List.set l5 (Int.toNat v61) (rd (0:Int) a.2 z9))) (AI hF (E4 [(0,some 0),(1,some 1),(2,some 2),(3,some 7),(4,some 4),(5,some 5)] (R6 (AI (R4 TV) (R6 TV)))))
   have hz := someE hF
   subst hz
   refine E4 [(0,some 1),(1,some 2),(2,some 3),(3,some 4),(4,some 5)] (AI rfl (AI (R3 TV) (R5 TV)))
  refine AI (OL (OL ?_)) TV
  have hy := someE hF
  subst hy
  refine AI rfl (E4 [(0,some 3),(1,some 4),(2,some 2)] (R2 (AI (R2 TV) (R3 TV))))
 dsimp only [sumF] at hF
 refine AI ?_ TV
 have hy := someE hF
 subst hy
 refine AI rfl (E4 [(0,none),(1,none),(2,none)] (R2 (AI (R2 TV) (R3 TV))))
theorem C156_holds : C156.Holds Tryz.prog 156 := holds_of_vc tab_ok mixed (fn := Tryz.f156) (by kernel_rfl) rfl C156 (fun x y hF=>C156_vc x.1 x.2 y hF)
theorem f156_in : InP 156 := ⟨Tryz.f156,by kernel_rfl,by kernel_rfl,by kernel_rfl⟩
def f118_j3 (a : (List Int)×(List Int)) (d : List Int) : Option Bool :=
 bindF (f86 (a.1,a.2)) fun r8 =>
 bif (!r8) then
 some true
 else
 bindF (f72 d) fun r9 =>
 some (!r9)
def f118_j2 (a : (List Int)×(List Int)) (d : List Int) : Option (Sum Unit Int) :=
 bindF (f118_j3 a d) fun z7 =>
 bif z7 then
 some (Sum.inr (1:Int))
 else
 bindF (f83 d) fun q3_1 =>
 bif (q3_1 != (List.length a.2:Int)) then
 some (Sum.inr (4:Int))
 else
 some (Sum.inl ())
def f118 (a : (List Int)×(List Int)) (d : List Int) : Option (Int×(List Int)×(List Int)) :=
 bindF (f118_j2 a d) fun z5 =>
 sumF z5 (fun z5a =>
 bindF (f82 d) fun q5_1 =>
 bindF (f60 a.2) fun q5_4 =>
 some ((0:Int),q5_1,q5_4)) (fun z5b =>
 some (z5b,[],[]))
def C118 : Con where
 X := ((List Int)×(List Int))×(List Int)
 Y := Int×(List Int)×(List Int)
 e := 0
 args x := [.dat T7 x.1,.dat T4 x.2]
 hin x := []
 F x := f118 x.1 x.2
 ret y := [.raw true [(.osl 0),(.osl 1)],.dat T0 y.1]
 hout y := [(0,.arr 3 T0 y.2.1),(1,.arr 23 T0 y.2.2)]
 nout := 2
theorem C118_vc (a : (List Int)×(List Int)) (d : List Int) (y : Int×(List Int)×(List Int)) (hF : f118 a d = some y) : VC Tryz.f118 C118 (a,d) y := by
 unfold f118 at hF
 refine OL ?_
 obtain ⟨z5,hz5,hF⟩ := bindE hF
 refine OQ ⟨Sum.elim (fun z5a=>[(0,⟨[(1,.dat T4 d),(2,P0 0 0),(4,P0 1 0)],[(0,.cells [(.d T4 a.1),(.d T4 a.2)]),(1,.cells [N0,N0])],2⟩)]) (fun z5b=>[(1,⟨[(4,P0 0 0),(5,.dat T0 z5b)],[(0,.cells [N0,N0])],1⟩)]) z5,?_,?_⟩
 ·have hF := hz5
  clear hz5
  unfold f118_j2 at hF
  obtain ⟨z7,hz7,hF⟩ := bindE hF
  refine OQ ⟨[(0,⟨[(1,.dat T4 d),(2,P0 0 0),(4,P0 1 0),(6,.dat .bool z7)],[(0,.cells [(.d T4 a.1),(.d T4 a.2)]),(1,.cells [N0,N0])],2⟩)],?_,?_⟩
  ·have hF := hz7
   clear hz7
   unfold f118_j3 at hF
   obtain ⟨r8,hr8,hF⟩ := bindE hF
   refine OL (AI f86_in (callV0 (callI C86 (a.1,a.2) r8 [] false C86_holds hr8 rfl rfl (R2 (AI (fun h=>nomatch h) (R2 (AI TV (AI TV (condN hF (fun hF=>?_) (fun hF=>?_))))))))))
   ·refine gdYF ?_
    obtain ⟨r9,hr9,hF⟩ := bindE hF
    refine OL (AI f72_in (callV0 (callI C72 d r9 [] false C72_holds hr9 rfl rfl (AI rfl (AI (fun h=>nomatch h) (R2 (AI TV (AI TV (gdYF (condF ?_))))))))))
    have hz := someE hF
    subst hz
    refine E4 [(0,some 0),(1,some 1)] (R3 (AI (R2 TV) (R2 TV)))
   refine gdNF (gdNF (condT ?_))
   have hz := someE hF
   subst hz
   refine E4 [(0,some 0),(1,some 1)] (R3 (AI (R2 TV) (R2 TV)))
  refine AI (condI hF (fun hF=>?_) (fun hF=>?_)) TV
  ·refine OL (OL ?_)
   have hz := someE hF
   subst hz
   refine E4 [(0,some 1)] (R2 (AI (AI rfl TV) (AI rfl TV)))
  refine OL (EI (.take 0 (.take 2 (.take 3 (.take 4 (.alt 1 (.take 5 (.take 6 .done)) .done))))) (EI [] (EI [] (AI rfl (AI TV ?_)))))
  obtain ⟨q3_1,hq3_1,hF⟩ := bindE hF
  refine OL (AI f83_in (callV0 (callI C83 d q3_1 [] false C83_holds hq3_1 rfl rfl (AI rfl (AI (fun h=>nomatch h) (R2 (AI TV (AI TV (condI hF (fun hF=>?_) (fun hF=>?_))))))))))
  ·refine OL (OL ?_)
   have hz := someE hF
   subst hz
   refine E4 [(0,some 1)] (R2 (AI (AI rfl TV) (AI rfl TV)))
  have hz := someE hF
  subst hz
  refine E4 [(0,some 0),(1,some 1)] (R2 (AI (R2 TV) (R2 TV)))
 rcases z5 with z5a | z5b
 ·dsimp only [sumF] at hF
  refine AI (OL (EI (.take 0 (.take 2 (.take 3 (.alt 1 (.alt 4 (.take 5 (.alt 6 (.take 7 .done) .done)) .done) .done)))) (EI [] (EI [] (AI rfl (AI TV ?_)))))) TV
  obtain ⟨q5_1,hq5_1,hF⟩ := bindE hF
  refine OL (AI f82_in (callV0 (callI C82 d q5_1 [] false C82_holds hq5_1 rfl rfl (AI rfl (AI (fun h=>nomatch h) (R2 (AI TV (AI TV (AI TV ?_)))))))))
  obtain ⟨q5_4,hq5_4,hF⟩ := bindE hF
  refine OL (AI f60_in (callV0 (callI C60 a.2 q5_4 [] false C60_holds hq5_4 rfl rfl (AI rfl (AI (fun h=>nomatch h) (R2 (AI TV (AI TV (AI TV (OL ?_))))))))))
  have hy := someE hF
  subst hy
  refine AI rfl (E4 [(0,some 2),(1,some 3)] (R2 (AI (AI rfl TV) (R2 TV))))
 dsimp only [sumF] at hF
 refine AI ?_ TV
 have hy := someE hF
 subst hy
 refine AI rfl (E4 [(0,none),(1,none)] (R2 (AI (AI rfl TV) (R2 TV))))
theorem C118_holds : C118.Holds Tryz.prog 118 := holds_of_vc tab_ok mixed (fn := Tryz.f118) (by kernel_rfl) rfl C118 (fun x y hF=>C118_vc x.1 x.2 y hF)
theorem f118_in : InP 118 := ⟨Tryz.f118,by kernel_rfl,by kernel_rfl,by kernel_rfl⟩
def f139 (op:Int) (a : (List Int)×(List Int)) (k:Int) : Option (Int×(List Int)×(List Int)) :=
 bif (op == (5:Int)) then
 bindF (f111 (a.1,a.2) k) fun r1 =>
 some (r1.1,r1.2.1,r1.2.2)
 else
 bif (op == (7:Int)) then
 bindF (f113 (a.1,a.2)) fun r2 =>
 some (r2.1,r2.2.1,r2.2.2)
 else
 bif (op == (8:Int)) then
 bindF (f175 (a.1,a.2) k) fun r3 =>
 some (r3.1,r3.2.1,r3.2.2)
 else
 bif (op == (9:Int)) then
 bindF (f177 (a.1,a.2)) fun r4 =>
 bindF (f176 r4.1 r4.2) fun r5 =>
 some (r5.1,r5.2.1,r5.2.2)
 else
 bif (op == (10:Int)) then
 bindF (f178 (a.1,a.2)) fun r6 =>
 bindF (f176 r6.1 r6.2) fun r7 =>
 some (r7.1,r7.2.1,r7.2.2)
 else
 bif (op == (11:Int)) then
 bindF (f179 k (a.1,a.2)) fun r8 =>
 some (r8.1,r8.2.1,r8.2.2)
 else
 bif (op == (13:Int)) then
 bindF (f156 (a.1,a.2) k) fun r9 =>
 some (r9.1,r9.2.1,r9.2.2.1)
 else
 bindF (f118 (a.1,a.2) ([(List.length a.2:Int)])) fun r10 =>
 some (r10.1,r10.2.1,r10.2.2)
def C139 : Con where
 X := Int×((List Int)×(List Int))×Int
 Y := Int×(List Int)×(List Int)
 e := 0
 args x := [.dat T0 x.1,.dat T7 x.2.1,.dat T0 x.2.2]
 hin x := []
 F x := f139 x.1 x.2.1 x.2.2
 ret y := [.raw true [(.osl 0),(.osl 1)],.dat T0 y.1]
 hout y := [(0,.arr 3 T0 y.2.1),(1,.arr 23 T0 y.2.2)]
 nout := 2
theorem C139_vc (op:Int) (a : (List Int)×(List Int)) (k:Int) (y : Int×(List Int)×(List Int)) (hF : f139 op a k = some y) : VC Tryz.f139 C139 (op,a,k) y := by
 unfold f139 at hF
 refine OL (OL (OL (OL (condI hF (fun hF=>?_) (fun hF=>?_)))))
 ·refine OL ?_
  obtain ⟨r1,hr1,hF⟩ := bindE hF
  refine OL (AI f111_in (callV0 (callI C111 ((a.1,a.2),k) r1 [] false C111_holds hr1 rfl rfl (R3 (AI (fun h=>nomatch h) (R2 (AI TV (AI TV (OL ?_)))))))))
  have hy := someE hF
  subst hy
  refine AI rfl (E4 [(0,some 2),(1,some 3)] (R2 (AI (AI rfl TV) (R2 TV))))
 refine OL (condI hF (fun hF=>?_) (fun hF=>?_))
 ·refine OL ?_
  obtain ⟨r2,hr2,hF⟩ := bindE hF
  refine OL (AI f113_in (callV0 (callI C113 (a.1,a.2) r2 [] false C113_holds hr2 rfl rfl (R2 (AI (fun h=>nomatch h) (R2 (AI TV (AI TV (OL ?_)))))))))
  have hy := someE hF
  subst hy
  refine AI rfl (E4 [(0,some 2),(1,some 3)] (R2 (AI (AI rfl TV) (R2 TV))))
 refine OL (condI hF (fun hF=>?_) (fun hF=>?_))
 ·refine OL ?_
  obtain ⟨r3,hr3,hF⟩ := bindE hF
  refine OL (AI f175_in (callV0 (callI C175 ((a.1,a.2),k) r3 [] false C175_holds hr3 rfl rfl (R3 (AI (fun h=>nomatch h) (R2 (AI TV (AI TV (OL ?_)))))))))
  have hy := someE hF
  subst hy
  refine AI rfl (E4 [(0,some 2),(1,some 3)] (R2 (AI (AI rfl TV) (R2 TV))))
 refine OL (condI hF (fun hF=>?_) (fun hF=>?_))
 ·refine OL ?_
  obtain ⟨r4,hr4,hF⟩ := bindE hF
  refine OL (AI f177_in (callV0 (callI C177 (a.1,a.2) r4 [] false C177_holds hr4 rfl rfl (R2 (AI (fun h=>nomatch h) (R2 (AI TV (AI TV ?_))))))))
  obtain ⟨r5,hr5,hF⟩ := bindE hF
  refine OL (AI f176_in (callV0 (callI C176 (r4.1,r4.2) r5 [] false C176_holds hr5 rfl rfl (R2 (AI (fun h=>nomatch h) (R2 (AI TV (AI TV (OL ?_)))))))))
  have hy := someE hF
  subst hy
  refine AI rfl (E4 [(0,some 2),(1,some 3)] (R2 (AI (AI rfl TV) (R2 TV))))
 refine OL (condI hF (fun hF=>?_) (fun hF=>?_))
 ·refine OL ?_
  obtain ⟨r6,hr6,hF⟩ := bindE hF
  refine OL (AI f178_in (callV0 (callI C178 (a.1,a.2) r6 [] false C178_holds hr6 rfl rfl (R2 (AI (fun h=>nomatch h) (R2 (AI TV (AI TV ?_))))))))
  obtain ⟨r7,hr7,hF⟩ := bindE hF
  refine OL (AI f176_in (callV0 (callI C176 (r6.1,r6.2) r7 [] false C176_holds hr7 rfl rfl (R2 (AI (fun h=>nomatch h) (R2 (AI TV (AI TV (OL ?_)))))))))
  have hy := someE hF
  subst hy
  refine AI rfl (E4 [(0,some 2),(1,some 3)] (R2 (AI (AI rfl TV) (R2 TV))))
 refine OL (condI hF (fun hF=>?_) (fun hF=>?_))
 ·refine OL ?_
  obtain ⟨r8,hr8,hF⟩ := bindE hF
  refine OL (AI f179_in (callV0 (callI C179 (k,(a.1,a.2)) r8 [] false C179_holds hr8 rfl rfl (R3 (AI (fun h=>nomatch h) (R2 (AI TV (AI TV (OL ?_)))))))))
  have hy := someE hF
  subst hy
  refine AI rfl (E4 [(0,some 2),(1,some 3)] (R2 (AI (AI rfl TV) (R2 TV))))
 refine OL (condI hF (fun hF=>?_) (fun hF=>?_))
 ·refine OL ?_
  obtain ⟨r9,hr9,hF⟩ := bindE hF
  refine OL (AI f156_in (callV0 (callI C156 ((a.1,a.2),k) r9 [] false C156_holds hr9 rfl rfl (R3 (AI (fun h=>nomatch h) (R2 (AI TV (AI TV (OL (OL (OL ?_)))))))))))
  have hy := someE hF
  subst hy
  refine AI rfl (E4 [(0,some 2),(1,some 3)] (R2 (AI (AI rfl TV) (R2 TV))))
 refine OL (OL ?_)
 obtain ⟨r10,hr10,hF⟩ := bindE hF
 refine OL (AI f118_in (callV0 (callI C118 ((a.1,a.2),[(List.length a.2:Int)]) r10 [] true C118_holds hr10 rfl rfl (R3 (AI (fun _=>rfl) (R2 (AI TV (AI TV (OL ?_)))))))))
 have hy := someE hF
 subst hy
 refine AI rfl (E4 [(0,some 3),(1,some 4)] (R2 (AI (AI rfl TV) (R2 TV))))
theorem C139_holds : C139.Holds Tryz.prog 139 := holds_of_vc tab_ok mixed (fn := Tryz.f139) (by kernel_rfl) rfl C139 (fun x y hF=>C139_vc x.1 x.2.1 x.2.2 y hF)
theorem f139_in : InP 139 := ⟨Tryz.f139,by kernel_rfl,by kernel_rfl,by kernel_rfl⟩
def f105_j1 (t_l : List (Int×Int×Int×Int×(List Int)×(List Int))) (op:Int) (a:Int) (b:Int) : Option (Sum (List (Int×Int×Int×Int×(List Int)×(List Int))) (Int×(List (Int×Int×Int×Int×(List Int)×(List Int))))) :=
 bif (decide ((List.length t_l:Int) ≥ (512:Int))) then
 some (Sum.inr ((2:Int),t_l))
 else
 bif (decide (op < (2:Int))) then
 some (Sum.inr ((1:Int),t_l))
 else
 bif (decide (op > (14:Int))) then
 some (Sum.inr ((1:Int),t_l))
 else
 bindF (f84 t_l a) fun r5 =>
 bif (!r5.1) then
 some (Sum.inr ((1:Int),r5.2))
 else
 bindF (f136 op) fun r6 =>
 bif r6 then
 bindF (f84 r5.2 b) fun r7 =>
 bif (!r7.1) then
 some (Sum.inr ((1:Int),r7.2))
 else
 some (Sum.inl r7.2)
 else
 some (Sum.inl r5.2)
def f105_j2 (op:Int) (k:Int) : Option Int :=
 bindF (f137 op) fun r10 =>
 bif r10 then
 some k
 else
 some (0:Int)
def f105_j3 (op:Int) (a:Int) (b:Int) (k:Int) (z4a : List (Int×Int×Int×Int×(List Int)×(List Int))) : Option (Int×Int×(List Int)×(List Int)) :=
 bindF (f136 op) fun r13 =>
 bif r13 then
 guardF (0 ≤ a ∧ a < (List.length z4a:Int)) <|
 guardF (0 ≤ b ∧ b < (List.length z4a:Int)) <|
 bindF (f138 op ((((((rd (Ty.z T6) z4a a).2).2).2).2).1,(((((rd (Ty.z T6) z4a a).2).2).2).2).2) ((((((rd (Ty.z T6) z4a b).2).2).2).2).1,(((((rd (Ty.z T6) z4a b).2).2).2).2).2) k) fun q11_18 =>
 some (q11_18.1,b,q11_18.2.1,q11_18.2.2)
 else
 guardF (0 ≤ a ∧ a < (List.length z4a:Int)) <|
 bindF (f139 op ((((((rd (Ty.z T6) z4a a).2).2).2).2).1,(((((rd (Ty.z T6) z4a a).2).2).2).2).2) k) fun q11_24 =>
 some (q11_24.1,(-1:Int),q11_24.2.1,q11_24.2.2)
def f105 (t_l : List (Int×Int×Int×Int×(List Int)×(List Int))) (op:Int) (a:Int) (b:Int) (k:Int) : Option (Int×Int×(List (Int×Int×Int×Int×(List Int)×(List Int)))) :=
 bindF (f105_j1 t_l op a b) fun z4 =>
 sumF z4 (fun z4a =>
 bindF (f105_j2 op k) fun z9 =>
 bindF (f105_j3 op a b k z4a) fun z12 =>
 bif (z12.1 != (0:Int)) then
 some ((0:Int),z12.1,z4a)
 else
 bindF (f104 z4a (op,a,z12.2.1,z9,z12.2.2.1,z12.2.2.2)) fun r14 =>
 some (r14.1,(0:Int),r14.2)) (fun z4b =>
 some ((0:Int),z4b.1,z4b.2))
def C105 : Con where
 X := (List (Int×Int×Int×Int×(List Int)×(List Int)))×Int×Int×Int×Int
 Y := Int×Int×(List (Int×Int×Int×Int×(List Int)×(List Int)))
 e := 2
 args x := [P0 0 0,.dat T0 x.2.1,.dat T0 x.2.2.1,.dat T0 x.2.2.2.1,.dat T0 x.2.2.2.2]
 hin x := [(0,.cells [(.osl 1)]),(1,.arr 132 T6 x.1)]
 F x := f105 x.1 x.2.1 x.2.2.1 x.2.2.2.1 x.2.2.2.2
 ret y := [.dat T0 y.1,.dat T0 y.2.1]
 hout y := [(0,.cells [(.osl 2)]),(2,.arr 132 T6 y.2.2)]
 nout := 3
theorem C105_vc (t_l : List (Int×Int×Int×Int×(List Int)×(List Int))) (op:Int) (a:Int) (b:Int) (k:Int) (y : Int×Int×(List (Int×Int×Int×Int×(List Int)×(List Int)))) (hF : f105 t_l op a b k = some y) : vc Tryz.prog tab Tryz.f105.ntmps 2 (match Tryz.f105.body with | some c=>c | none=>.skip) (retK tab C105 Tryz.f105.results.toList y) (C105.shIn (t_l,op,a,b,k)).st := by
 unfold f105 at hF
 refine OL ?_
 obtain ⟨z4,hz4,hF⟩ := bindE hF
 refine OQ ⟨Sum.elim (fun z4a=>[(0,⟨[(0,P0 0 0),(1,.dat T0 op),(2,.dat T0 a),(3,.dat T0 b),(4,.dat T0 k)],[(0,.cells [(.osl 1)]),(1,.arr 132 T6 z4a)],2⟩)]) (fun z4b=>[(1,⟨[(10,D0 0),(11,.dat T0 z4b.1)],[(0,.cells [(.osl 1)]),(1,.arr 132 T6 z4b.2)],2⟩)]) z4,?_,?_⟩
 ·have hF := hz4
  clear hz4
  unfold f105_j1 at hF
  refine OL (condI hF (fun hF=>?_) (fun hF=>?_))
  ·refine OL ?_
   have hz := someE hF
   subst hz
   refine E4 [(0,some 0),(1,some 1)] (R3 (AI TV (R2 TV)))
  refine OL (condN hF (fun hF=>?_) (fun hF=>?_))
  ·refine gdYF (condF (condN hF (fun hF=>?_) (fun hF=>?_)))
   ·refine gdYF (gdYF ?_)
    obtain ⟨r5,hr5,hF⟩ := bindE hF
    refine OL (AI f84_in (callV0 (callI C84 (t_l,a) r5 [(0,some 0),(1,some 1)] false C84_holds hr5 rfl rfl (AI rfl (AI (fun h=>nomatch h) (R2 (AI (AI rfl TV) (AI (R2 TV) (gdYF (condF (condN hF (fun hF=>?_) (fun hF=>?_))))))))))))
    ·refine gdYF ?_
     obtain ⟨r6,hr6,hF⟩ := bindE hF
     refine OL (AI f136_in (callV0 (callI C136 op r6 [] false C136_holds hr6 rfl rfl (AI rfl (AI (fun h=>nomatch h) (R2 (AI TV (AI TV (gdYF (condI hF (fun hF=>?_) (fun hF=>?_)))))))))))
     ·refine gdYT (gdYT ?_)
      obtain ⟨r7,hr7,hF⟩ := bindE hF
      refine OL (AI f84_in (callV0 (callI C84 (r5.2,b) r7 [(0,some 0),(1,some 1)] false C84_holds hr7 rfl rfl (AI rfl (AI (fun h=>nomatch h) (R2 (AI (AI rfl TV) (AI (R2 TV) (gdYT (gdYF (condT (condF (condI hF (fun hF=>?_) (fun hF=>?_))))))))))))))
      ·refine OL ?_
       have hz := someE hF
       subst hz
       refine E4 [(0,some 0),(1,some 1)] (R3 (AI TV (R2 TV)))
      have hz := someE hF
      subst hz
      refine E4 [(0,some 0),(1,some 1)] (R5 (AI (AI rfl TV) (R2 TV)))
     refine gdNT (gdNT (gdNT (gdYF (condF (condF (condF ?_))))))
     have hz := someE hF
     subst hz
     refine E4 [(0,some 0),(1,some 1)] (R5 (AI (AI rfl TV) (R2 TV)))
    refine gdNF (gdNF (gdNF (condT (condT (OL ?_)))))
    have hz := someE hF
    subst hz
    refine E4 [(0,some 0),(1,some 1)] (R3 (AI TV (R2 TV)))
   refine gdNF (gdNF (gdNF (condT (gdNF (gdNF (gdNF (gdNF (condT (condT (OL ?_))))))))))
   have hz := someE hF
   subst hz
   refine E4 [(0,some 0),(1,some 1)] (R3 (AI TV (R2 TV)))
  refine gdNF (condT (gdNF (gdNF (gdNF (gdNF (condT (gdNF (gdNF (gdNF (gdNF (condT (condT (OL ?_)))))))))))))
  have hz := someE hF
  subst hz
  refine E4 [(0,some 0),(1,some 1)] (R3 (AI TV (R2 TV)))
 rcases z4 with z4a | z4b
 ·dsimp only [sumF] at hF
  refine AI (OL (OL ?_)) TV
  obtain ⟨z9,hz9,hF⟩ := bindE hF
  refine OQ ⟨[(0,⟨[(0,P0 0 0),(1,.dat T0 op),(2,.dat T0 a),(3,.dat T0 b),(4,.dat T0 k),(12,P0 2 0)],[(0,.cells [(.osl 1)]),(1,.arr 132 T6 z4a),(2,.cells [(.d T0 op),(.d T0 a),(.d T0 (-1:Int)),(.d T0 z9),N0,N0])],3⟩)],?_,?_⟩
  ·have hF := hz9
   clear hz9
   unfold f105_j2 at hF
   refine OL ?_
   obtain ⟨r10,hr10,hF⟩ := bindE hF
   refine OL (AI f137_in (callV0 (callI C137 op r10 [] false C137_holds hr10 rfl rfl (AI rfl (AI (fun h=>nomatch h) (R2 (AI TV (AI TV (condI hF (fun hF=>?_) (fun hF=>?_))))))))))
   ·refine OL ?_
    have hz := someE hF
    subst hz
    refine E4 [(0,some 0),(1,some 1),(2,some 2)] (R5 (AI (R2 TV) (R3 TV)))
   have hz := someE hF
   subst hz
   refine E4 [(0,some 0),(1,some 1),(2,some 2)] (R5 (AI (R2 TV) (R3 TV)))
  refine AI (OL ?_) TV
  obtain ⟨z12,hz12,hF⟩ := bindE hF
  refine OQ ⟨[(0,⟨[(0,P0 0 0),(12,P0 2 0),(13,.dat T0 z12.1)],[(0,.cells [(.osl 1)]),(1,.arr 132 T6 z4a),(2,.cells [(.d T0 op),(.d T0 a),(.d T0 z12.2.1),(.d T0 z9),(.osl 3),(.osl 4)]),(3,.arr 3 T0 z12.2.2.1),(4,.arr 23 T0 z12.2.2.2)],5⟩)],?_,?_⟩
  ·have hF := hz12
   clear hz12
   unfold f105_j3 at hF
   refine OL ?_
   obtain ⟨r13,hr13,hF⟩ := bindE hF
   refine OL (AI f136_in (callV0 (callI C136 op r13 [] false C136_holds hr13 rfl rfl (AI rfl (AI (fun h=>nomatch h) (R2 (AI TV (AI TV (condI hF (fun hF=>?_) (fun hF=>?_))))))))))
   ·refine OL (OL (EI (.take 0 (.take 1 (.take 2 (.take 3 (.take 4 (.take 5 (.take 6 (.take 7 (.take 8 (.take 9 (.take 10 (.take 11 (.take 12 (.take 13 (.take 14 (.take 15 (.take 16 (.take 17 (.alt 18 (.take 19 (.take 20 (.take 21 (.take 22 (.alt 23 (.take 24 .done) .done))))) .done))))))))))))))))))) (EI [] (EI [] (AI rfl (guardI hF (fun hF=>?_)))))))
    refine guardI hF (fun hF=>?_)
    refine AI TV ?_
    obtain ⟨q11_18,hq11_18,hF⟩ := bindE hF
    refine OL (AI f138_in (callV0 (callI C138 (op,((((((rd (Ty.z T6) z4a a).2).2).2).2).1,(((((rd (Ty.z T6) z4a a).2).2).2).2).2),((((((rd (Ty.z T6) z4a b).2).2).2).2).1,(((((rd (Ty.z T6) z4a b).2).2).2).2).2),k) q11_18 [] false C138_holds hq11_18 rfl rfl (R6 (AI (fun h=>nomatch h) (R2 (AI TV (AI TV (AI TV (OL ?_))))))))))
    have hz := someE hF
    subst hz
    refine E4 [(0,some 0),(1,some 1),(2,some 2),(3,some 3),(4,some 4)] (R2 (AI (R2 TV) (R5 TV)))
   refine guardI hF (fun hF=>?_)
   obtain ⟨q11_24,hq11_24,hF⟩ := bindE hF
   refine OL (AI f139_in (callV0 (callI C139 (op,((((((rd (Ty.z T6) z4a a).2).2).2).2).1,(((((rd (Ty.z T6) z4a a).2).2).2).2).2),k) q11_24 [] false C139_holds hq11_24 rfl rfl (R4 (AI (fun h=>nomatch h) (R2 (AI TV (AI TV (OL ?_)))))))))
   have hz := someE hF
   subst hz
   refine E4 [(0,some 0),(1,some 1),(2,some 2),(3,some 3),(4,some 4)] (R2 (AI (R2 TV) (R5 TV)))
  refine AI (OL (OL (condI hF (fun hF=>?_) (fun hF=>?_)))) TV
  ·refine OL ?_
   have hy := someE hF
   subst hy
   refine AI rfl (E4 [(0,some 0),(2,some 1)] (R3 (AI TV (R2 TV))))
  refine OL ?_
  obtain ⟨r14,hr14,hF⟩ := bindE hF
  refine OL (AI f104_in (callV0 (callI C104 (z4a,(op,a,z12.2.1,z9,z12.2.2.1,z12.2.2.2)) r14 [(0,some 0),(1,some 1)] false C104_holds hr14 rfl rfl (R2 (AI (fun h=>nomatch h) (R2 (AI (AI rfl TV) (AI (R2 TV) ?_))))))))
  have hy := someE hF
  subst hy
  refine AI rfl (E4 [(0,some 0),(2,some 7)] (R3 (AI TV (R2 TV))))
 dsimp only [sumF] at hF
 refine AI ?_ TV
 have hy := someE hF
 subst hy
 refine AI rfl (E4 [(0,some 0),(2,some 1)] (R3 (AI TV (R2 TV))))
theorem C105_holds : C105.Holds Tryz.prog 105 := holds_of_vc tab_ok mixed (fn := Tryz.f105) (by kernel_rfl) rfl C105 (fun x y hF=>C105_vc x.1 x.2.1 x.2.2.1 x.2.2.2.1 x.2.2.2.2 y hF)
theorem f105_in : InP 105 := ⟨Tryz.f105,by kernel_rfl,by kernel_rfl,by kernel_rfl⟩
def f75 (r_t_l : List (Int×Int×Int×Int×(List Int)×(List Int))) (r_e:Int) (r_p : List Int) (r_leafs : List Int) (op:Int) (a:Int) (b:Int) (k:Int) : Option (Int×Int×(List Int)×(List Int)×(List (Int×Int×Int×Int×(List Int)×(List Int)))) :=
 bif (r_e != (0:Int)) then
 some ((0:Int),r_e,r_p,r_leafs,r_t_l)
 else
 bindF (f105 r_t_l op a b k) fun r1 =>
 some (r1.1,r1.2.1,r_p,r_leafs,r1.2.2)
def C75 : Con where
 X := (List (Int×Int×Int×Int×(List Int)×(List Int)))×Int×(List Int)×(List Int)×Int×Int×Int×Int
 Y := Int×Int×(List Int)×(List Int)×(List (Int×Int×Int×Int×(List Int)×(List Int)))
 e := 4
 args x := [P0 0 0,.dat T0 x.2.2.2.2.1,.dat T0 x.2.2.2.2.2.1,.dat T0 x.2.2.2.2.2.2.1,.dat T0 x.2.2.2.2.2.2.2]
 hin x := [(0,.cells [(.ptr 1 0),(.d T0 x.2.1),(.d T4 x.2.2.1),(.osl 3)]),(1,.cells [(.osl 2)]),(2,.arr 132 T6 x.1),(3,.arr 3 T0 x.2.2.2.1)]
 F x := f75 x.1 x.2.1 x.2.2.1 x.2.2.2.1 x.2.2.2.2.1 x.2.2.2.2.2.1 x.2.2.2.2.2.2.1 x.2.2.2.2.2.2.2
 ret y := [.dat T0 y.1]
 hout y := [(0,.cells [(.ptr 1 0),(.d T0 y.2.1),(.d T4 y.2.2.1),(.osl 3)]),(1,.cells [(.osl 4)]),(3,.arr 3 T0 y.2.2.2.1),(4,.arr 132 T6 y.2.2.2.2)]
 nout := 5
theorem C75_vc (r_t_l : List (Int×Int×Int×Int×(List Int)×(List Int))) (r_e:Int) (r_p : List Int) (r_leafs : List Int) (op:Int) (a:Int) (b:Int) (k:Int) (y : Int×Int×(List Int)×(List Int)×(List (Int×Int×Int×Int×(List Int)×(List Int)))) (hF : f75 r_t_l r_e r_p r_leafs op a b k = some y) : vc Tryz.prog tab Tryz.f75.ntmps 4 (match Tryz.f75.body with | some c=>c | none=>.skip) (retK tab C75 Tryz.f75.results.toList y) (C75.shIn (r_t_l,r_e,r_p,r_leafs,op,a,b,k)).st := by
 unfold f75 at hF
 refine OL (OL (OL (condI hF (fun hF=>?_) (fun hF=>?_))))
 ·refine OL ?_
  have hy := someE hF
  subst hy
  refine AI rfl (E4 [(0,some 0),(1,some 1),(3,some 3),(4,some 2)] (R2 (AI TV (R4 TV))))
 refine OL ?_
 obtain ⟨r1,hr1,hF⟩ := bindE hF
 refine OL (AI f105_in (callV0 (callI C105 (r_t_l,op,a,b,k) r1 [(0,some 1),(1,some 2)] false C105_holds hr1 rfl rfl (R4 (AI (fun h=>nomatch h) (R2 (AI (AI rfl TV) (AI (R2 TV) (OL (OL (OL ?_)))))))))))
 have hy := someE hF
 subst hy
 refine AI rfl (E4 [(0,some 0),(1,some 1),(3,some 3),(4,some 6)] (R2 (AI TV (R4 TV))))
theorem C75_holds : C75.Holds Tryz.prog 75 := holds_of_vc tab_ok mixed (fn := Tryz.f75) (by kernel_rfl) rfl C75 (fun x y hF=>C75_vc x.1 x.2.1 x.2.2.1 x.2.2.2.1 x.2.2.2.2.1 x.2.2.2.2.2.1 x.2.2.2.2.2.2.1 x.2.2.2.2.2.2.2 y hF)
theorem f75_in : InP 75 := ⟨Tryz.f75,by kernel_rfl,by kernel_rfl,by kernel_rfl⟩
def f47_j1 (in_ : List Int) (x_:Int) (r2 : Int×Int×Int×(List Int)×(List Int)×(List (Int×Int×Int×Int×(List Int)×(List Int)))) : Option (Int×Int×(List Int)×(List Int)×(List (Int×Int×Int×Int×(List Int)×(List Int)))) :=
 bif ((List.length in_:Int) == (2:Int)) then
 bindF (f75 r2.2.2.2.2.2 r2.2.2.1 r2.2.2.2.1 r2.2.2.2.2.1 (14:Int) x_ (0:Int) (0:Int)) fun r5 =>
 some (r5.1,r5.2.1,r5.2.2.1,r5.2.2.2.1,r5.2.2.2.2)
 else
 some (x_,r2.2.2.1,r2.2.2.2.1,r2.2.2.2.2.1,r2.2.2.2.2.2)
def f47 (r_t_l : List (Int×Int×Int×Int×(List Int)×(List Int))) (r_e:Int) (r_p : List Int) (r_leafs : List Int) (l : ByteArray×Int×Int) (in_ : List Int) (x_:Int) (ahead:Int) : Option (Int×Int×(List Int)×(List Int)×(List (Int×Int×Int×Int×(List Int)×(List Int)))) :=
 bindF (f71 (l.1,l.2.1,l.2.2) in_) fun r1 =>
 bindF (f74 r_t_l r_e r_p r_leafs r1) fun r2 =>
 bif (ByteArray.toList l.1 == ByteArray.toList (ByteArray.mk #[100,101,110,115,101])) then
 bindF (f47_j1 in_ x_ r2) fun z4 =>
 bindF (f75 z4.2.2.2.2 z4.2.1 z4.2.2.1 z4.2.2.2.1 (4:Int) r2.1 z4.1 (0:Int)) fun r6 =>
 bindF (f75 r6.2.2.2.2 r6.2.1 r6.2.2.1 r6.2.2.2.1 (8:Int) r6.1 (0:Int) (1:Int)) fun r7 =>
 bindF (f75 r7.2.2.2.2 r7.2.1 r7.2.2.1 r7.2.2.2.1 (2:Int) r7.1 r2.2.1 (0:Int)) fun r8 =>
 some (r8.1,r8.2.1,r8.2.2.1,r8.2.2.2.1,r8.2.2.2.2)
 else
 bif (ByteArray.toList l.1 == ByteArray.toList (ByteArray.mk #[99,111,110,118])) then
 bindF (f75 r2.2.2.2.2.2 r2.2.2.1 r2.2.2.2.1 r2.2.2.2.2.1 (12:Int) x_ r2.1 (1:Int)) fun r9 =>
 some (r9.1,r9.2.1,r9.2.2.1,r9.2.2.2.1,r9.2.2.2.2)
 else
 bif (ByteArray.toList l.1 == ByteArray.toList (ByteArray.mk #[112,111,111,108])) then
 bindF (f75 r2.2.2.2.2.2 r2.2.2.1 r2.2.2.2.1 r2.2.2.2.2.1 (13:Int) x_ (0:Int) l.2.1) fun r10 =>
 some (r10.1,r10.2.1,r10.2.2.1,r10.2.2.2.1,r10.2.2.2.2)
 else
 bif (ByteArray.toList l.1 == ByteArray.toList (ByteArray.mk #[98,101,110,100])) then
 bindF (f75 r2.2.2.2.2.2 r2.2.2.1 r2.2.2.2.1 r2.2.2.2.2.1 (11:Int) x_ (0:Int) l.2.1) fun r11 =>
 some (r11.1,r11.2.1,r11.2.2.1,r11.2.2.2.1,r11.2.2.2.2)
 else
 bindF (f75 r2.2.2.2.2.2 r2.2.2.1 r2.2.2.2.1 r2.2.2.2.2.1 (2:Int) ahead x_ (0:Int)) fun r12 =>
 some (r12.1,r12.2.1,r12.2.2.1,r12.2.2.2.1,r12.2.2.2.2)
def C47 : Con where
 X := (List (Int×Int×Int×Int×(List Int)×(List Int)))×Int×(List Int)×(List Int)×(ByteArray×Int×Int)×(List Int)×Int×Int
 Y := Int×Int×(List Int)×(List Int)×(List (Int×Int×Int×Int×(List Int)×(List Int)))
 e := 4
 args x := [P0 0 0,.dat T1 x.2.2.2.2.1,.dat T4 x.2.2.2.2.2.1,.dat T0 x.2.2.2.2.2.2.1,.dat T0 x.2.2.2.2.2.2.2]
 hin x := [(0,.cells [(.ptr 1 0),(.d T0 x.2.1),(.d T4 x.2.2.1),(.osl 3)]),(1,.cells [(.osl 2)]),(2,.arr 132 T6 x.1),(3,.arr 3 T0 x.2.2.2.1)]
 F x := f47 x.1 x.2.1 x.2.2.1 x.2.2.2.1 x.2.2.2.2.1 x.2.2.2.2.2.1 x.2.2.2.2.2.2.1 x.2.2.2.2.2.2.2
 ret y := [.dat T0 y.1]
 hout y := [(0,.cells [(.ptr 1 0),(.d T0 y.2.1),(.d T4 y.2.2.1),(.osl 4)]),(1,.cells [(.osl 5)]),(4,.arr 3 T0 y.2.2.2.1),(5,.arr 132 T6 y.2.2.2.2)]
 nout := 6
theorem C47_vc (r_t_l : List (Int×Int×Int×Int×(List Int)×(List Int))) (r_e:Int) (r_p : List Int) (r_leafs : List Int) (l : ByteArray×Int×Int) (in_ : List Int) (x_:Int) (ahead:Int) (y : Int×Int×(List Int)×(List Int)×(List (Int×Int×Int×Int×(List Int)×(List Int)))) (hF : f47 r_t_l r_e r_p r_leafs l in_ x_ ahead = some y) : vc Tryz.prog tab Tryz.f47.ntmps 4 (match Tryz.f47.body with | some c=>c | none=>.skip) (retK tab C47 Tryz.f47.results.toList y) (C47.shIn (r_t_l,r_e,r_p,r_leafs,l,in_,x_,ahead)).st := by
 unfold f47 at hF
 refine OL (OL ?_)
 obtain ⟨r1,hr1,hF⟩ := bindE hF
 refine OL (AI f71_in (callV0 (callI C71 ((l.1,l.2.1,l.2.2),in_) r1 [] false C71_holds hr1 rfl rfl (R3 (AI (fun h=>nomatch h) (R2 (AI TV (AI TV ?_))))))))
 obtain ⟨r2,hr2,hF⟩ := bindE hF
 refine OL (AI f74_in (callV0 (callI C74 (r_t_l,r_e,r_p,r_leafs,r1) r2 [(0,some 0),(1,some 1),(2,some 2),(3,some 3)] false C74_holds hr2 rfl rfl (AI rfl (AI (fun h=>nomatch h) (R2 (AI (AI rfl TV) (AI (R4 TV) (OL (OL (OL (condI hF (fun hF=>?_) (fun hF=>?_)))))))))))))
 ·obtain ⟨z4,hz4,hF⟩ := bindE hF
  refine OQ ⟨[(0,⟨[(0,P0 0 0),(3,.dat T0 z4.1),(11,.dat T0 r2.1),(12,.dat T0 r2.2.1)],[(0,.cells [(.ptr 1 0),(.d T0 z4.2.1),(.d T4 z4.2.2.1),(.osl 4)]),(1,.cells [(.osl 5)]),(4,.arr 3 T0 z4.2.2.2.1),(5,.arr 132 T6 z4.2.2.2.2)],6⟩)],?_,?_⟩
  ·have hF := hz4
   clear hz4
   unfold f47_j1 at hF
   refine OL (condI hF (fun hF=>?_) (fun hF=>?_))
   ·obtain ⟨r5,hr5,hF⟩ := bindE hF
    refine OL (AI f75_in (callV0 (callI C75 (r2.2.2.2.2.2,r2.2.2.1,r2.2.2.2.1,r2.2.2.2.2.1,(14:Int),x_,(0:Int),(0:Int)) r5 [(0,some 0),(1,some 1),(2,some 11),(3,some 10)] false C75_holds hr5 rfl rfl (R4 (AI (fun h=>nomatch h) (R2 (AI (AI rfl TV) (AI (R4 TV) ?_))))))))
    have hz := someE hF
    subst hz
    refine E4 [(0,some 0),(1,some 1),(4,some 10),(5,some 16)] (R4 (AI (AI rfl TV) (R4 TV)))
   have hz := someE hF
   subst hz
   refine E4 [(0,some 0),(1,some 1),(4,some 10),(5,some 11)] (R4 (AI (AI rfl TV) (R4 TV)))
  refine AI (OL ?_) TV
  obtain ⟨r6,hr6,hF⟩ := bindE hF
  refine OL (AI f75_in (callV0 (callI C75 (z4.2.2.2.2,z4.2.1,z4.2.2.1,z4.2.2.2.1,(4:Int),r2.1,z4.1,(0:Int)) r6 [(0,some 0),(1,some 1),(2,some 5),(3,some 4)] false C75_holds hr6 rfl rfl (R4 (AI (fun h=>nomatch h) (R2 (AI (AI rfl TV) (AI (R4 TV) ?_))))))))
  obtain ⟨r7,hr7,hF⟩ := bindE hF
  refine OL (AI f75_in (callV0 (callI C75 (r6.2.2.2.2,r6.2.1,r6.2.2.1,r6.2.2.2.1,(8:Int),r6.1,(0:Int),(1:Int)) r7 [(0,some 0),(1,some 1),(2,some 10),(3,some 4)] false C75_holds hr7 rfl rfl (R4 (AI (fun h=>nomatch h) (R2 (AI (AI rfl TV) (AI (R4 TV) (OL ?_)))))))))
  obtain ⟨r8,hr8,hF⟩ := bindE hF
  refine OL (AI f75_in (callV0 (callI C75 (r7.2.2.2.2,r7.2.1,r7.2.2.1,r7.2.2.2.1,(2:Int),r7.1,r2.2.1,(0:Int)) r8 [(0,some 0),(1,some 1),(2,some 15),(3,some 4)] false C75_holds hr8 rfl rfl (R4 (AI (fun h=>nomatch h) (R2 (AI (AI rfl TV) (AI (R4 TV) ?_))))))))
  have hy := someE hF
  subst hy
  refine AI rfl (E4 [(0,some 0),(1,some 1),(4,some 4),(5,some 20)] (R2 (AI TV (R4 TV))))
 refine OL (condI hF (fun hF=>?_) (fun hF=>?_))
 ·refine OL ?_
  obtain ⟨r9,hr9,hF⟩ := bindE hF
  refine OL (AI f75_in (callV0 (callI C75 (r2.2.2.2.2.2,r2.2.2.1,r2.2.2.2.1,r2.2.2.2.2.1,(12:Int),x_,r2.1,(1:Int)) r9 [(0,some 0),(1,some 1),(2,some 11),(3,some 10)] false C75_holds hr9 rfl rfl (R4 (AI (fun h=>nomatch h) (R2 (AI (AI rfl TV) (AI (R4 TV) ?_))))))))
  have hy := someE hF
  subst hy
  refine AI rfl (E4 [(0,some 0),(1,some 1),(4,some 10),(5,some 16)] (R2 (AI TV (R4 TV))))
 refine OL (condI hF (fun hF=>?_) (fun hF=>?_))
 ·refine OL ?_
  obtain ⟨r10,hr10,hF⟩ := bindE hF
  refine OL (AI f75_in (callV0 (callI C75 (r2.2.2.2.2.2,r2.2.2.1,r2.2.2.2.1,r2.2.2.2.2.1,(13:Int),x_,(0:Int),l.2.1) r10 [(0,some 0),(1,some 1),(2,some 11),(3,some 10)] false C75_holds hr10 rfl rfl (R4 (AI (fun h=>nomatch h) (R2 (AI (AI rfl TV) (AI (R4 TV) ?_))))))))
  have hy := someE hF
  subst hy
  refine AI rfl (E4 [(0,some 0),(1,some 1),(4,some 10),(5,some 16)] (R2 (AI TV (R4 TV))))
 refine OL (condI hF (fun hF=>?_) (fun hF=>?_))
 ·refine OL ?_
  obtain ⟨r11,hr11,hF⟩ := bindE hF
  refine OL (AI f75_in (callV0 (callI C75 (r2.2.2.2.2.2,r2.2.2.1,r2.2.2.2.1,r2.2.2.2.2.1,(11:Int),x_,(0:Int),l.2.1) r11 [(0,some 0),(1,some 1),(2,some 11),(3,some 10)] false C75_holds hr11 rfl rfl (R4 (AI (fun h=>nomatch h) (R2 (AI (AI rfl TV) (AI (R4 TV) ?_))))))))
  have hy := someE hF
  subst hy
  refine AI rfl (E4 [(0,some 0),(1,some 1),(4,some 10),(5,some 16)] (R2 (AI TV (R4 TV))))
 refine OL ?_
 obtain ⟨r12,hr12,hF⟩ := bindE hF
 refine OL (AI f75_in (callV0 (callI C75 (r2.2.2.2.2.2,r2.2.2.1,r2.2.2.2.1,r2.2.2.2.2.1,(2:Int),ahead,x_,(0:Int)) r12 [(0,some 0),(1,some 1),(2,some 11),(3,some 10)] false C75_holds hr12 rfl rfl (R4 (AI (fun h=>nomatch h) (R2 (AI (AI rfl TV) (AI (R4 TV) ?_))))))))
 have hy := someE hF
 subst hy
 refine AI rfl (E4 [(0,some 0),(1,some 1),(4,some 10),(5,some 16)] (R2 (AI TV (R4 TV))))
theorem C47_holds : C47.Holds Tryz.prog 47 := holds_of_vc tab_ok mixed (fn := Tryz.f47) (by kernel_rfl) rfl C47 (fun x y hF=>C47_vc x.1 x.2.1 x.2.2.1 x.2.2.2.1 x.2.2.2.2.1 x.2.2.2.2.2.1 x.2.2.2.2.2.2.1 x.2.2.2.2.2.2.2 y hF)
theorem f47_in : InP 47 := ⟨Tryz.f47,by kernel_rfl,by kernel_rfl,by kernel_rfl⟩
def f48 (t_l : List (Int×Int×Int×Int×(List Int)×(List Int))) (n:Int) : Option (List (Int×Int×Int×Int×(List Int)×(List Int))) :=
 guardF (0 ≤ (if (List.length t_l:Int) < (if (0:Int) > n then (0:Int) else n) then (List.length t_l:Int) else (if (0:Int) > n then (0:Int) else n)) ∧ (if (List.length t_l:Int) < (if (0:Int) > n then (0:Int) else n) then (List.length t_l:Int) else (if (0:Int) > n then (0:Int) else n)) ≤ (List.length t_l:Int)) <|
 some (List.take (Int.toNat (if (List.length t_l:Int) < (if (0:Int) > n then (0:Int) else n) then (List.length t_l:Int) else (if (0:Int) > n then (0:Int) else n))) t_l)
def C48 : Con where
 X := (List (Int×Int×Int×Int×(List Int)×(List Int)))×Int
 Y := List (Int×Int×Int×Int×(List Int)×(List Int))
 e := 2
 args x := [P0 0 0,.dat T0 x.2]
 hin x := [(0,.cells [(.osl 1)]),(1,.arr 132 T6 x.1)]
 F x := f48 x.1 x.2
 ret y := []
 hout y := [(0,.cells [(.osl 2)]),(2,.arr 132 T6 y)]
 nout := 3
theorem C48_vc (t_l : List (Int×Int×Int×Int×(List Int)×(List Int))) (n:Int) (y : List (Int×Int×Int×Int×(List Int)×(List Int))) (hF : f48 t_l n = some y) : vc Tryz.prog tab Tryz.f48.ntmps 2 (match Tryz.f48.body with | some c=>c | none=>.skip) (retK tab C48 Tryz.f48.results.toList y) (C48.shIn (t_l,n)).st := by
 unfold f48 at hF
 refine EI (.take 0 (.take 1 (.take 2 (.take 3 (.take 4 (.take 5 (.take 6 (.take 7 (.take 8 (.take 9 (.take 10 (.take 11 (.take 12 (.alt 13 (.take 14 (.take 15 (.alt 16 .done .done))) .done)))))))))))))) (EI [(16,[0])] (EI [] (AI rfl (AI TV (OQ (OQ (guardI hF (fun hF=>?_))))))))
 refine AI TV (OL ?_)
 have hy := someE hF
 subst hy
 refine AI rfl (E4 [(0,some 0),(2,some 2)] (AI rfl (AI TV (R2 TV))))
theorem C48_holds : C48.Holds Tryz.prog 48 := holds_of_vc tab_ok mixed (fn := Tryz.f48) (by kernel_rfl) rfl C48 (fun x y hF=>C48_vc x.1 x.2 y hF)
theorem f48_in : InP 48 := ⟨Tryz.f48,by kernel_rfl,by kernel_rfl,by kernel_rfl⟩
def f22_j3 (n : (List Int)×(List (ByteArray×Int×Int))) (p_ : List Int) (x_ : List Int) (r1 : Int×Bool) : Option Bool :=
 bif ((List.length p_:Int) != r1.1) then
 some true
 else
 bindF (f44 n.1) fun r8 =>
 some ((List.length x_:Int) != r8)
def f22_j2 (n : (List Int)×(List (ByteArray×Int×Int))) (p_ : List Int) (x_ : List Int) (r1 : Int×Bool) : Option (Sum Unit Unit) :=
 bindF (f22_j3 n p_ x_ r1) fun z7 =>
 bif z7 then
 some (Sum.inr ())
 else
 some (Sum.inl ())
def f22_l4 (n : (List Int)×(List (ByteArray×Int×Int))) (q18_7 : Int×(List (List Int))) (go : (Int×Int×Int×Int×(List Int)×(List (Int×Int×Int×Int×(List Int)×(List Int)))×(List Int)) → Option (Int×Int×(List Int)×(List (Int×Int×Int×Int×(List Int)×(List Int)))×(List Int))) (at_:Int) (ahead:Int) (v62:Int) (c3_1:Int) (c3_2 : List Int) (l4 : List (Int×Int×Int×Int×(List Int)×(List Int))) (l5 : List Int) : Option (Int×Int×(List Int)×(List (Int×Int×Int×Int×(List Int)×(List Int)))×(List Int)) :=
 bif (decide (v62 < (List.length n.2:Int))) then
 guardF (0 ≤ v62 ∧ v62 < (List.length n.2:Int)) <|
 guardF (0 ≤ v62 ∧ v62 < (List.length q18_7.2:Int)) <|
 bindF (f47 l4 c3_1 c3_2 l5 ((rd (Ty.z T1) n.2 v62).1,((rd (Ty.z T1) n.2 v62).2).1,((rd (Ty.z T1) n.2 v62).2).2) (rd (Ty.z T4) q18_7.2 v62) at_ ahead) fun q12_8 =>
 go (q12_8.1,at_,(i64.wrap (v62 + (1:Int))),q12_8.2.1,q12_8.2.2.1,q12_8.2.2.2.2,q12_8.2.2.2.1)
 else
 some (at_,c3_1,c3_2,l4,l5)
def f22 (t_l : List (Int×Int×Int×Int×(List Int)×(List Int))) (n : (List Int)×(List (ByteArray×Int×Int))) (p_ : List Int) (x_ : List Int) : Option (Int×Int×(List Int)×(List (Int×Int×Int×Int×(List Int)×(List Int)))) :=
 bindF (f42 (n.1,n.2)) fun q18_7 =>
 bif (q18_7.1 != (0:Int)) then
 some ((0:Int),q18_7.1,[],t_l)
 else
 bindF (f43 (n.1,n.2) q18_7.2) fun r1 =>
 bindF (f22_j2 n p_ x_ r1) fun z5 =>
 sumF z5 (fun z5a =>
 bindF (f45 t_l) fun r9 =>
 bindF (f46 r9.2 (0:Int) p_ ([]) n.1 x_) fun r10 =>
 bindF (loopF (fun go x=>f22_l4 n q18_7 go x.1 x.2.1 x.2.2.1 x.2.2.2.1 x.2.2.2.2.1 x.2.2.2.2.2.1 x.2.2.2.2.2.2) fuelN (r10.1,(0:Int),(0:Int),r10.2.1,r10.2.2.1,r10.2.2.2.2,r10.2.2.2.1)) fun z11 =>
 bif (z11.2.1 != (0:Int)) then
 bindF (f48 z11.2.2.2.1 r9.1) fun q12_9 =>
 some ((0:Int),z11.2.1,[],q12_9)
 else
 some (z11.1,(0:Int),z11.2.2.2.2,z11.2.2.2.1)) (fun z5b =>
 some ((0:Int),(1:Int),[],t_l))
def C22 : Con where
 X := (List (Int×Int×Int×Int×(List Int)×(List Int)))×((List Int)×(List (ByteArray×Int×Int)))×(List Int)×(List Int)
 Y := Int×Int×(List Int)×(List (Int×Int×Int×Int×(List Int)×(List Int)))
 e := 2
 args x := [P0 0 0,.dat T2 x.2.1,.dat T4 x.2.2.1,.dat T4 x.2.2.2]
 hin x := [(0,.cells [(.osl 1)]),(1,.arr 132 T6 x.1)]
 F x := f22 x.1 x.2.1 x.2.2.1 x.2.2.2
 ret y := [.dat T0 y.1,O0 2,.dat T0 y.2.1]
 hout y := [(0,.cells [(.osl 3)]),(2,.arr 3 T0 y.2.2.1),(3,.arr 132 T6 y.2.2.2)]
 nout := 4
theorem C22_vc (t_l : List (Int×Int×Int×Int×(List Int)×(List Int))) (n : (List Int)×(List (ByteArray×Int×Int))) (p_ : List Int) (x_ : List Int) (y : Int×Int×(List Int)×(List (Int×Int×Int×Int×(List Int)×(List Int)))) (hF : f22 t_l n p_ x_ = some y) : vc Tryz.prog tab Tryz.f22.ntmps 2 (match Tryz.f22.body with | some c=>c | none=>.skip) (retK tab C22 Tryz.f22.results.toList y) (C22.shIn (t_l,n,p_,x_)).st := by
 unfold f22 at hF
 refine OL (OL ?_)
 obtain ⟨q18_7,hq18_7,hF⟩ := bindE hF
 refine OL (AI f42_in (callV0 (callI C42 (n.1,n.2) q18_7 [] false C42_holds hq18_7 rfl rfl (R2 (AI (fun h=>nomatch h) (R2 (AI TV (AI TV (OL (OL (condI hF (fun hF=>?_) (fun hF=>?_))))))))))))
 ·refine OL ?_
  have hy := someE hF
  subst hy
  refine AI rfl (E4 [(0,some 0),(2,none),(3,some 1)] (R3 (AI (AI rfl TV) (R3 TV))))
 refine OL ?_
 obtain ⟨r1,hr1,hF⟩ := bindE hF
 refine OL (AI f43_in (callV0 (callI C43 ((n.1,n.2),q18_7.2) r1 [] true C43_holds hr1 rfl rfl (R3 (AI (fun _=>rfl) (R2 (AI TV (AI TV ?_))))))))
 obtain ⟨z5,hz5,hF⟩ := bindE hF
 refine OQ ⟨Sum.elim (fun z5a=>[(0,⟨[(0,P0 0 0),(2,.dat T4 p_),(3,.dat T4 x_),(5,P0 2 0),(11,O0 3)],[(0,.cells [(.osl 1)]),(1,.arr 132 T6 t_l),(2,.cells [(.d T4 n.1),(.d T3 n.2)]),(3,.arr 30 T4 q18_7.2)],4⟩)]) (fun z5b=>[(1,⟨[(8,D0 0),(9,.raw false [N0]),(10,D0 1)],[(0,.cells [(.osl 1)]),(1,.arr 132 T6 t_l)],2⟩)]) z5,?_,?_⟩
 ·have hF := hz5
  clear hz5
  unfold f22_j2 at hF
  obtain ⟨z7,hz7,hF⟩ := bindE hF
  refine OQ ⟨[(0,⟨[(0,P0 0 0),(2,.dat T4 p_),(3,.dat T4 x_),(5,P0 2 0),(11,O0 3),(47,.dat .bool z7)],[(0,.cells [(.osl 1)]),(1,.arr 132 T6 t_l),(2,.cells [(.d T4 n.1),(.d T3 n.2)]),(3,.arr 30 T4 q18_7.2)],4⟩)],?_,?_⟩
  ·have hF := hz7
   clear hz7
   unfold f22_j3 at hF
   refine condN hF (fun hF=>?_) (fun hF=>?_)
   ·refine gdYF (gdYF (gdYF (gdYF ?_)))
    obtain ⟨r8,hr8,hF⟩ := bindE hF
    refine OL (AI f44_in (callV0 (callI C44 n.1 r8 [] false C44_holds hr8 rfl rfl (AI rfl (AI (fun h=>nomatch h) (R2 (AI TV (AI TV (gdYF (condF ?_))))))))))
    have hz := someE hF
    subst hz
    refine E4 [(0,some 0),(1,some 1),(2,some 2),(3,some 3)] (R4 (AI (R3 TV) (R4 TV)))
   refine gdNF (gdNF (gdNF (gdNF (gdNF (condT ?_)))))
   have hz := someE hF
   subst hz
   refine E4 [(0,some 0),(1,some 1),(2,some 2),(3,some 3)] (R4 (AI (R3 TV) (R4 TV)))
  refine AI (condI hF (fun hF=>?_) (fun hF=>?_)) TV
  ·refine OL ?_
   have hz := someE hF
   subst hz
   refine E4 [(0,some 0),(1,some 1)] (R3 (AI (AI rfl TV) (R2 TV)))
  have hz := someE hF
  subst hz
  refine E4 [(0,some 0),(1,some 1),(2,some 2),(3,some 3)] (R3 (AI (R3 TV) (R4 TV)))
 rcases z5 with z5a | z5b
 ·dsimp only [sumF] at hF
  refine AI (OL ?_) TV
  obtain ⟨r9,hr9,hF⟩ := bindE hF
  refine OL (AI f45_in (callV0 (callI C45 t_l r9 [(0,some 0),(1,some 1)] false C45_holds hr9 rfl rfl (AI (fun h=>nomatch h) (R2 (AI (AI rfl TV) (AI (R2 TV) (OL ?_))))))))
  obtain ⟨r10,hr10,hF⟩ := bindE hF
  refine OL (AI f46_in (callVn [(4,3,3,T0)] (virtI rfl rfl (virt0 (callI C46 (r9.2,(0:Int),p_,[],n.1,x_) r10 [(0,some 4),(1,some 0),(2,some 1),(3,some 7)] false C46_holds hr10 rfl rfl (R2 (AI (fun h=>nomatch h) (R2 (AI (AI rfl TV) (AI (R4 TV) (OL (OL ?_))))))))))))
  obtain ⟨z11,hz11,hF⟩ := bindE hF
  refine loopI (Int×Int×Int×Int×(List Int)×(List (Int×Int×Int×Int×(List Int)×(List Int)))×(List Int)) (Int×Int×(List Int)×(List (Int×Int×Int×Int×(List Int)×(List Int)))×(List Int)) (fun x=>⟨[(0,P0 0 0),(11,O0 2),(15,P0 3 0),(16,.dat T0 r9.1),(17,.dat T0 x.1),(18,.dat T0 x.2.1),(60,.dat T3 n.2),(61,.dat T0 (List.length n.2:Int)),(62,.dat T0 x.2.2.1)],[(0,.cells [(.osl 4)]),(2,.arr 30 T4 q18_7.2),(3,.cells [(.ptr 0 0),(.d T0 x.2.2.2.1),(.d T4 x.2.2.2.2.1),(.osl 5)]),(4,.arr 132 T6 x.2.2.2.2.2.1),(5,.arr 3 T0 x.2.2.2.2.2.2)],6⟩) (fun z=>[(2,⟨[(0,P0 0 0),(15,P0 2 0),(16,.dat T0 r9.1),(17,.dat T0 z.1)],[(0,.cells [(.osl 3)]),(2,.cells [(.ptr 0 0),(.d T0 z.2.1),(.d T4 z.2.2.1),(.osl 4)]),(3,.arr 132 T6 z.2.2.2.1),(4,.arr 3 T0 z.2.2.2.2)],5⟩)]) (loopF (fun go x=>f22_l4 n q18_7 go x.1 x.2.1 x.2.2.1 x.2.2.2.1 x.2.2.2.2.1 x.2.2.2.2.2.1 x.2.2.2.2.2.2)) fuelN (r10.1,(0:Int),(0:Int),r10.2.1,r10.2.2.1,r10.2.2.2.2,r10.2.2.2.1) z11 (AI hz11 (AI (E4 [(0,some 0),(2,some 3),(3,some 4),(4,some 12),(5,some 7)] (R7 (AI (R3 TV) (R5 TV)))) (AI (fun _ _ h=>loopZ h) (AI (fun m=>curI (fun at_=>curI (fun ahead=>curI (fun v62=>curI (fun c3_1=>curI (fun c3_2=>curI (fun l4=>fun l5 z hF=>?_))))))) ?_))))
  ·have hF : f22_l4 n q18_7 (loopF (fun go x=>f22_l4 n q18_7 go x.1 x.2.1 x.2.2.1 x.2.2.2.1 x.2.2.2.2.1 x.2.2.2.2.2.1 x.2.2.2.2.2.2) m) at_ ahead v62 c3_1 c3_2 l4 l5 = some z := hF
   unfold f22_l4 at hF
   refine OL (OL (condI hF (fun hF=>?_) (fun hF=>?_)))
   ·refine OL (OL (guardI hF (fun hF=>?_)))
    refine OL (OL (EI (.take 0 (.take 1 (.take 2 (.take 3 (.take 4 (.take 5 (.take 6 (.take 7 (.alt 8 (.take 9 .done) .done))))))))) (EI [] (EI [] (AI rfl (guardI hF (fun hF=>?_)))))))
    refine AI TV ?_
    obtain ⟨q12_8,hq12_8,hF⟩ := bindE hF
    refine OL (AI f47_in (callV0 (callI C47 (l4,c3_1,c3_2,l5,((rd (Ty.z T1) n.2 v62).1,((rd (Ty.z T1) n.2 v62).2).1,((rd (Ty.z T1) n.2 v62).2).2),(rd (Ty.z T4) q18_7.2 v62),at_,ahead) q12_8 [(0,some 3),(1,some 0),(2,some 4),(3,some 5)] false C47_holds hq12_8 rfl rfl (R5 (AI (fun h=>nomatch h) (R2 (AI (AI rfl TV) (AI (R4 TV) (EI (q12_8.1,at_,(i64.wrap (v62 + (1:Int))),q12_8.2.1,q12_8.2.2.1,q12_8.2.2.2.2,q12_8.2.2.2.1) (AI hF (E4 [(0,some 0),(2,some 2),(3,some 3),(4,some 12),(5,some 11)] (R7 (AI (R3 TV) (R5 TV))))))))))))))
   have hz := someE hF
   subst hz
   refine E4 [(0,some 0),(2,some 3),(3,some 4),(4,some 5)] (R3 (AI (R2 TV) (R4 TV)))
  refine AI (OL (OL (condI hF (fun hF=>?_) (fun hF=>?_)))) TV
  ·refine OL ?_
   obtain ⟨q12_9,hq12_9,hF⟩ := bindE hF
   refine OL (AI f48_in (callV0 (callI C48 (z11.2.2.2.1,r9.1) q12_9 [(0,some 0),(1,some 3)] false C48_holds hq12_9 rfl rfl (AI rfl (AI (fun h=>nomatch h) (R2 (AI (AI rfl TV) (AI (R2 TV) (OL (EI (.take 0 (.take 1 (.take 2 (.take 3 (.take 4 (.take 5 (.take 6 .done))))))) (EI [] (EI [] (AI rfl ?_)))))))))))))
   have hy := someE hF
   subst hy
   refine AI rfl (E4 [(0,some 0),(2,none),(3,some 7)] (R3 (AI (AI rfl TV) (R3 TV))))
  refine OL (EI (.take 0 (.take 1 (.take 2 (.take 3 (.take 4 (.take 5 (.take 6 (.take 7 .done)))))))) (EI [] (EI [] (AI rfl ?_))))
  have hy := someE hF
  subst hy
  refine AI rfl (E4 [(0,some 0),(2,some 4),(3,some 3)] (R3 (AI (AI rfl TV) (R3 TV))))
 dsimp only [sumF] at hF
 refine AI ?_ TV
 have hy := someE hF
 subst hy
 refine AI rfl (E4 [(0,some 0),(2,none),(3,some 1)] (R3 (AI (AI rfl TV) (R3 TV))))
theorem C22_holds : C22.Holds Tryz.prog 22 := holds_of_vc tab_ok mixed (fn := Tryz.f22) (by kernel_rfl) rfl C22 (fun x y hF=>C22_vc x.1 x.2.1 x.2.2.1 x.2.2.2 y hF)
theorem f22_in : InP 22 := ⟨Tryz.f22,by kernel_rfl,by kernel_rfl,by kernel_rfl⟩
def f53 (t_l : List (Int×Int×Int×Int×(List Int)×(List Int))) (n:Int) : Option (Int×Int×Int×Int×Bool×(List Int)×(List Int)×(List (Int×Int×Int×Int×(List Int)×(List Int)))) :=
 bindF (f84 t_l n) fun r1 =>
 bif (!r1.1) then
 some ((0:Int),(0:Int),(0:Int),(0:Int),false,[],[],r1.2)
 else
 guardF (0 ≤ n ∧ n < (List.length r1.2:Int)) <|
 bindF (f85 ((((((rd (Ty.z T6) r1.2 n).2).2).2).2).1,(((((rd (Ty.z T6) r1.2 n).2).2).2).2).2)) fun r2 =>
 some ((rd (Ty.z T6) r1.2 n).1,((rd (Ty.z T6) r1.2 n).2).1,(((rd (Ty.z T6) r1.2 n).2).2).1,((((rd (Ty.z T6) r1.2 n).2).2).2).1,true,r2.1,r2.2,r1.2)
def C53 : Con where
 X := (List (Int×Int×Int×Int×(List Int)×(List Int)))×Int
 Y := Int×Int×Int×Int×Bool×(List Int)×(List Int)×(List (Int×Int×Int×Int×(List Int)×(List Int)))
 e := 2
 args x := [P0 0 0,.dat T0 x.2]
 hin x := [(0,.cells [(.osl 1)]),(1,.arr 132 T6 x.1)]
 F x := f53 x.1 x.2
 ret y := [.raw true [(.d T0 y.1),(.d T0 y.2.1),(.d T0 y.2.2.1),(.d T0 y.2.2.2.1),(.osl 2),(.osl 3)],.dat .bool y.2.2.2.2.1]
 hout y := [(0,.cells [(.osl 1)]),(1,.arr 132 T6 y.2.2.2.2.2.2.2),(2,.arr 3 T0 y.2.2.2.2.2.1),(3,.arr 23 T0 y.2.2.2.2.2.2.1)]
 nout := 4
theorem C53_vc (t_l : List (Int×Int×Int×Int×(List Int)×(List Int))) (n:Int) (y : Int×Int×Int×Int×Bool×(List Int)×(List Int)×(List (Int×Int×Int×Int×(List Int)×(List Int)))) (hF : f53 t_l n = some y) : vc Tryz.prog tab Tryz.f53.ntmps 2 (match Tryz.f53.body with | some c=>c | none=>.skip) (retK tab C53 Tryz.f53.results.toList y) (C53.shIn (t_l,n)).st := by
 unfold f53 at hF
 refine OL (OL (OL ?_))
 obtain ⟨r1,hr1,hF⟩ := bindE hF
 refine OL (AI f84_in (callV0 (callI C84 (t_l,n) r1 [(0,some 0),(1,some 1)] false C84_holds hr1 rfl rfl (AI rfl (AI (fun h=>nomatch h) (R2 (AI (AI rfl TV) (AI (R2 TV) (condI hF (fun hF=>?_) (fun hF=>?_))))))))))
 ·refine OL (OL ?_)
  have hy := someE hF
  subst hy
  refine AI rfl (E4 [(0,some 0),(1,some 1),(2,none),(3,none)] (R2 (AI (AI rfl TV) (R4 TV))))
 refine OL (guardI hF (fun hF=>?_))
 refine OL (OL ?_)
 obtain ⟨r2,hr2,hF⟩ := bindE hF
 refine OL (AI f85_in (callV0 (callI C85 ((((((rd (Ty.z T6) r1.2 n).2).2).2).2).1,(((((rd (Ty.z T6) r1.2 n).2).2).2).2).2) r2 [] false C85_holds hr2 rfl rfl (R2 (AI (fun h=>nomatch h) (R2 (AI TV (AI TV (OL (OL (OL ?_)))))))))))
 have hy := someE hF
 subst hy
 refine AI rfl (E4 [(0,some 0),(1,some 1),(2,some 6),(3,some 7)] (R2 (AI (AI rfl TV) (R4 TV))))
theorem C53_holds : C53.Holds Tryz.prog 53 := holds_of_vc tab_ok mixed (fn := Tryz.f53) (by kernel_rfl) rfl C53 (fun x y hF=>C53_vc x.1 x.2 y hF)
theorem f53_in : InP 53 := ⟨Tryz.f53,by kernel_rfl,by kernel_rfl,by kernel_rfl⟩
def f25 (t_l : List (Int×Int×Int×Int×(List Int)×(List Int))) (n:Int) : Option (Bool×(List Int)×(List Int)×(List (Int×Int×Int×Int×(List Int)×(List Int)))) :=
 bindF (f53 t_l n) fun r1 =>
 some (r1.2.2.2.2.1,r1.2.2.2.2.2.1,r1.2.2.2.2.2.2.1,r1.2.2.2.2.2.2.2)
def C25 : Con where
 X := (List (Int×Int×Int×Int×(List Int)×(List Int)))×Int
 Y := Bool×(List Int)×(List Int)×(List (Int×Int×Int×Int×(List Int)×(List Int)))
 e := 2
 args x := [P0 0 0,.dat T0 x.2]
 hin x := [(0,.cells [(.osl 1)]),(1,.arr 132 T6 x.1)]
 F x := f25 x.1 x.2
 ret y := [.raw true [(.osl 2),(.osl 3)],.dat .bool y.1]
 hout y := [(0,.cells [(.osl 1)]),(1,.arr 132 T6 y.2.2.2),(2,.arr 3 T0 y.2.1),(3,.arr 23 T0 y.2.2.1)]
 nout := 4
theorem C25_vc (t_l : List (Int×Int×Int×Int×(List Int)×(List Int))) (n:Int) (y : Bool×(List Int)×(List Int)×(List (Int×Int×Int×Int×(List Int)×(List Int)))) (hF : f25 t_l n = some y) : vc Tryz.prog tab Tryz.f25.ntmps 2 (match Tryz.f25.body with | some c=>c | none=>.skip) (retK tab C25 Tryz.f25.results.toList y) (C25.shIn (t_l,n)).st := by
 unfold f25 at hF
 refine OL (OL ?_)
 obtain ⟨r1,hr1,hF⟩ := bindE hF
 refine OL (AI f53_in (callV0 (callI C53 (t_l,n) r1 [(0,some 0),(1,some 1)] false C53_holds hr1 rfl rfl (AI rfl (AI (fun h=>nomatch h) (R2 (AI (AI rfl TV) (AI (R2 TV) (OL (OL (OL ?_)))))))))))
 have hy := someE hF
 subst hy
 refine AI rfl (E4 [(0,some 0),(1,some 1),(2,some 5),(3,some 6)] (R2 (AI (AI rfl TV) (R4 TV))))
theorem C25_holds : C25.Holds Tryz.prog 25 := holds_of_vc tab_ok mixed (fn := Tryz.f25) (by kernel_rfl) rfl C25 (fun x y hF=>C25_vc x.1 x.2 y hF)
theorem f25_in : InP 25 := ⟨Tryz.f25,by kernel_rfl,by kernel_rfl,by kernel_rfl⟩
def f76_j1 (want : List Int) (r1 : Bool×(List Int)×(List Int)×(List (Int×Int×Int×Int×(List Int)×(List Int)))) : Option Bool :=
 bif (!r1.1) then
 some true
 else
 some ((List.length want:Int) != (List.length r1.2.2.1:Int))
def f76 (t_l : List (Int×Int×Int×Int×(List Int)×(List Int))) (out:Int) (want : List Int) : Option (Int×(List (Int×Int×Int×Int×(List Int)×(List Int)))) :=
 bindF (f25 t_l out) fun r1 =>
 bindF (f76_j1 want r1) fun z2 =>
 bif z2 then
 some ((1:Int),r1.2.2.2)
 else
 bif ((List.length r1.2.1:Int) != (1:Int)) then
 some ((4:Int),r1.2.2.2)
 else
 some ((0:Int),r1.2.2.2)
def C76 : Con where
 X := (List (Int×Int×Int×Int×(List Int)×(List Int)))×Int×(List Int)
 Y := Int×(List (Int×Int×Int×Int×(List Int)×(List Int)))
 e := 2
 args x := [P0 0 0,.dat T0 x.2.1,.dat T4 x.2.2]
 hin x := [(0,.cells [(.osl 1)]),(1,.arr 132 T6 x.1)]
 F x := f76 x.1 x.2.1 x.2.2
 ret y := [.dat T0 y.1]
 hout y := [(0,.cells [(.osl 1)]),(1,.arr 132 T6 y.2)]
 nout := 2
theorem C76_vc (t_l : List (Int×Int×Int×Int×(List Int)×(List Int))) (out:Int) (want : List Int) (y : Int×(List (Int×Int×Int×Int×(List Int)×(List Int)))) (hF : f76 t_l out want = some y) : vc Tryz.prog tab Tryz.f76.ntmps 2 (match Tryz.f76.body with | some c=>c | none=>.skip) (retK tab C76 Tryz.f76.results.toList y) (C76.shIn (t_l,out,want)).st := by
 unfold f76 at hF
 refine OL (OL ?_)
 obtain ⟨r1,hr1,hF⟩ := bindE hF
 refine OL (AI f25_in (callV0 (callI C25 (t_l,out) r1 [(0,some 0),(1,some 1)] false C25_holds hr1 rfl rfl (AI rfl (AI (fun h=>nomatch h) (R2 (AI (AI rfl TV) (AI (R2 TV) (OL (OL ?_))))))))))
 obtain ⟨z2,hz2,hF⟩ := bindE hF
 refine OQ ⟨[(0,⟨[(7,P0 2 0),(15,.dat .bool z2)],[(0,.cells [(.osl 1)]),(1,.arr 132 T6 r1.2.2.2),(2,.cells [(.osl 3),(.osl 4)]),(3,.arr 3 T0 r1.2.1),(4,.arr 23 T0 r1.2.2.1)],5⟩)],?_,?_⟩
 ·have hF := hz2
  clear hz2
  unfold f76_j1 at hF
  refine condN hF (fun hF=>?_) (fun hF=>?_)
  ·refine gdYF (gdYF (gdYF (gdYF (gdYF (condF ?_)))))
   have hz := someE hF
   subst hz
   refine E4 [(0,some 0),(1,some 1),(2,some 6),(3,some 4),(4,some 5)] (R2 (AI (AI rfl TV) (R5 TV)))
  refine gdNF (gdNF (gdNF (gdNF (gdNF (condT ?_)))))
  have hz := someE hF
  subst hz
  refine E4 [(0,some 0),(1,some 1),(2,some 6),(3,some 4),(4,some 5)] (R2 (AI (AI rfl TV) (R5 TV)))
 refine AI (condI hF (fun hF=>?_) (fun hF=>?_)) TV
 ·refine OL ?_
  have hy := someE hF
  subst hy
  refine AI rfl (E4 [(0,some 0),(1,some 1)] (R2 (AI TV (R2 TV))))
 refine OL (condI hF (fun hF=>?_) (fun hF=>?_))
 ·refine OL ?_
  have hy := someE hF
  subst hy
  refine AI rfl (E4 [(0,some 0),(1,some 1)] (R2 (AI TV (R2 TV))))
 refine OL ?_
 have hy := someE hF
 subst hy
 refine AI rfl (E4 [(0,some 0),(1,some 1)] (R2 (AI TV (R2 TV))))
theorem C76_holds : C76.Holds Tryz.prog 76 := holds_of_vc tab_ok mixed (fn := Tryz.f76) (by kernel_rfl) rfl C76 (fun x y hF=>C76_vc x.1 x.2.1 x.2.2 y hF)
theorem f76_in : InP 76 := ⟨Tryz.f76,by kernel_rfl,by kernel_rfl,by kernel_rfl⟩
def f77 (t_l : List (Int×Int×Int×Int×(List Int)×(List Int))) : Option (Int×(List (Int×Int×Int×Int×(List Int)×(List Int)))) :=
 bindF (f45 t_l) fun r1 =>
 some (r1.1,r1.2)
def C77 : Con where
 X := List (Int×Int×Int×Int×(List Int)×(List Int))
 Y := Int×(List (Int×Int×Int×Int×(List Int)×(List Int)))
 e := 2
 args x := [P0 0 0]
 hin x := [(0,.cells [(.osl 1)]),(1,.arr 132 T6 x)]
 F x := f77 x
 ret y := [P0 2 0]
 hout y := [(0,.cells [(.osl 1)]),(1,.arr 132 T6 y.2),(2,.cells [(.ptr 0 0),(.d T0 y.1),(.d T0 (0:Int))])]
 nout := 3
theorem C77_vc (t_l : List (Int×Int×Int×Int×(List Int)×(List Int))) (y : Int×(List (Int×Int×Int×Int×(List Int)×(List Int)))) (hF : f77 t_l = some y) : vc Tryz.prog tab Tryz.f77.ntmps 2 (match Tryz.f77.body with | some c=>c | none=>.skip) (retK tab C77 Tryz.f77.results.toList y) (C77.shIn t_l).st := by
 unfold f77 at hF
 refine OL (OL ?_)
 obtain ⟨r1,hr1,hF⟩ := bindE hF
 refine OL (AI f45_in (callV0 (callI C45 t_l r1 [(0,some 0),(1,some 1)] false C45_holds hr1 rfl rfl (AI (fun h=>nomatch h) (R2 (AI (AI rfl TV) (AI (R2 TV) ?_)))))))
 have hy := someE hF
 subst hy
 refine AI rfl (E4 [(0,some 0),(1,some 1),(2,some 4)] (AI rfl (AI (AI rfl TV) (R3 TV))))
theorem C77_holds : C77.Holds Tryz.prog 77 := holds_of_vc tab_ok mixed (fn := Tryz.f77) (by kernel_rfl) rfl C77 (fun x y hF=>C77_vc x y hF)
theorem f77_in : InP 77 := ⟨Tryz.f77,by kernel_rfl,by kernel_rfl,by kernel_rfl⟩
def f79 (s_t_l : List (Int×Int×Int×Int×(List Int)×(List Int))) (s_was:Int) (s_e:Int) (v : List Int) : Option (Int×Int×Int×(List (Int×Int×Int×Int×(List Int)×(List Int)))) :=
 bif (s_e != (0:Int)) then
 some ((0:Int),s_was,s_e,s_t_l)
 else
 bindF (f73 s_t_l ([(List.length v:Int)],v)) fun r1 =>
 some (r1.1,s_was,r1.2.1,r1.2.2)
def C79 : Con where
 X := (List (Int×Int×Int×Int×(List Int)×(List Int)))×Int×Int×(List Int)
 Y := Int×Int×Int×(List (Int×Int×Int×Int×(List Int)×(List Int)))
 e := 3
 args x := [P0 0 0,.dat T4 x.2.2.2]
 hin x := [(0,.cells [(.ptr 1 0),(.d T0 x.2.1),(.d T0 x.2.2.1)]),(1,.cells [(.osl 2)]),(2,.arr 132 T6 x.1)]
 F x := f79 x.1 x.2.1 x.2.2.1 x.2.2.2
 ret y := [.dat T0 y.1]
 hout y := [(0,.cells [(.ptr 1 0),(.d T0 y.2.1),(.d T0 y.2.2.1)]),(1,.cells [(.osl 3)]),(3,.arr 132 T6 y.2.2.2)]
 nout := 4
theorem C79_vc (s_t_l : List (Int×Int×Int×Int×(List Int)×(List Int))) (s_was:Int) (s_e:Int) (v : List Int) (y : Int×Int×Int×(List (Int×Int×Int×Int×(List Int)×(List Int)))) (hF : f79 s_t_l s_was s_e v = some y) : vc Tryz.prog tab Tryz.f79.ntmps 3 (match Tryz.f79.body with | some c=>c | none=>.skip) (retK tab C79 Tryz.f79.results.toList y) (C79.shIn (s_t_l,s_was,s_e,v)).st := by
 unfold f79 at hF
 refine OL (OL (OL (condI hF (fun hF=>?_) (fun hF=>?_))))
 ·refine OL ?_
  have hy := someE hF
  subst hy
  refine AI rfl (E4 [(0,some 0),(1,some 1),(3,some 2)] (R2 (AI TV (R3 TV))))
 refine OL (OL ?_)
 obtain ⟨r1,hr1,hF⟩ := bindE hF
 refine OL (AI f73_in (callV0 (callI C73 (s_t_l,([(List.length v:Int)],v)) r1 [(0,some 1),(1,some 2)] false C73_holds hr1 rfl rfl (R2 (AI (fun h=>nomatch h) (R2 (AI (AI rfl TV) (AI (R2 TV) (OL (OL (OL ?_)))))))))))
 have hy := someE hF
 subst hy
 refine AI rfl (E4 [(0,some 0),(1,some 1),(3,some 6)] (R2 (AI TV (R3 TV))))
theorem C79_holds : C79.Holds Tryz.prog 79 := holds_of_vc tab_ok mixed (fn := Tryz.f79) (by kernel_rfl) rfl C79 (fun x y hF=>C79_vc x.1 x.2.1 x.2.2.1 x.2.2.2 y hF)
theorem f79_in : InP 79 := ⟨Tryz.f79,by kernel_rfl,by kernel_rfl,by kernel_rfl⟩
def f78 (s_t_l : List (Int×Int×Int×Int×(List Int)×(List Int))) (s_was:Int) (s_e:Int) (op:Int) (a:Int) (b:Int) (k:Int) : Option (Int×Int×Int×(List (Int×Int×Int×Int×(List Int)×(List Int)))) :=
 bif (s_e != (0:Int)) then
 some ((0:Int),s_was,s_e,s_t_l)
 else
 bindF (f105 s_t_l op a b k) fun r1 =>
 some (r1.1,s_was,r1.2.1,r1.2.2)
def C78 : Con where
 X := (List (Int×Int×Int×Int×(List Int)×(List Int)))×Int×Int×Int×Int×Int×Int
 Y := Int×Int×Int×(List (Int×Int×Int×Int×(List Int)×(List Int)))
 e := 3
 args x := [P0 0 0,.dat T0 x.2.2.2.1,.dat T0 x.2.2.2.2.1,.dat T0 x.2.2.2.2.2.1,.dat T0 x.2.2.2.2.2.2]
 hin x := [(0,.cells [(.ptr 1 0),(.d T0 x.2.1),(.d T0 x.2.2.1)]),(1,.cells [(.osl 2)]),(2,.arr 132 T6 x.1)]
 F x := f78 x.1 x.2.1 x.2.2.1 x.2.2.2.1 x.2.2.2.2.1 x.2.2.2.2.2.1 x.2.2.2.2.2.2
 ret y := [.dat T0 y.1]
 hout y := [(0,.cells [(.ptr 1 0),(.d T0 y.2.1),(.d T0 y.2.2.1)]),(1,.cells [(.osl 3)]),(3,.arr 132 T6 y.2.2.2)]
 nout := 4
theorem C78_vc (s_t_l : List (Int×Int×Int×Int×(List Int)×(List Int))) (s_was:Int) (s_e:Int) (op:Int) (a:Int) (b:Int) (k:Int) (y : Int×Int×Int×(List (Int×Int×Int×Int×(List Int)×(List Int)))) (hF : f78 s_t_l s_was s_e op a b k = some y) : vc Tryz.prog tab Tryz.f78.ntmps 3 (match Tryz.f78.body with | some c=>c | none=>.skip) (retK tab C78 Tryz.f78.results.toList y) (C78.shIn (s_t_l,s_was,s_e,op,a,b,k)).st := by
 unfold f78 at hF
 refine OL (OL (OL (condI hF (fun hF=>?_) (fun hF=>?_))))
 ·refine OL ?_
  have hy := someE hF
  subst hy
  refine AI rfl (E4 [(0,some 0),(1,some 1),(3,some 2)] (R2 (AI TV (R3 TV))))
 refine OL ?_
 obtain ⟨r1,hr1,hF⟩ := bindE hF
 refine OL (AI f105_in (callV0 (callI C105 (s_t_l,op,a,b,k) r1 [(0,some 1),(1,some 2)] false C105_holds hr1 rfl rfl (R4 (AI (fun h=>nomatch h) (R2 (AI (AI rfl TV) (AI (R2 TV) (OL (OL (OL ?_)))))))))))
 have hy := someE hF
 subst hy
 refine AI rfl (E4 [(0,some 0),(1,some 1),(3,some 5)] (R2 (AI TV (R3 TV))))
theorem C78_holds : C78.Holds Tryz.prog 78 := holds_of_vc tab_ok mixed (fn := Tryz.f78) (by kernel_rfl) rfl C78 (fun x y hF=>C78_vc x.1 x.2.1 x.2.2.1 x.2.2.2.1 x.2.2.2.2.1 x.2.2.2.2.2.1 x.2.2.2.2.2.2 y hF)
theorem f78_in : InP 78 := ⟨Tryz.f78,by kernel_rfl,by kernel_rfl,by kernel_rfl⟩
def f80 (s_t_l : List (Int×Int×Int×Int×(List Int)×(List Int))) (s_was:Int) (s_e:Int) (n:Int) : Option (Int×Int×Int×Int×(List (Int×Int×Int×Int×(List Int)×(List Int)))) :=
 bif (s_e != (0:Int)) then
 bindF (f48 s_t_l s_was) fun q2_8 =>
 some ((0:Int),s_e,s_was,s_e,q2_8)
 else
 some (n,(0:Int),s_was,s_e,s_t_l)
def C80 : Con where
 X := (List (Int×Int×Int×Int×(List Int)×(List Int)))×Int×Int×Int
 Y := Int×Int×Int×Int×(List (Int×Int×Int×Int×(List Int)×(List Int)))
 e := 3
 args x := [P0 0 0,.dat T0 x.2.2.2]
 hin x := [(0,.cells [(.ptr 1 0),(.d T0 x.2.1),(.d T0 x.2.2.1)]),(1,.cells [(.osl 2)]),(2,.arr 132 T6 x.1)]
 F x := f80 x.1 x.2.1 x.2.2.1 x.2.2.2
 ret y := [.dat T0 y.1,.dat T0 y.2.1]
 hout y := [(0,.cells [(.ptr 1 0),(.d T0 y.2.2.1),(.d T0 y.2.2.2.1)]),(1,.cells [(.osl 3)]),(3,.arr 132 T6 y.2.2.2.2)]
 nout := 4
theorem C80_vc (s_t_l : List (Int×Int×Int×Int×(List Int)×(List Int))) (s_was:Int) (s_e:Int) (n:Int) (y : Int×Int×Int×Int×(List (Int×Int×Int×Int×(List Int)×(List Int)))) (hF : f80 s_t_l s_was s_e n = some y) : vc Tryz.prog tab Tryz.f80.ntmps 3 (match Tryz.f80.body with | some c=>c | none=>.skip) (retK tab C80 Tryz.f80.results.toList y) (C80.shIn (s_t_l,s_was,s_e,n)).st := by
 unfold f80 at hF
 refine OL (OL (OL (condI hF (fun hF=>?_) (fun hF=>?_))))
 ·refine OL (EI (.take 0 (.take 1 (.take 2 (.take 3 (.take 4 (.take 5 (.take 6 (.take 7 (.alt 8 .done .done))))))))) (EI [] (EI [] (AI rfl (AI TV ?_)))))
  obtain ⟨q2_8,hq2_8,hF⟩ := bindE hF
  refine OL (AI f48_in (callV0 (callI C48 (s_t_l,s_was) q2_8 [(0,some 1),(1,some 2)] false C48_holds hq2_8 rfl rfl (AI rfl (AI (fun h=>nomatch h) (R2 (AI (AI rfl TV) (AI (R2 TV) (OL (EI (.take 0 (.take 1 (.take 2 (.take 3 (.take 4 (.take 5 .done)))))) (EI [] (EI [] (AI rfl ?_)))))))))))))
  have hy := someE hF
  subst hy
  refine AI rfl (E4 [(0,some 0),(1,some 1),(3,some 5)] (R3 (AI TV (R3 TV))))
 refine OL ?_
 have hy := someE hF
 subst hy
 refine AI rfl (E4 [(0,some 0),(1,some 1),(3,some 2)] (R3 (AI TV (R3 TV))))
theorem C80_holds : C80.Holds Tryz.prog 80 := holds_of_vc tab_ok mixed (fn := Tryz.f80) (by kernel_rfl) rfl C80 (fun x y hF=>C80_vc x.1 x.2.1 x.2.2.1 x.2.2.2 y hF)
theorem f80_in : InP 80 := ⟨Tryz.f80,by kernel_rfl,by kernel_rfl,by kernel_rfl⟩
def f49 (t_l : List (Int×Int×Int×Int×(List Int)×(List Int))) (out:Int) (want : List Int) : Option (Int×Int×(List (Int×Int×Int×Int×(List Int)×(List Int)))) :=
 bindF (f76 t_l out want) fun r1 =>
 bif (r1.1 != (0:Int)) then
 some ((0:Int),r1.1,r1.2)
 else
 bindF (f77 r1.2) fun r2 =>
 bindF (f79 r2.2 r2.1 (0:Int) want) fun r3 =>
 bindF (f78 r3.2.2.2 r3.2.1 r3.2.2.1 (3:Int) out r3.1 (0:Int)) fun r4 =>
 bindF (f78 r4.2.2.2 r4.2.1 r4.2.2.1 (4:Int) r4.1 r4.1 (0:Int)) fun r5 =>
 bindF (f78 r5.2.2.2 r5.2.1 r5.2.2.1 (10:Int) r5.1 (0:Int) (0:Int)) fun r6 =>
 bindF (f80 r6.2.2.2 r6.2.1 r6.2.2.1 r6.1) fun r7 =>
 some (r7.1,r7.2.1,r7.2.2.2.2)
def C49 : Con where
 X := (List (Int×Int×Int×Int×(List Int)×(List Int)))×Int×(List Int)
 Y := Int×Int×(List (Int×Int×Int×Int×(List Int)×(List Int)))
 e := 2
 args x := [P0 0 0,.dat T0 x.2.1,.dat T4 x.2.2]
 hin x := [(0,.cells [(.osl 1)]),(1,.arr 132 T6 x.1)]
 F x := f49 x.1 x.2.1 x.2.2
 ret y := [.dat T0 y.1,.dat T0 y.2.1]
 hout y := [(0,.cells [(.osl 2)]),(2,.arr 132 T6 y.2.2)]
 nout := 3
theorem C49_vc (t_l : List (Int×Int×Int×Int×(List Int)×(List Int))) (out:Int) (want : List Int) (y : Int×Int×(List (Int×Int×Int×Int×(List Int)×(List Int)))) (hF : f49 t_l out want = some y) : vc Tryz.prog tab Tryz.f49.ntmps 2 (match Tryz.f49.body with | some c=>c | none=>.skip) (retK tab C49 Tryz.f49.results.toList y) (C49.shIn (t_l,out,want)).st := by
 unfold f49 at hF
 refine OL (OL (OL ?_))
 obtain ⟨r1,hr1,hF⟩ := bindE hF
 refine OL (AI f76_in (callV0 (callI C76 (t_l,out,want) r1 [(0,some 0),(1,some 1)] false C76_holds hr1 rfl rfl (R2 (AI (fun h=>nomatch h) (R2 (AI (AI rfl TV) (AI (R2 TV) (OL (condI hF (fun hF=>?_) (fun hF=>?_)))))))))))
 ·refine OL ?_
  have hy := someE hF
  subst hy
  refine AI rfl (E4 [(0,some 0),(2,some 1)] (R3 (AI TV (R2 TV))))
 refine OL ?_
 obtain ⟨r2,hr2,hF⟩ := bindE hF
 refine OL (AI f77_in (callV0 (callI C77 r1.2 r2 [(0,some 0),(1,some 1)] false C77_holds hr2 rfl rfl (AI (fun h=>nomatch h) (R2 (AI (AI rfl TV) (AI (R2 TV) (OL ?_))))))))
 obtain ⟨r3,hr3,hF⟩ := bindE hF
 refine OL (AI f79_in (callV0 (callI C79 (r2.2,r2.1,(0:Int),want) r3 [(0,some 6),(1,some 0),(2,some 1)] false C79_holds hr3 rfl rfl (AI rfl (AI (fun h=>nomatch h) (R2 (AI (AI rfl TV) (AI (R3 TV) ?_))))))))
 obtain ⟨r4,hr4,hF⟩ := bindE hF
 refine OL (AI f78_in (callV0 (callI C78 (r3.2.2.2,r3.2.1,r3.2.2.1,(3:Int),out,r3.1,(0:Int)) r4 [(0,some 6),(1,some 0),(2,some 10)] false C78_holds hr4 rfl rfl (R4 (AI (fun h=>nomatch h) (R2 (AI (AI rfl TV) (AI (R3 TV) (OL ?_)))))))))
 obtain ⟨r5,hr5,hF⟩ := bindE hF
 refine OL (AI f78_in (callV0 (callI C78 (r4.2.2.2,r4.2.1,r4.2.2.1,(4:Int),r4.1,r4.1,(0:Int)) r5 [(0,some 6),(1,some 0),(2,some 14)] false C78_holds hr5 rfl rfl (R4 (AI (fun h=>nomatch h) (R2 (AI (AI rfl TV) (AI (R3 TV) ?_))))))))
 obtain ⟨r6,hr6,hF⟩ := bindE hF
 refine OL (AI f78_in (callV0 (callI C78 (r5.2.2.2,r5.2.1,r5.2.2.1,(10:Int),r5.1,(0:Int),(0:Int)) r6 [(0,some 6),(1,some 0),(2,some 18)] false C78_holds hr6 rfl rfl (R4 (AI (fun h=>nomatch h) (R2 (AI (AI rfl TV) (AI (R3 TV) ?_))))))))
 obtain ⟨r7,hr7,hF⟩ := bindE hF
 refine OL (AI f80_in (callV0 (callI C80 (r6.2.2.2,r6.2.1,r6.2.2.1,r6.1) r7 [(0,some 6),(1,some 0),(2,some 22)] false C80_holds hr7 rfl rfl (AI rfl (AI (fun h=>nomatch h) (R2 (AI (AI rfl TV) (AI (R3 TV) ?_))))))))
 have hy := someE hF
 subst hy
 refine AI rfl (E4 [(0,some 0),(2,some 26)] (R3 (AI TV (R2 TV))))
theorem C49_holds : C49.Holds Tryz.prog 49 := holds_of_vc tab_ok mixed (fn := Tryz.f49) (by kernel_rfl) rfl C49 (fun x y hF=>C49_vc x.1 x.2.1 x.2.2 y hF)
theorem f49_in : InP 49 := ⟨Tryz.f49,by kernel_rfl,by kernel_rfl,by kernel_rfl⟩
def f50 (t_l : List (Int×Int×Int×Int×(List Int)×(List Int))) (out:Int) (want : List Int) : Option (Int×Int×(List (Int×Int×Int×Int×(List Int)×(List Int)))) :=
 bindF (f76 t_l out want) fun r1 =>
 bif (r1.1 != (0:Int)) then
 some ((0:Int),r1.1,r1.2)
 else
 bindF (f77 r1.2) fun r2 =>
 bindF (f79 r2.2 r2.1 (0:Int) want) fun r3 =>
 bindF (f78 r3.2.2.2 r3.2.1 r3.2.2.1 (3:Int) out r3.1 (0:Int)) fun r4 =>
 bindF (f78 r4.2.2.2 r4.2.1 r4.2.2.1 (11:Int) r4.1 (0:Int) (4:Int)) fun r5 =>
 bindF (f78 r5.2.2.2 r5.2.1 r5.2.2.1 (10:Int) r5.1 (0:Int) (0:Int)) fun r6 =>
 bindF (f80 r6.2.2.2 r6.2.1 r6.2.2.1 r6.1) fun r7 =>
 some (r7.1,r7.2.1,r7.2.2.2.2)
def C50 : Con where
 X := (List (Int×Int×Int×Int×(List Int)×(List Int)))×Int×(List Int)
 Y := Int×Int×(List (Int×Int×Int×Int×(List Int)×(List Int)))
 e := 2
 args x := [P0 0 0,.dat T0 x.2.1,.dat T4 x.2.2]
 hin x := [(0,.cells [(.osl 1)]),(1,.arr 132 T6 x.1)]
 F x := f50 x.1 x.2.1 x.2.2
 ret y := [.dat T0 y.1,.dat T0 y.2.1]
 hout y := [(0,.cells [(.osl 2)]),(2,.arr 132 T6 y.2.2)]
 nout := 3
theorem C50_vc (t_l : List (Int×Int×Int×Int×(List Int)×(List Int))) (out:Int) (want : List Int) (y : Int×Int×(List (Int×Int×Int×Int×(List Int)×(List Int)))) (hF : f50 t_l out want = some y) : vc Tryz.prog tab Tryz.f50.ntmps 2 (match Tryz.f50.body with | some c=>c | none=>.skip) (retK tab C50 Tryz.f50.results.toList y) (C50.shIn (t_l,out,want)).st := by
 unfold f50 at hF
 refine OL (OL (OL ?_))
 obtain ⟨r1,hr1,hF⟩ := bindE hF
 refine OL (AI f76_in (callV0 (callI C76 (t_l,out,want) r1 [(0,some 0),(1,some 1)] false C76_holds hr1 rfl rfl (R2 (AI (fun h=>nomatch h) (R2 (AI (AI rfl TV) (AI (R2 TV) (OL (condI hF (fun hF=>?_) (fun hF=>?_)))))))))))
 ·refine OL ?_
  have hy := someE hF
  subst hy
  refine AI rfl (E4 [(0,some 0),(2,some 1)] (R3 (AI TV (R2 TV))))
 refine OL ?_
 obtain ⟨r2,hr2,hF⟩ := bindE hF
 refine OL (AI f77_in (callV0 (callI C77 r1.2 r2 [(0,some 0),(1,some 1)] false C77_holds hr2 rfl rfl (AI (fun h=>nomatch h) (R2 (AI (AI rfl TV) (AI (R2 TV) (OL ?_))))))))
 obtain ⟨r3,hr3,hF⟩ := bindE hF
 refine OL (AI f79_in (callV0 (callI C79 (r2.2,r2.1,(0:Int),want) r3 [(0,some 6),(1,some 0),(2,some 1)] false C79_holds hr3 rfl rfl (AI rfl (AI (fun h=>nomatch h) (R2 (AI (AI rfl TV) (AI (R3 TV) ?_))))))))
 obtain ⟨r4,hr4,hF⟩ := bindE hF
 refine OL (AI f78_in (callV0 (callI C78 (r3.2.2.2,r3.2.1,r3.2.2.1,(3:Int),out,r3.1,(0:Int)) r4 [(0,some 6),(1,some 0),(2,some 10)] false C78_holds hr4 rfl rfl (R4 (AI (fun h=>nomatch h) (R2 (AI (AI rfl TV) (AI (R3 TV) (OL ?_)))))))))
 obtain ⟨r5,hr5,hF⟩ := bindE hF
 refine OL (AI f78_in (callV0 (callI C78 (r4.2.2.2,r4.2.1,r4.2.2.1,(11:Int),r4.1,(0:Int),(4:Int)) r5 [(0,some 6),(1,some 0),(2,some 14)] false C78_holds hr5 rfl rfl (R4 (AI (fun h=>nomatch h) (R2 (AI (AI rfl TV) (AI (R3 TV) ?_))))))))
 obtain ⟨r6,hr6,hF⟩ := bindE hF
 refine OL (AI f78_in (callV0 (callI C78 (r5.2.2.2,r5.2.1,r5.2.2.1,(10:Int),r5.1,(0:Int),(0:Int)) r6 [(0,some 6),(1,some 0),(2,some 18)] false C78_holds hr6 rfl rfl (R4 (AI (fun h=>nomatch h) (R2 (AI (AI rfl TV) (AI (R3 TV) ?_))))))))
 obtain ⟨r7,hr7,hF⟩ := bindE hF
 refine OL (AI f80_in (callV0 (callI C80 (r6.2.2.2,r6.2.1,r6.2.2.1,r6.1) r7 [(0,some 6),(1,some 0),(2,some 22)] false C80_holds hr7 rfl rfl (AI rfl (AI (fun h=>nomatch h) (R2 (AI (AI rfl TV) (AI (R3 TV) ?_))))))))
 have hy := someE hF
 subst hy
 refine AI rfl (E4 [(0,some 0),(2,some 26)] (R3 (AI TV (R2 TV))))
theorem C50_holds : C50.Holds Tryz.prog 50 := holds_of_vc tab_ok mixed (fn := Tryz.f50) (by kernel_rfl) rfl C50 (fun x y hF=>C50_vc x.1 x.2.1 x.2.2 y hF)
theorem f50_in : InP 50 := ⟨Tryz.f50,by kernel_rfl,by kernel_rfl,by kernel_rfl⟩
def f51_j1 (class_:Int) (r1 : Bool×(List Int)×(List Int)×(List (Int×Int×Int×Int×(List Int)×(List Int)))) : Option (Sum Unit Int) :=
 bif (!r1.1) then
 some (Sum.inr (1:Int))
 else
 bif ((List.length r1.2.1:Int) != (1:Int)) then
 some (Sum.inr (4:Int))
 else
 bif (decide (class_ < (0:Int))) then
 some (Sum.inr (4:Int))
 else
 bif (decide (class_ ≥ (List.length r1.2.2.1:Int))) then
 some (Sum.inr (4:Int))
 else
 some (Sum.inl ())
def f51 (t_l : List (Int×Int×Int×Int×(List Int)×(List Int))) (out:Int) (class_:Int) : Option (Int×Int×(List (Int×Int×Int×Int×(List Int)×(List Int)))) :=
 bindF (f25 t_l out) fun r1 =>
 bindF (f51_j1 class_ r1) fun z2 =>
 sumF z2 (fun z2a =>
 bindF (f52 r1.2.1 (0:Int)) fun r3 =>
 bindF (f81 ([(4294967296:Int)]) (List.length r1.2.2.1:Int)) fun r4 =>
 guardF (0 ≤ class_ ∧ class_ < (List.length r3.2.2:Int)) <|
 guardF (0 ≤ class_ ∧ class_ < (List.length r4:Int)) <|
 bindF (f77 r1.2.2.2) fun r5 =>
 bindF (f79 r5.2 r5.1 (0:Int) (List.set r3.2.2 (Int.toNat class_) (-4294967296:Int))) fun r6 =>
 bindF (f79 r6.2.2.2 r6.2.1 r6.2.2.1 (List.set r4 (Int.toNat class_) (0:Int))) fun r7 =>
 bindF (f78 r7.2.2.2 r7.2.1 r7.2.2.1 (4:Int) out r6.1 (0:Int)) fun r8 =>
 bindF (f78 r8.2.2.2 r8.2.1 r8.2.2.1 (9:Int) r8.1 (0:Int) (0:Int)) fun r9 =>
 bindF (f78 r9.2.2.2 r9.2.1 r9.2.2.1 (2:Int) out r9.1 (0:Int)) fun r10 =>
 bindF (f78 r10.2.2.2 r10.2.1 r10.2.2.1 (2:Int) r10.1 r7.1 (0:Int)) fun r11 =>
 bindF (f78 r11.2.2.2 r11.2.1 r11.2.2.1 (11:Int) r11.1 (0:Int) (1:Int)) fun r12 =>
 bindF (f78 r12.2.2.2 r12.2.1 r12.2.2.1 (4:Int) r12.1 r7.1 (0:Int)) fun r13 =>
 bindF (f78 r13.2.2.2 r13.2.1 r13.2.2.1 (9:Int) r13.1 (0:Int) (0:Int)) fun r14 =>
 bindF (f80 r14.2.2.2 r14.2.1 r14.2.2.1 r14.1) fun r15 =>
 some (r15.1,r15.2.1,r15.2.2.2.2)) (fun z2b =>
 some ((0:Int),z2b,r1.2.2.2))
def C51 : Con where
 X := (List (Int×Int×Int×Int×(List Int)×(List Int)))×Int×Int
 Y := Int×Int×(List (Int×Int×Int×Int×(List Int)×(List Int)))
 e := 2
 args x := [P0 0 0,.dat T0 x.2.1,.dat T0 x.2.2]
 hin x := [(0,.cells [(.osl 1)]),(1,.arr 132 T6 x.1)]
 F x := f51 x.1 x.2.1 x.2.2
 ret y := [.dat T0 y.1,.dat T0 y.2.1]
 hout y := [(0,.cells [(.osl 2)]),(2,.arr 132 T6 y.2.2)]
 nout := 3
theorem C51_vc (t_l : List (Int×Int×Int×Int×(List Int)×(List Int))) (out:Int) (class_:Int) (y : Int×Int×(List (Int×Int×Int×Int×(List Int)×(List Int)))) (hF : f51 t_l out class_ = some y) : vc Tryz.prog tab Tryz.f51.ntmps 2 (match Tryz.f51.body with | some c=>c | none=>.skip) (retK tab C51 Tryz.f51.results.toList y) (C51.shIn (t_l,out,class_)).st := by
 unfold f51 at hF
 refine OL (OL ?_)
 obtain ⟨r1,hr1,hF⟩ := bindE hF
 refine OL (AI f25_in (callV0 (callI C25 (t_l,out) r1 [(0,some 0),(1,some 1)] false C25_holds hr1 rfl rfl (AI rfl (AI (fun h=>nomatch h) (R2 (AI (AI rfl TV) (AI (R2 TV) (OL ?_)))))))))
 obtain ⟨z2,hz2,hF⟩ := bindE hF
 refine OQ ⟨Sum.elim (fun z2a=>[(0,⟨[(0,P0 0 0),(1,.dat T0 out),(2,.dat T0 class_),(8,P0 2 0)],[(0,.cells [(.osl 1)]),(1,.arr 132 T6 r1.2.2.2),(2,.cells [(.osl 3),(.osl 4)]),(3,.arr 3 T0 r1.2.1),(4,.arr 23 T0 r1.2.2.1)],5⟩)]) (fun z2b=>[(1,⟨[(6,D0 0),(7,.dat T0 z2b)],[(0,.cells [(.osl 1)]),(1,.arr 132 T6 r1.2.2.2)],2⟩)]) z2,?_,?_⟩
 ·have hF := hz2
  clear hz2
  unfold f51_j1 at hF
  refine OL (condI hF (fun hF=>?_) (fun hF=>?_))
  ·refine OL ?_
   have hz := someE hF
   subst hz
   refine E4 [(0,some 0),(1,some 1)] (R3 (AI TV (R2 TV)))
  refine OL (condN hF (fun hF=>?_) (fun hF=>?_))
  ·refine gdYF (condF (condN hF (fun hF=>?_) (fun hF=>?_)))
   ·refine gdYF (gdYF (gdYF (gdYF (condF (condI hF (fun hF=>?_) (fun hF=>?_))))))
    ·refine OL ?_
     have hz := someE hF
     subst hz
     refine E4 [(0,some 0),(1,some 1)] (R3 (AI TV (R2 TV)))
    have hz := someE hF
    subst hz
    refine E4 [(0,some 0),(1,some 1),(2,some 6),(3,some 4),(4,some 5)] (R3 (AI (R2 TV) (R5 TV)))
   refine gdNF (gdNF (gdNF (gdNF (condT (condT (OL ?_))))))
   have hz := someE hF
   subst hz
   refine E4 [(0,some 0),(1,some 1)] (R3 (AI TV (R2 TV)))
  refine gdNF (condT (gdNF (gdNF (gdNF (gdNF (gdNF (condT (condT (OL ?_)))))))))
  have hz := someE hF
  subst hz
  refine E4 [(0,some 0),(1,some 1)] (R3 (AI TV (R2 TV)))
 rcases z2 with z2a | z2b
 ·dsimp only [sumF] at hF
  refine AI (OL ?_) TV
  obtain ⟨r3,hr3,hF⟩ := bindE hF
  refine OL (AI f52_in (callV0 (callI C52 (r1.2.1,(0:Int)) r3 [] true C52_holds hr3 rfl rfl (R2 (AI (fun _=>rfl) (R2 (AI TV (AI TV (OL (OL (OL ?_)))))))))))
  obtain ⟨r4,hr4,hF⟩ := bindE hF
  refine OL (AI f81_in (callV0 (callI C81 ([(4294967296:Int)],(List.length r1.2.2.1:Int)) r4 [] true C81_holds hr4 rfl rfl (R2 (AI (fun _=>rfl) (R2 (AI TV (AI TV (OL (guardI hF (fun hF=>?_)))))))))))
  refine OL (guardI hF (fun hF=>?_))
  refine OL (OL ?_)
  obtain ⟨r5,hr5,hF⟩ := bindE hF
  refine OL (AI f77_in (callV0 (callI C77 r1.2.2.2 r5 [(0,some 0),(1,some 1)] false C77_holds hr5 rfl rfl (AI (fun h=>nomatch h) (R2 (AI (AI rfl TV) (AI (R2 TV) (OL ?_))))))))
  obtain ⟨r6,hr6,hF⟩ := bindE hF
  have hr6 : C79.F (r5.2,r5.1,(0:Int),(List.set r3.2.2 (Int.toNat class_) (-4294967296:Int))) = some r6 := hr6
  refine OL (AI f79_in (callV0 (callI C79 _ r6 [(0,some 12),(1,some 0),(2,some 1)] false C79_holds hr6 rfl rfl (AI rfl (AI (fun h=>nomatch h) (R2 (AI (AI rfl TV) (AI (R3 TV) (OL ?_)))))))))
  obtain ⟨r7,hr7,hF⟩ := bindE hF
  refine OL (AI f79_in (callV0 (callI C79 (r6.2.2.2,r6.2.1,r6.2.2.1,(List.set r4 (Int.toNat class_) (0:Int))) r7 [(0,some 12),(1,some 0),(2,some 16)] false C79_holds hr7 rfl rfl (AI rfl (AI (fun h=>nomatch h) (R2 (AI (AI rfl TV) (AI (R3 TV) (OL ?_)))))))))
  obtain ⟨r8,hr8,hF⟩ := bindE hF
  refine OL (AI f78_in (callV0 (callI C78 (r7.2.2.2,r7.2.1,r7.2.2.1,(4:Int),out,r6.1,(0:Int)) r8 [(0,some 12),(1,some 0),(2,some 20)] false C78_holds hr8 rfl rfl (R4 (AI (fun h=>nomatch h) (R2 (AI (AI rfl TV) (AI (R3 TV) ?_))))))))
  obtain ⟨r9,hr9,hF⟩ := bindE hF
  refine OL (AI f78_in (callV0 (callI C78 (r8.2.2.2,r8.2.1,r8.2.2.1,(9:Int),r8.1,(0:Int),(0:Int)) r9 [(0,some 12),(1,some 0),(2,some 24)] false C78_holds hr9 rfl rfl (R4 (AI (fun h=>nomatch h) (R2 (AI (AI rfl TV) (AI (R3 TV) (OL ?_)))))))))
  obtain ⟨r10,hr10,hF⟩ := bindE hF
  refine OL (AI f78_in (callV0 (callI C78 (r9.2.2.2,r9.2.1,r9.2.2.1,(2:Int),out,r9.1,(0:Int)) r10 [(0,some 12),(1,some 0),(2,some 28)] false C78_holds hr10 rfl rfl (R4 (AI (fun h=>nomatch h) (R2 (AI (AI rfl TV) (AI (R3 TV) ?_))))))))
  obtain ⟨r11,hr11,hF⟩ := bindE hF
  refine OL (AI f78_in (callV0 (callI C78 (r10.2.2.2,r10.2.1,r10.2.2.1,(2:Int),r10.1,r7.1,(0:Int)) r11 [(0,some 12),(1,some 0),(2,some 32)] false C78_holds hr11 rfl rfl (R4 (AI (fun h=>nomatch h) (R2 (AI (AI rfl TV) (AI (R3 TV) (OL ?_)))))))))
  obtain ⟨r12,hr12,hF⟩ := bindE hF
  refine OL (AI f78_in (callV0 (callI C78 (r11.2.2.2,r11.2.1,r11.2.2.1,(11:Int),r11.1,(0:Int),(1:Int)) r12 [(0,some 12),(1,some 0),(2,some 36)] false C78_holds hr12 rfl rfl (R4 (AI (fun h=>nomatch h) (R2 (AI (AI rfl TV) (AI (R3 TV) ?_))))))))
  obtain ⟨r13,hr13,hF⟩ := bindE hF
  refine OL (AI f78_in (callV0 (callI C78 (r12.2.2.2,r12.2.1,r12.2.2.1,(4:Int),r12.1,r7.1,(0:Int)) r13 [(0,some 12),(1,some 0),(2,some 40)] false C78_holds hr13 rfl rfl (R4 (AI (fun h=>nomatch h) (R2 (AI (AI rfl TV) (AI (R3 TV) ?_))))))))
  obtain ⟨r14,hr14,hF⟩ := bindE hF
  refine OL (AI f78_in (callV0 (callI C78 (r13.2.2.2,r13.2.1,r13.2.2.1,(9:Int),r13.1,(0:Int),(0:Int)) r14 [(0,some 12),(1,some 0),(2,some 44)] false C78_holds hr14 rfl rfl (R4 (AI (fun h=>nomatch h) (R2 (AI (AI rfl TV) (AI (R3 TV) ?_))))))))
  obtain ⟨r15,hr15,hF⟩ := bindE hF
  refine OL (AI f80_in (callV0 (callI C80 (r14.2.2.2,r14.2.1,r14.2.2.1,r14.1) r15 [(0,some 12),(1,some 0),(2,some 48)] false C80_holds hr15 rfl rfl (AI rfl (AI (fun h=>nomatch h) (R2 (AI (AI rfl TV) (AI (R3 TV) ?_))))))))
  have hy := someE hF
  subst hy
  refine AI rfl (E4 [(0,some 0),(2,some 52)] (R3 (AI TV (R2 TV))))
 dsimp only [sumF] at hF
 refine AI ?_ TV
 have hy := someE hF
 subst hy
 refine AI rfl (E4 [(0,some 0),(2,some 1)] (R3 (AI TV (R2 TV))))
theorem C51_holds : C51.Holds Tryz.prog 51 := holds_of_vc tab_ok mixed (fn := Tryz.f51) (by kernel_rfl) rfl C51 (fun x y hF=>C51_vc x.1 x.2.1 x.2.2 y hF)
theorem f51_in : InP 51 := ⟨Tryz.f51,by kernel_rfl,by kernel_rfl,by kernel_rfl⟩
def f23 (t_l : List (Int×Int×Int×Int×(List Int)×(List Int))) (kind:Int) (out:Int) (e : (List Int)×(List Int)×Int) : Option (Int×Int×(List (Int×Int×Int×Int×(List Int)×(List Int)))) :=
 bif (kind == (1:Int)) then
 bindF (f49 t_l out e.2.1) fun r1 =>
 some (r1.1,r1.2.1,r1.2.2)
 else
 bif (kind == (2:Int)) then
 bindF (f50 t_l out e.2.1) fun r2 =>
 some (r2.1,r2.2.1,r2.2.2)
 else
 bindF (f51 t_l out e.2.2) fun r3 =>
 some (r3.1,r3.2.1,r3.2.2)
def C23 : Con where
 X := (List (Int×Int×Int×Int×(List Int)×(List Int)))×Int×Int×((List Int)×(List Int)×Int)
 Y := Int×Int×(List (Int×Int×Int×Int×(List Int)×(List Int)))
 e := 2
 args x := [P0 0 0,.dat T0 x.2.1,.dat T0 x.2.2.1,.dat T10 x.2.2.2]
 hin x := [(0,.cells [(.osl 1)]),(1,.arr 132 T6 x.1)]
 F x := f23 x.1 x.2.1 x.2.2.1 x.2.2.2
 ret y := [.dat T0 y.1,.dat T0 y.2.1]
 hout y := [(0,.cells [(.osl 2)]),(2,.arr 132 T6 y.2.2)]
 nout := 3
theorem C23_vc (t_l : List (Int×Int×Int×Int×(List Int)×(List Int))) (kind:Int) (out:Int) (e : (List Int)×(List Int)×Int) (y : Int×Int×(List (Int×Int×Int×Int×(List Int)×(List Int)))) (hF : f23 t_l kind out e = some y) : vc Tryz.prog tab Tryz.f23.ntmps 2 (match Tryz.f23.body with | some c=>c | none=>.skip) (retK tab C23 Tryz.f23.results.toList y) (C23.shIn (t_l,kind,out,e)).st := by
 unfold f23 at hF
 refine OL (OL (OL (OL (condI hF (fun hF=>?_) (fun hF=>?_)))))
 ·refine OL ?_
  obtain ⟨r1,hr1,hF⟩ := bindE hF
  refine OL (AI f49_in (callV0 (callI C49 (t_l,out,e.2.1) r1 [(0,some 0),(1,some 1)] false C49_holds hr1 rfl rfl (R2 (AI (fun h=>nomatch h) (R2 (AI (AI rfl TV) (AI (R2 TV) ?_))))))))
  have hy := someE hF
  subst hy
  refine AI rfl (E4 [(0,some 0),(2,some 5)] (R3 (AI TV (R2 TV))))
 refine OL (condI hF (fun hF=>?_) (fun hF=>?_))
 ·refine OL ?_
  obtain ⟨r2,hr2,hF⟩ := bindE hF
  refine OL (AI f50_in (callV0 (callI C50 (t_l,out,e.2.1) r2 [(0,some 0),(1,some 1)] false C50_holds hr2 rfl rfl (R2 (AI (fun h=>nomatch h) (R2 (AI (AI rfl TV) (AI (R2 TV) ?_))))))))
  have hy := someE hF
  subst hy
  refine AI rfl (E4 [(0,some 0),(2,some 5)] (R3 (AI TV (R2 TV))))
 refine OL ?_
 obtain ⟨r3,hr3,hF⟩ := bindE hF
 refine OL (AI f51_in (callV0 (callI C51 (t_l,out,e.2.2) r3 [(0,some 0),(1,some 1)] false C51_holds hr3 rfl rfl (R2 (AI (fun h=>nomatch h) (R2 (AI (AI rfl TV) (AI (R2 TV) ?_))))))))
 have hy := someE hF
 subst hy
 refine AI rfl (E4 [(0,some 0),(2,some 5)] (R3 (AI TV (R2 TV))))
theorem C23_holds : C23.Holds Tryz.prog 23 := holds_of_vc tab_ok mixed (fn := Tryz.f23) (by kernel_rfl) rfl C23 (fun x y hF=>C23_vc x.1 x.2.1 x.2.2.1 x.2.2.2 y hF)
theorem f23_in : InP 23 := ⟨Tryz.f23,by kernel_rfl,by kernel_rfl,by kernel_rfl⟩
def f108_j3 (a : (List Int)×(List Int)) (d : List Int) : Option Bool :=
 bindF (f86 (a.1,a.2)) fun r9 =>
 bif (!r9) then
 some true
 else
 bindF (f72 d) fun r10 =>
 some (!r10)
def f108_j2 (a : (List Int)×(List Int)) (d : List Int) : Option (Sum Unit Unit) :=
 bindF (f108_j3 a d) fun z8 =>
 bif z8 then
 some (Sum.inr ())
 else
 some (Sum.inl ())
def f108_j6 (a : (List Int)×(List Int)) (r11 : Int×(List Int)) : Option Bool :=
 bif (r11.1 != (0:Int)) then
 some true
 else
 bindF (f87 r11.2 a.1) fun r18 =>
 some (!r18)
def f108_j5 (a : (List Int)×(List Int)) (r11 : Int×(List Int)) : Option (Sum Unit Unit) :=
 bindF (f108_j6 a r11) fun z17 =>
 bif z17 then
 some (Sum.inr ())
 else
 some (Sum.inl ())
def f108_l7 (a : (List Int)×(List Int)) (r20 : List Int) (go : (Int×(List Int)) → Option (List Int)) (v51:Int) (l4 : List Int) : Option (List Int) :=
 bif (decide (v51 < (List.length a.2:Int))) then
 guardF (0 ≤ v51 ∧ v51 < (List.length a.2:Int)) <|
 guardF (0 ≤ v51 ∧ v51 < (List.length r20:Int)) <|
 guardF (0 ≤ v51 ∧ v51 < (List.length r20:Int)) <|
 guardF (0 ≤ (rd (0:Int) r20 v51) ∧ (rd (0:Int) r20 v51) < (List.length l4:Int)) <|
 bindF (f65 (rd (0:Int) l4 (rd (0:Int) r20 v51)) (rd (0:Int) a.2 v51)) fun q11_15 =>
 guardF (0 ≤ (rd (0:Int) r20 v51) ∧ (rd (0:Int) r20 v51) < (List.length l4:Int)) <|
 go ((i64.wrap (v51 + (1:Int))),(List.set l4 (Int.toNat (rd (0:Int) r20 v51)) q11_15))
 else
 some l4
def f108 (a : (List Int)×(List Int)) (d : List Int) : Option (Int×(List Int)×(List Int)) :=
 bindF (f108_j2 a d) fun z5 =>
 sumF z5 (fun z5a =>
 bindF (f141 d a.1) fun r11 =>
 bindF (f108_j5 a r11) fun z15 =>
 sumF z15 (fun z15a =>
 bindF (f52 d (0:Int)) fun r19 =>
 bindF (f142 d a.1) fun r20 =>
 bindF (loopF (fun go x=>f108_l7 a r20 go x.1 x.2) fuelN ((0:Int),r19.2.2)) fun z21 =>
 some ((0:Int),r19.2.1,z21)) (fun z15b =>
 some ((4:Int),[],[]))) (fun z5b =>
 some ((1:Int),[],[]))
def C108 : Con where
 X := ((List Int)×(List Int))×(List Int)
 Y := Int×(List Int)×(List Int)
 e := 0
 args x := [.dat T7 x.1,.dat T4 x.2]
 hin x := []
 F x := f108 x.1 x.2
 ret y := [.raw true [(.osl 0),(.osl 1)],.dat T0 y.1]
 hout y := [(0,.arr 3 T0 y.2.1),(1,.arr 23 T0 y.2.2)]
 nout := 2
theorem C108_vc (a : (List Int)×(List Int)) (d : List Int) (y : Int×(List Int)×(List Int)) (hF : f108 a d = some y) : VC Tryz.f108 C108 (a,d) y := by
 unfold f108 at hF
 refine OL ?_
 obtain ⟨z5,hz5,hF⟩ := bindE hF
 refine OQ ⟨Sum.elim (fun z5a=>[(0,⟨[(1,.dat T4 d),(2,P0 0 0),(4,P0 1 0)],[(0,.cells [(.d T4 a.1),(.d T4 a.2)]),(1,.cells [N0,N0])],2⟩)]) (fun z5b=>[(1,⟨[(4,P0 0 0),(5,D0 1)],[(0,.cells [N0,N0])],1⟩)]) z5,?_,?_⟩
 ·have hF := hz5
  clear hz5
  unfold f108_j2 at hF
  obtain ⟨z8,hz8,hF⟩ := bindE hF
  refine OQ ⟨[(0,⟨[(1,.dat T4 d),(2,P0 0 0),(4,P0 1 0),(20,.dat .bool z8)],[(0,.cells [(.d T4 a.1),(.d T4 a.2)]),(1,.cells [N0,N0])],2⟩)],?_,?_⟩
  ·have hF := hz8
   clear hz8
   unfold f108_j3 at hF
   obtain ⟨r9,hr9,hF⟩ := bindE hF
   refine OL (AI f86_in (callV0 (callI C86 (a.1,a.2) r9 [] false C86_holds hr9 rfl rfl (R2 (AI (fun h=>nomatch h) (R2 (AI TV (AI TV (condN hF (fun hF=>?_) (fun hF=>?_))))))))))
   ·refine gdYF ?_
    obtain ⟨r10,hr10,hF⟩ := bindE hF
    refine OL (AI f72_in (callV0 (callI C72 d r10 [] false C72_holds hr10 rfl rfl (AI rfl (AI (fun h=>nomatch h) (R2 (AI TV (AI TV (gdYF (condF ?_))))))))))
    have hz := someE hF
    subst hz
    refine E4 [(0,some 0),(1,some 1)] (R3 (AI (R2 TV) (R2 TV)))
   refine gdNF (gdNF (condT ?_))
   have hz := someE hF
   subst hz
   refine E4 [(0,some 0),(1,some 1)] (R3 (AI (R2 TV) (R2 TV)))
  refine AI (condI hF (fun hF=>?_) (fun hF=>?_)) TV
  ·refine OL (OL ?_)
   have hz := someE hF
   subst hz
   refine E4 [(0,some 1)] (R2 (AI (AI rfl TV) (AI rfl TV)))
  have hz := someE hF
  subst hz
  refine E4 [(0,some 0),(1,some 1)] (R2 (AI (R2 TV) (R2 TV)))
 rcases z5 with z5a | z5b
 ·dsimp only [sumF] at hF
  refine AI (OL ?_) TV
  obtain ⟨r11,hr11,hF⟩ := bindE hF
  refine OL (AI f141_in (callV0 (callI C141 (d,a.1) r11 [] false C141_holds hr11 rfl rfl (R2 (AI (fun h=>nomatch h) (R2 (AI TV (AI TV ?_))))))))
  obtain ⟨z15,hz15,hF⟩ := bindE hF
  refine OQ ⟨Sum.elim (fun z15a=>[(0,⟨[(1,.dat T4 d),(2,P0 0 0),(4,P0 1 0)],[(0,.cells [(.d T4 a.1),(.d T4 a.2)]),(1,.cells [N0,N0])],2⟩)]) (fun z15b=>[(1,⟨[(4,P0 0 0),(5,D0 4)],[(0,.cells [N0,N0])],1⟩)]) z15,?_,?_⟩
  ·have hF := hz15
   clear hz15
   unfold f108_j5 at hF
   obtain ⟨z17,hz17,hF⟩ := bindE hF
   refine OQ ⟨[(0,⟨[(1,.dat T4 d),(2,P0 0 0),(4,P0 1 0),(37,.dat .bool z17)],[(0,.cells [(.d T4 a.1),(.d T4 a.2)]),(1,.cells [N0,N0])],2⟩)],?_,?_⟩
   ·have hF := hz17
    clear hz17
    unfold f108_j6 at hF
    refine condN hF (fun hF=>?_) (fun hF=>?_)
    ·refine gdYF (gdYF (gdYF ?_))
     obtain ⟨r18,hr18,hF⟩ := bindE hF
     refine OL (AI f87_in (callV0 (callI C87 (r11.2,a.1) r18 [] true C87_holds hr18 rfl rfl (R2 (AI (fun _=>rfl) (R2 (AI TV (AI TV (gdYF (condF ?_))))))))))
     have hz := someE hF
     subst hz
     refine E4 [(0,some 0),(1,some 1)] (R3 (AI (R2 TV) (R2 TV)))
    refine gdNF (gdNF (gdNF (gdNF (condT ?_))))
    have hz := someE hF
    subst hz
    refine E4 [(0,some 0),(1,some 1)] (R3 (AI (R2 TV) (R2 TV)))
   refine AI (condI hF (fun hF=>?_) (fun hF=>?_)) TV
   ·refine OL (OL ?_)
    have hz := someE hF
    subst hz
    refine E4 [(0,some 1)] (R2 (AI (AI rfl TV) (AI rfl TV)))
   have hz := someE hF
   subst hz
   refine E4 [(0,some 0),(1,some 1)] (R2 (AI (R2 TV) (R2 TV)))
  rcases z15 with z15a | z15b
  ·dsimp only [sumF] at hF
   refine AI (OL ?_) TV
   obtain ⟨r19,hr19,hF⟩ := bindE hF
   refine OL (AI f52_in (callV0 (callI C52 (d,(0:Int)) r19 [] false C52_holds hr19 rfl rfl (R2 (AI (fun h=>nomatch h) (R2 (AI TV (AI TV (OL (OL ?_))))))))))
   obtain ⟨r20,hr20,hF⟩ := bindE hF
   refine OL (AI f142_in (callV0 (callI C142 (d,a.1) r20 [] false C142_holds hr20 rfl rfl (R2 (AI (fun h=>nomatch h) (R2 (AI TV (AI TV (OL (OL ?_))))))))))
   obtain ⟨z21,hz21,hF⟩ := bindE hF
   refine loopI (Int×(List Int)) (List Int) (fun x=>⟨[(4,P0 0 0),(8,P0 1 0),(10,O0 2),(49,.dat T4 a.2),(50,.dat T0 (List.length a.2:Int)),(51,.dat T0 x.1)],[(0,.cells [N0,N0]),(1,.cells [(.osl 3),(.osl 4)]),(2,.arr 3 T0 r20),(3,.arr 3 T0 r19.2.1),(4,.arr 23 T0 x.2)],5⟩) (fun z=>[(2,⟨[(4,P0 0 0),(8,P0 1 0)],[(0,.cells [N0,N0]),(1,.cells [(.osl 2),(.osl 3)]),(2,.arr 3 T0 r19.2.1),(3,.arr 23 T0 z)],4⟩)]) (loopF (fun go x=>f108_l7 a r20 go x.1 x.2)) fuelN ((0:Int),r19.2.2) z21 (AI hz21 (AI (E4 [(0,some 1),(1,some 4),(2,some 5),(3,some 2),(4,some 3)] (R4 (AI (R3 TV) (R5 TV)))) (AI (fun _ _ h=>loopZ h) (AI (fun m=>curI (fun v51=>fun l4 z hF=>?_)) ?_))))
   ·have hF : f108_l7 a r20 (loopF (fun go x=>f108_l7 a r20 go x.1 x.2) m) v51 l4 = some z := hF
    unfold f108_l7 at hF
    refine OL (OL (condI hF (fun hF=>?_) (fun hF=>?_)))
    ·refine OL (OL (guardI hF (fun hF=>?_)))
     refine EI (.take 0 (.take 1 (.take 2 (.take 3 (.take 4 (.take 5 (.take 6 (.take 7 (.take 8 (.take 9 (.take 10 (.take 11 (.take 12 (.take 13 (.take 14 (.alt 15 (.take 16 (.alt 17 .done .done)) .done)))))))))))))))) (EI [(17,[4])] (EI [] (AI rfl (guardI hF (fun hF=>?_)))))
     refine guardI hF (fun hF=>?_)
     refine guardI hF (fun hF=>?_)
     refine AI TV ?_
     obtain ⟨q11_15,hq11_15,hF⟩ := bindE hF
     refine OL (AI f65_in (callV0 (callI C65 ((rd (0:Int) l4 (rd (0:Int) r20 v51)),(rd (0:Int) a.2 v51)) q11_15 [] false C65_holds hq11_15 rfl rfl (R2 (AI (fun h=>nomatch h) (R2 (AI TV (AI TV (guardI hF (fun hF=>?_))))))))))
     refine AI TV (OL (EI ((i64.wrap (v51 + (1:Int))),(List.set l4 (Int.toNat (rd (0:Int) r20 v51)) q11_15)) (AI hF (E4 [(0,some 0),(1,some 1),(2,some 2),(3,some 3),(4,some 4)] (R4 (AI (R3 TV) (R5 TV)))))))
    have hz := someE hF
    subst hz
    refine E4 [(0,some 0),(1,some 1),(2,some 3),(3,some 4)] (AI rfl (AI (R2 TV) (R4 TV)))
   refine AI (OL (OL ?_)) TV
   have hy := someE hF
   subst hy
   refine AI rfl (E4 [(0,some 2),(1,some 3)] (R2 (AI (AI rfl TV) (R2 TV))))
  dsimp only [sumF] at hF
  refine AI ?_ TV
  have hy := someE hF
  subst hy
  refine AI rfl (E4 [(0,none),(1,none)] (R2 (AI (AI rfl TV) (R2 TV))))
 dsimp only [sumF] at hF
 refine AI ?_ TV
 have hy := someE hF
 subst hy
 refine AI rfl (E4 [(0,none),(1,none)] (R2 (AI (AI rfl TV) (R2 TV))))
theorem C108_holds : C108.Holds Tryz.prog 108 := holds_of_vc tab_ok mixed (fn := Tryz.f108) (by kernel_rfl) rfl C108 (fun x y hF=>C108_vc x.1 x.2 y hF)
theorem f108_in : InP 108 := ⟨Tryz.f108,by kernel_rfl,by kernel_rfl,by kernel_rfl⟩
def f110 (t : (List Int)×(List Int)) (e:Int) (d : List Int) : Option (Int×(List Int)×(List Int)) :=
 bif (e != (0:Int)) then
 some (e,[],[])
 else
 bindF (f108 (t.1,t.2) d) fun r1 =>
 some (r1.1,r1.2.1,r1.2.2)
def C110 : Con where
 X := ((List Int)×(List Int))×Int×(List Int)
 Y := Int×(List Int)×(List Int)
 e := 0
 args x := [.dat T7 x.1,.dat T0 x.2.1,.dat T4 x.2.2]
 hin x := []
 F x := f110 x.1 x.2.1 x.2.2
 ret y := [.raw true [(.osl 0),(.osl 1)],.dat T0 y.1]
 hout y := [(0,.arr 3 T0 y.2.1),(1,.arr 23 T0 y.2.2)]
 nout := 2
theorem C110_vc (t : (List Int)×(List Int)) (e:Int) (d : List Int) (y : Int×(List Int)×(List Int)) (hF : f110 t e d = some y) : VC Tryz.f110 C110 (t,e,d) y := by
 unfold f110 at hF
 refine OL (OL (OL (condI hF (fun hF=>?_) (fun hF=>?_))))
 ·refine OL (OL ?_)
  have hy := someE hF
  subst hy
  refine AI rfl (E4 [(0,none),(1,none)] (R2 (AI (AI rfl TV) (R2 TV))))
 refine OL ?_
 obtain ⟨r1,hr1,hF⟩ := bindE hF
 refine OL (AI f108_in (callV0 (callI C108 ((t.1,t.2),d) r1 [] false C108_holds hr1 rfl rfl (R3 (AI (fun h=>nomatch h) (R2 (AI TV (AI TV (OL ?_)))))))))
 have hy := someE hF
 subst hy
 refine AI rfl (E4 [(0,some 2),(1,some 3)] (R2 (AI (AI rfl TV) (R2 TV))))
theorem C110_holds : C110.Holds Tryz.prog 110 := holds_of_vc tab_ok mixed (fn := Tryz.f110) (by kernel_rfl) rfl C110 (fun x y hF=>C110_vc x.1 x.2.1 x.2.2 y hF)
theorem f110_in : InP 110 := ⟨Tryz.f110,by kernel_rfl,by kernel_rfl,by kernel_rfl⟩
def f112 (a : (List Int)×(List Int)) (b : (List Int)×(List Int)) (first : Bool) : Option (Int×(List Int)×(List Int)) :=
 bif first then
 bindF (f113 (a.1,a.2)) fun r1 =>
 bif (r1.1 != (0:Int)) then
 some (r1.1,[],[])
 else
 bindF (f143 (r1.2.1,r1.2.2) (b.1,b.2)) fun r2 =>
 some (r2.1,r2.2.1,r2.2.2)
 else
 bindF (f113 (b.1,b.2)) fun r3 =>
 bif (r3.1 != (0:Int)) then
 some (r3.1,[],[])
 else
 bindF (f143 (a.1,a.2) (r3.2.1,r3.2.2)) fun r4 =>
 some (r4.1,r4.2.1,r4.2.2)
def C112 : Con where
 X := ((List Int)×(List Int))×((List Int)×(List Int))×Bool
 Y := Int×(List Int)×(List Int)
 e := 0
 args x := [.dat T7 x.1,.dat T7 x.2.1,.dat .bool x.2.2]
 hin x := []
 F x := f112 x.1 x.2.1 x.2.2
 ret y := [.raw true [(.osl 0),(.osl 1)],.dat T0 y.1]
 hout y := [(0,.arr 3 T0 y.2.1),(1,.arr 23 T0 y.2.2)]
 nout := 2
theorem C112_vc (a : (List Int)×(List Int)) (b : (List Int)×(List Int)) (first : Bool) (y : Int×(List Int)×(List Int)) (hF : f112 a b first = some y) : VC Tryz.f112 C112 (a,b,first) y := by
 unfold f112 at hF
 refine OL (OL (OL (condI hF (fun hF=>?_) (fun hF=>?_))))
 ·refine OL ?_
  obtain ⟨r1,hr1,hF⟩ := bindE hF
  refine OL (AI f113_in (callV0 (callI C113 (a.1,a.2) r1 [] false C113_holds hr1 rfl rfl (R2 (AI (fun h=>nomatch h) (R2 (AI TV (AI TV (OL (OL (OL (condI hF (fun hF=>?_) (fun hF=>?_)))))))))))))
  ·refine OL (OL ?_)
   have hy := someE hF
   subst hy
   refine AI rfl (E4 [(0,none),(1,none)] (R2 (AI (AI rfl TV) (R2 TV))))
  refine OL ?_
  obtain ⟨r2,hr2,hF⟩ := bindE hF
  refine OL (AI f143_in (callV0 (callI C143 ((r1.2.1,r1.2.2),(b.1,b.2)) r2 [] true C143_holds hr2 rfl rfl (R4 (AI (fun _=>rfl) (R2 (AI TV (AI TV (OL ?_)))))))))
  have hy := someE hF
  subst hy
  refine AI rfl (E4 [(0,some 6),(1,some 7)] (R2 (AI (AI rfl TV) (R2 TV))))
 refine OL ?_
 obtain ⟨r3,hr3,hF⟩ := bindE hF
 refine OL (AI f113_in (callV0 (callI C113 (b.1,b.2) r3 [] false C113_holds hr3 rfl rfl (R2 (AI (fun h=>nomatch h) (R2 (AI TV (AI TV (OL (OL (OL (condI hF (fun hF=>?_) (fun hF=>?_)))))))))))))
 ·refine OL (OL ?_)
  have hy := someE hF
  subst hy
  refine AI rfl (E4 [(0,none),(1,none)] (R2 (AI (AI rfl TV) (R2 TV))))
 refine OL ?_
 obtain ⟨r4,hr4,hF⟩ := bindE hF
 refine OL (AI f143_in (callV0 (callI C143 ((a.1,a.2),(r3.2.1,r3.2.2)) r4 [] true C143_holds hr4 rfl rfl (R4 (AI (fun _=>rfl) (R2 (AI TV (AI TV (OL ?_)))))))))
 have hy := someE hF
 subst hy
 refine AI rfl (E4 [(0,some 6),(1,some 7)] (R2 (AI (AI rfl TV) (R2 TV))))
theorem C112_holds : C112.Holds Tryz.prog 112 := holds_of_vc tab_ok mixed (fn := Tryz.f112) (by kernel_rfl) rfl C112 (fun x y hF=>C112_vc x.1 x.2.1 x.2.2 y hF)
theorem f112_in : InP 112 := ⟨Tryz.f112,by kernel_rfl,by kernel_rfl,by kernel_rfl⟩
def f114_l1 (g : (List Int)×(List Int)) (d : List Int) (side:Int) (q8_9 : Int×(List Int)×(List Int)) (go : (Int×(List Int)) → Option (List Int)) (v23:Int) (l4 : List Int) : Option (List Int) :=
 bif (decide (v23 < (List.length q8_9.2.2:Int))) then
 bindF (f146 d v23) fun q8_9 =>
 guardF (0 ≤ side ∧ side ≤ (List.length q8_9.2:Int)) <|
 guardF (0 ≤ (i64.wrap (side + (1:Int))) ∧ (i64.wrap (side + (1:Int))) ≤ (List.length q8_9.2:Int)) <|
 guardF ((List.length ([] : List Int) + List.length (List.take (Int.toNat side) q8_9.2)) * 8 ≤ 140737488355328) <|
 guardF ((List.length (([] : List Int) ++ (List.take (Int.toNat side) q8_9.2)) + List.length (List.drop (Int.toNat (i64.wrap (side + (1:Int)))) q8_9.2)) * 8 ≤ 140737488355328) <|
 bindF (f147 g.1 ((([] : List Int) ++ (List.take (Int.toNat side) q8_9.2)) ++ (List.drop (Int.toNat (i64.wrap (side + (1:Int)))) q8_9.2))) fun q6_10 =>
 guardF (0 ≤ q6_10.1 ∧ q6_10.1 < (List.length g.2:Int)) <|
 guardF (0 ≤ v23 ∧ v23 < (List.length l4:Int)) <|
 go ((i64.wrap (v23 + (1:Int))),(List.set l4 (Int.toNat v23) (rd (0:Int) g.2 q6_10.1)))
 else
 some l4
def f114 (g : (List Int)×(List Int)) (d : List Int) (side:Int) : Option ((List Int)×(List Int)) :=
 bindF (f52 d (0:Int)) fun q8_9 =>
 bindF (loopF (fun go x=>f114_l1 g d side q8_9 go x.1 x.2) fuelN ((0:Int),q8_9.2.2)) fun z2 =>
 some (q8_9.2.1,z2)
def C114 : Con where
 X := ((List Int)×(List Int))×(List Int)×Int
 Y := (List Int)×(List Int)
 e := 0
 args x := [.dat T7 x.1,.dat T4 x.2.1,.dat T0 x.2.2]
 hin x := []
 F x := f114 x.1 x.2.1 x.2.2
 ret y := [.raw true [(.osl 0),(.osl 1)]]
 hout y := [(0,.arr 3 T0 y.1),(1,.arr 23 T0 y.2)]
 nout := 2
theorem C114_vc (g : (List Int)×(List Int)) (d : List Int) (side:Int) (y : (List Int)×(List Int)) (hF : f114 g d side = some y) : VC Tryz.f114 C114 (g,d,side) y := by
 unfold f114 at hF
 refine OL (OL ?_)
 obtain ⟨q8_9,hq8_9,hF⟩ := bindE hF
 refine OL (AI f52_in (callV0 (callI C52 (d,(0:Int)) q8_9 [] false C52_holds hq8_9 rfl rfl (R2 (AI (fun h=>nomatch h) (R2 (AI TV (AI TV (OL (OL (OL ?_)))))))))))
 obtain ⟨z2,hz2,hF⟩ := bindE hF
 refine loopI (Int×(List Int)) (List Int) (fun x=>⟨[(1,.dat T4 d),(2,.dat T0 side),(3,P0 0 0),(6,P0 1 0),(7,P0 2 0),(22,.dat T0 (List.length q8_9.2.2:Int)),(23,.dat T0 x.1)],[(0,.cells [(.d T4 g.1),(.d T4 g.2)]),(1,.cells [N0,N0]),(2,.cells [(.osl 3),(.osl 4)]),(3,.arr 3 T0 q8_9.2.1),(4,.arr 23 T0 x.2)],5⟩) (fun z=>[(2,⟨[(6,P0 0 0),(7,P0 1 0)],[(0,.cells [N0,N0]),(1,.cells [(.osl 2),(.osl 3)]),(2,.arr 3 T0 q8_9.2.1),(3,.arr 23 T0 z)],4⟩)]) (loopF (fun go x=>f114_l1 g d side q8_9 go x.1 x.2)) fuelN ((0:Int),q8_9.2.2) z2 (AI hz2 (AI (E4 [(0,some 0),(1,some 1),(2,some 4),(3,some 2),(4,some 3)] (R5 (AI (R3 TV) (R5 TV)))) (AI (fun _ _ h=>loopZ h) (AI (fun m=>curI (fun v23=>fun l4 z hF=>?_)) ?_))))
 ·have hF : f114_l1 g d side q8_9 (loopF (fun go x=>f114_l1 g d side q8_9 go x.1 x.2) m) v23 l4 = some z := hF
  unfold f114_l1 at hF
  refine OL (OL (condI hF (fun hF=>?_) (fun hF=>?_)))
  ·refine OL (OL (OL ?_))
   obtain ⟨q8_9,hq8_9,hF⟩ := bindE hF
   refine OL (AI f146_in (callV0 (callI C146 (d,v23) q8_9 [] false C146_holds hq8_9 rfl rfl (R2 (AI (fun h=>nomatch h) (R2 (AI TV (AI TV (OL (EI (.take 1 (.take 2 (.take 3 (.take 5 (.take 6 (.take 7 (.take 8 (.alt 0 (.alt 4 (.alt 9 (.take 10 .done) .done) .done) .done)))))))) (EI [] (EI [5] (AI rfl (guardI hF (fun hF=>?_)))))))))))))))
   refine guardI hF (fun hF=>?_)
   refine AI TV (OL (AI TV (OL (guardI hF (fun hF=>?_)))))
   refine AI TV (OL (guardI hF (fun hF=>?_)))
   refine OL ?_
   obtain ⟨q6_10,hq6_10,hF⟩ := bindE hF
   refine OL (AI f147_in (callV0 (callI C147 (g.1,((([] : List Int) ++ (List.take (Int.toNat side) q8_9.2)) ++ (List.drop (Int.toNat (i64.wrap (side + (1:Int)))) q8_9.2))) q6_10 [] true C147_holds hq6_10 rfl rfl (R2 (AI (fun _=>rfl) (R2 (AI TV (AI TV (EI (.take 0 (.take 1 (.take 2 (.take 3 (.take 4 (.take 5 (.take 6 (.take 7 (.take 8 (.alt 9 .done .done)))))))))) (EI [] (EI [] (AI rfl (guardI hF (fun hF=>?_))))))))))))))
   refine guardI hF (fun hF=>?_)
   refine AI TV (OL (EI ((i64.wrap (v23 + (1:Int))),(List.set l4 (Int.toNat v23) (rd (0:Int) g.2 q6_10.1))) (AI hF (E4 [(0,some 0),(1,some 1),(2,some 2),(3,some 3),(4,some 4)] (R5 (AI (R3 TV) (R5 TV)))))))
  have hz := someE hF
  subst hz
  refine E4 [(0,some 1),(1,some 2),(2,some 3),(3,some 4)] (AI rfl (AI (R2 TV) (R4 TV)))
 refine AI (OL (OL ?_)) TV
 have hy := someE hF
 subst hy
 refine AI rfl (E4 [(0,some 2),(1,some 3)] (AI rfl (AI (AI rfl TV) (R2 TV))))
theorem C114_holds : C114.Holds Tryz.prog 114 := holds_of_vc tab_ok mixed (fn := Tryz.f114) (by kernel_rfl) rfl C114 (fun x y hF=>C114_vc x.1 x.2.1 x.2.2 y hF)
theorem f114_in : InP 114 := ⟨Tryz.f114,by kernel_rfl,by kernel_rfl,by kernel_rfl⟩
def f184 (is : Bool) (yes:Int) (no:Int) : Option Int :=
 bif is then
 some yes
 else
 some no
def C184 : Con where
 X := Bool×Int×Int
 Y := Int
 e := 0
 args x := [.dat .bool x.1,.dat T0 x.2.1,.dat T0 x.2.2]
 hin x := []
 F x := f184 x.1 x.2.1 x.2.2
 ret y := [.dat T0 y]
 hout y := []
 nout := 0
theorem C184_vc (is : Bool) (yes:Int) (no:Int) (y:Int) (hF : f184 is yes no = some y) : VC Tryz.f184 C184 (is,yes,no) y := by
 unfold f184 at hF
 refine OL (OL (OL (condI hF (fun hF=>?_) (fun hF=>?_))))
 ·refine OL ?_
  have hy := someE hF
  subst hy
  refine AI rfl (E4 [] (R2 (AI TV TV)))
 refine OL ?_
 have hy := someE hF
 subst hy
 refine AI rfl (E4 [] (R2 (AI TV TV)))
theorem C184_holds : C184.Holds Tryz.prog 184 := holds_of_vc tab_ok mixed (fn := Tryz.f184) (by kernel_rfl) rfl C184 (fun x y hF=>C184_vc x.1 x.2.1 x.2.2 y hF)
theorem f184_in : InP 184 := ⟨Tryz.f184,by kernel_rfl,by kernel_rfl,by kernel_rfl⟩
def f185 (a:Int) (b:Int) : Option Int :=
 bif (decide (a < b)) then
 some (-1:Int)
 else
 bif (decide (a > b)) then
 some (1:Int)
 else
 some (0:Int)
def C185 : Con where
 X := Int×Int
 Y := Int
 e := 0
 args x := [.dat T0 x.1,.dat T0 x.2]
 hin x := []
 F x := f185 x.1 x.2
 ret y := [.dat T0 y]
 hout y := []
 nout := 0
theorem C185_vc (a:Int) (b:Int) (y:Int) (hF : f185 a b = some y) : VC Tryz.f185 C185 (a,b) y := by
 unfold f185 at hF
 refine OL (OL (OL (condI hF (fun hF=>?_) (fun hF=>?_))))
 ·refine OL ?_
  have hy := someE hF
  subst hy
  refine AI rfl (E4 [] (R2 (AI TV TV)))
 refine OL (condI hF (fun hF=>?_) (fun hF=>?_))
 ·refine OL ?_
  have hy := someE hF
  subst hy
  refine AI rfl (E4 [] (R2 (AI TV TV)))
 refine OL ?_
 have hy := someE hF
 subst hy
 refine AI rfl (E4 [] (R2 (AI TV TV)))
theorem C185_holds : C185.Holds Tryz.prog 185 := holds_of_vc tab_ok mixed (fn := Tryz.f185) (by kernel_rfl) rfl C185 (fun x y hF=>C185_vc x.1 x.2 y hF)
theorem f185_in : InP 185 := ⟨Tryz.f185,by kernel_rfl,by kernel_rfl,by kernel_rfl⟩
end Go.Proofs
