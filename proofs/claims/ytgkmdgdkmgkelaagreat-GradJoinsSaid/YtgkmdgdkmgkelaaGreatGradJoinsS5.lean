import Derived.Test.YtgkmdgdkmgkelaaGreatGradJoinsS4
set_option linter.unusedVariables false
set_option maxRecDepth 100000
set_option maxHeartbeats 8000000
namespace Go.Proofs
open Go.AM
open IntKind (i64 u64 i32 u32 i16 u16 i8 u8)
def f19_l4 (q17_4 : Int×Int×(List Int)) (go : (Int×(List (Int×Int))) → Option (List (Int×Int))) (v55:Int) (l2_2 : List (Int×Int)) : Option (List (Int×Int)) :=
 bif (decide (v55 < (List.length q17_4.2.2:Int))) then
 guardF (0 ≤ v55 ∧ v55 < (List.length q17_4.2.2:Int)) <|
 guardF (0 ≤ v55 ∧ v55 < (List.length l2_2:Int)) <|
 bindF (f41 (rd (0:Int) q17_4.2.2 v55)) fun q15_7 =>
 bindF (f26 ((rd (Ty.z T9) l2_2 v55).1,(rd (Ty.z T9) l2_2 v55).2) (q15_7.1,q15_7.2)) fun q15_8 =>
 guardF (0 ≤ v55 ∧ v55 < (List.length l2_2:Int)) <|
 go ((i64.wrap (v55 + (1:Int))),(List.set l2_2 (Int.toNat v55) (q15_8.1,q15_8.2)))
 else
 some l2_2
def f19_l3 (n : (List Int)×(List (ByteArray×Int×Int))) (kind:Int) (p_ : List Int) (l : List ((List Int)×(List Int)×Int)) (go : (Int×(List (Int×Int))×Int×Int) → Option (Sum Int ((List (Int×Int))×Int×Int))) (v36:Int) (l2 : List (Int×Int)) (c3_0:Int) (c3_1:Int) : Option (Sum Int ((List (Int×Int))×Int×Int)) :=
 bif (decide (v36 < (List.length l:Int))) then
 guardF (0 ≤ v36 ∧ v36 < (List.length l:Int)) <|
 bindF (f8 (n.1,n.2) kind p_ ((rd (Ty.z T10) l v36).1,((rd (Ty.z T10) l v36).2).1,((rd (Ty.z T10) l v36).2).2)) fun q17_4 =>
 bif (q17_4.2.1 != (0:Int)) then
 some (Sum.inl q17_4.2.1)
 else
 bindF (loopF (fun go x=>f19_l4 q17_4 go x.1 x.2) fuelN ((0:Int),l2)) fun z5 =>
 bindF (f41 q17_4.1) fun q17_2 =>
 bindF (f26 (c3_0,c3_1) (q17_2.1,q17_2.2)) fun q17_3 =>
 go ((i64.wrap (v36 + (1:Int))),z5,q17_3.1,q17_3.2)
 else
 some (Sum.inr (l2,c3_0,c3_1))
def f19 (n : (List Int)×(List (ByteArray×Int×Int))) (kind:Int) (p_ : List Int) (l : List ((List Int)×(List Int)×Int)) : Option (Int×Int×Int×(List (Int×Int))) :=
 bindF (f37 (n.1,n.2)) fun q19_4 =>
 bif (q19_4.2 != (0:Int)) then
 some ((0:Int),(0:Int),q19_4.2,[])
 else
 guardF (0 ≤ q19_4.1 ∧ q19_4.1 ≤ q19_4.1 ∧ Int.toNat q19_4.1 * 16 ≤ 140737488355328) <|
 bindF (loopF (fun go x=>f19_l3 n kind p_ l go x.1 x.2.1 x.2.2.1 x.2.2.2) fuelN ((0:Int),(List.replicate (Int.toNat q19_4.1) (Ty.z T9)),(0:Int),(0:Int))) fun z4 =>
 sumF z4 (fun z4a =>
 some ((0:Int),(0:Int),z4a,[])) (fun z4b =>
 some (z4b.2.1,z4b.2.2,(0:Int),z4b.1))
def C19 : Con where
 X := ((List Int)×(List (ByteArray×Int×Int)))×Int×(List Int)×(List ((List Int)×(List Int)×Int))
 Y := Int×Int×Int×(List (Int×Int))
 e := 0
 args x := [.dat T2 x.1,.dat T0 x.2.1,.dat T4 x.2.2.1,.dat T11 x.2.2.2]
 hin x := []
 F x := f19 x.1 x.2.1 x.2.2.1 x.2.2.2
 ret y := [O0 0,.raw true [(.d T0 y.1),(.d T8 y.2.1)],.dat T0 y.2.2.1]
 hout y := [(0,.arr 40 T9 y.2.2.2)]
 nout := 1
theorem C19_vc (n : (List Int)×(List (ByteArray×Int×Int))) (kind:Int) (p_ : List Int) (l : List ((List Int)×(List Int)×Int)) (y : Int×Int×Int×(List (Int×Int))) (hF : f19 n kind p_ l = some y) : VC Tryz.f19 C19 (n,kind,p_,l) y := by
 unfold f19 at hF
 refine OL (OL ?_)
 obtain ⟨q19_4,hq19_4,hF⟩ := bindE hF
 refine OL (AI f37_in (callV0 (callI C37 (n.1,n.2) q19_4 [] false C37_holds hq19_4 rfl rfl (R2 (AI (fun h=>nomatch h) (R2 (AI TV (AI TV (OL (OL (condI hF (fun hF=>?_) (fun hF=>?_))))))))))))
 ·refine OL (OL ?_)
  have hy := someE hF
  subst hy
  refine AI rfl (E4 [(0,none)] (R2 (AI (R2 TV) (AI rfl TV))))
 refine OL (guardI hF (fun hF=>?_))
 refine OL (OL (OL (OL ?_)))
 obtain ⟨z4,hz4,hF⟩ := bindE hF
 refine loopI (Int×(List (Int×Int))×Int×Int) (Sum Int ((List (Int×Int))×Int×Int)) (fun x=>⟨[(1,.dat T0 kind),(2,.dat T4 p_),(4,P0 0 0),(9,P0 1 0),(13,O0 2),(14,P0 3 0),(34,.dat T11 l),(35,.dat T0 (List.length l:Int)),(36,.dat T0 x.1)],[(0,.cells [(.d T4 n.1),(.d T3 n.2)]),(1,.cells [(.d T0 (0:Int)),(.d T8 (0:Int))]),(2,.arr 40 T9 x.2.1),(3,.cells [(.d T0 x.2.2.1),(.d T8 x.2.2.2)])],4⟩) (fun z=>Sum.elim (fun za=>[(1,⟨[(8,.raw false [N0]),(9,P0 0 0),(10,.dat T0 za)],[(0,.cells [(.d T0 (0:Int)),(.d T8 (0:Int))])],1⟩)]) (fun zb=>[(2,⟨[(9,P0 0 0),(13,O0 1),(14,P0 2 0)],[(0,.cells [(.d T0 (0:Int)),(.d T8 (0:Int))]),(1,.arr 40 T9 zb.1),(2,.cells [(.d T0 zb.2.1),(.d T8 zb.2.2)])],3⟩)]) z) (loopF (fun go x=>f19_l3 n kind p_ l go x.1 x.2.1 x.2.2.1 x.2.2.2)) fuelN ((0:Int),(List.replicate (Int.toNat q19_4.1) (Ty.z T9)),(0:Int),(0:Int)) z4 (AI hz4 (AI (E4 [(0,some 0),(1,some 1),(2,some 2),(3,some 3)] (R6 (AI (R4 TV) (R4 TV)))) (AI (fun _ _ h=>loopZ h) (AI (fun m=>curI (fun v36=>curI (fun l2=>curI (fun c3_0=>fun c3_1 z hF=>?_)))) ?_))))
 ·have hF : f19_l3 n kind p_ l (loopF (fun go x=>f19_l3 n kind p_ l go x.1 x.2.1 x.2.2.1 x.2.2.2) m) v36 l2 c3_0 c3_1 = some z := hF
  unfold f19_l3 at hF
  refine OL (OL (condI hF (fun hF=>?_) (fun hF=>?_)))
  ·refine OL (OL (guardI hF (fun hF=>?_)))
   refine OL (OL ?_)
   obtain ⟨q17_4,hq17_4,hF⟩ := bindE hF
   refine OL (AI f8_in (callV0 (callI C8 ((n.1,n.2),kind,p_,((rd (Ty.z T10) l v36).1,((rd (Ty.z T10) l v36).2).1,((rd (Ty.z T10) l v36).2).2)) q17_4 [] false C8_holds hq17_4 rfl rfl (R6 (AI (fun h=>nomatch h) (R2 (AI TV (AI TV (OL (OL (condI hF (fun hF=>?_) (fun hF=>?_))))))))))))
   ·refine OL (OL ?_)
    have hz := someE hF
    subst hz
    refine E4 [(0,some 1)] (R2 (AI (R2 TV) (AI rfl TV)))
   refine OL (OL ?_)
   obtain ⟨z5,hz5,hF⟩ := bindE hF
   refine loopI (Int×(List (Int×Int))) (List (Int×Int)) (fun x=>⟨[(1,.dat T0 kind),(2,.dat T4 p_),(4,P0 0 0),(9,P0 1 0),(13,O0 2),(14,P0 3 0),(18,.dat T0 q17_4.1),(34,.dat T11 l),(35,.dat T0 (List.length l:Int)),(36,.dat T0 v36),(53,O0 4),(54,.dat T0 (List.length q17_4.2.2:Int)),(55,.dat T0 x.1)],[(0,.cells [(.d T4 n.1),(.d T3 n.2)]),(1,.cells [(.d T0 (0:Int)),(.d T8 (0:Int))]),(2,.arr 40 T9 x.2),(3,.cells [(.d T0 c3_0),(.d T8 c3_1)]),(4,.arr 23 T0 q17_4.2.2)],5⟩) (fun z=>[(4,⟨[(1,.dat T0 kind),(2,.dat T4 p_),(4,P0 0 0),(9,P0 1 0),(13,O0 2),(14,P0 3 0),(18,.dat T0 q17_4.1),(34,.dat T11 l),(35,.dat T0 (List.length l:Int)),(36,.dat T0 v36)],[(0,.cells [(.d T4 n.1),(.d T3 n.2)]),(1,.cells [(.d T0 (0:Int)),(.d T8 (0:Int))]),(2,.arr 40 T9 z),(3,.cells [(.d T0 c3_0),(.d T8 c3_1)])],4⟩)]) (loopF (fun go x=>f19_l4 q17_4 go x.1 x.2)) fuelN ((0:Int),l2) z5 (AI hz5 (AI (E4 [(0,some 0),(1,some 1),(2,some 2),(3,some 3),(4,some 5)] (R9 (AI (R5 TV) (R5 TV)))) (AI (fun _ _ h=>loopZ h) (AI (fun m=>curI (fun v55=>fun l2_2 z hF=>?_)) ?_))))
   ·have hF : f19_l4 q17_4 (loopF (fun go x=>f19_l4 q17_4 go x.1 x.2) m) v55 l2_2 = some z := hF
    unfold f19_l4 at hF
    refine OL (OL (condI hF (fun hF=>?_) (fun hF=>?_)))
    ·refine OL (OL (guardI hF (fun hF=>?_)))
     refine EI (.take 0 (.take 1 (.take 2 (.take 3 (.take 4 (.take 5 (.take 6 (.alt 7 (.alt 8 (.take 9 (.alt 10 .done .done)) .done) .done)))))))) (EI [(10,[2])] (EI [] (AI rfl (guardI hF (fun hF=>?_)))))
     refine AI TV ?_
     obtain ⟨q15_7,hq15_7,hF⟩ := bindE hF
     refine OL (AI f41_in (callV0 (callI C41 (rd (0:Int) q17_4.2.2 v55) q15_7 [] false C41_holds hq15_7 rfl rfl (AI rfl (AI (fun h=>nomatch h) (R2 (AI TV (AI TV (AI TV ?_)))))))))
     obtain ⟨q15_8,hq15_8,hF⟩ := bindE hF
     refine OL (AI f26_in (callV0 (callI C26 (((rd (Ty.z T9) l2_2 v55).1,(rd (Ty.z T9) l2_2 v55).2),(q15_7.1,q15_7.2)) q15_8 [] false C26_holds hq15_8 rfl rfl (R4 (AI (fun h=>nomatch h) (R2 (AI TV (AI TV (guardI hF (fun hF=>?_))))))))))
     refine AI TV (OL (EI ((i64.wrap (v55 + (1:Int))),(List.set l2_2 (Int.toNat v55) (q15_8.1,q15_8.2))) (AI hF (E4 [(0,some 0),(1,some 1),(2,some 2),(3,some 3),(4,some 4)] (R9 (AI (R5 TV) (R5 TV)))))))
    have hz := someE hF
    subst hz
    refine E4 [(0,some 0),(1,some 1),(2,some 2),(3,some 3)] (R7 (AI (R4 TV) (R4 TV)))
   refine AI (EI (.take 0 (.take 1 (.alt 2 (.alt 3 (.alt 4 .done .done) .done) .done))) (EI [(4,[3])] (EI [] (AI rfl (AI TV ?_))))) TV
   obtain ⟨q17_2,hq17_2,hF⟩ := bindE hF
   refine OL (AI f41_in (callV0 (callI C41 q17_4.1 q17_2 [] false C41_holds hq17_2 rfl rfl (AI rfl (AI (fun h=>nomatch h) (R2 (AI TV (AI TV (AI TV ?_)))))))))
   obtain ⟨q17_3,hq17_3,hF⟩ := bindE hF
   refine OL (AI f26_in (callV0 (callI C26 ((c3_0,c3_1),(q17_2.1,q17_2.2)) q17_3 [] false C26_holds hq17_3 rfl rfl (R4 (AI (fun h=>nomatch h) (R2 (AI TV (AI TV (AI TV (OL (EI ((i64.wrap (v36 + (1:Int))),z5,q17_3.1,q17_3.2) (AI hF (E4 [(0,some 0),(1,some 1),(2,some 2),(3,some 3)] (R6 (AI (R4 TV) (R4 TV))))))))))))))))
  have hz := someE hF
  subst hz
  refine E4 [(0,some 1),(1,some 2),(2,some 3)] (AI rfl (AI (R3 TV) (R3 TV)))
 rcases z4 with z4a | z4b
 ·dsimp only [sumF] at hF
  refine AI ?_ TV
  have hy := someE hF
  subst hy
  refine AI rfl (E4 [(0,none)] (R2 (AI (R2 TV) (AI rfl TV))))
 dsimp only [sumF] at hF
 refine AI (OL (EI (.take 0 (.take 1 (.take 2 (.alt 3 (.take 4 .done) .done)))) (EI [] (EI [] (AI rfl (AI TV (OL ?_))))))) TV
 have hy := someE hF
 subst hy
 refine AI rfl (E4 [(0,some 1)] (R2 (AI (R2 TV) (AI rfl TV))))
theorem C19_holds : C19.Holds Tryz.prog 19 := holds_of_vc tab_ok mixed (fn := Tryz.f19) (by kernel_rfl) rfl C19 (fun x y hF=>C19_vc x.1 x.2.1 x.2.2.1 x.2.2.2 y hF)
theorem f19_in : InP 19 := ⟨Tryz.f19,by kernel_rfl,by kernel_rfl,by kernel_rfl⟩
def f20_l1 (a : List Int) (b : List Int) (go : Int → Option (Sum Unit Unit)) (i:Int) : Option (Sum Unit Unit) :=
 bif (decide (i < (List.length a:Int))) then
 guardF (0 ≤ i ∧ i < (List.length a:Int)) <|
 guardF (0 ≤ i ∧ i < (List.length b:Int)) <|
 bif ((rd (0:Int) a i) != (rd (0:Int) b i)) then
 some (Sum.inl ())
 else
 go (i64.wrap (i + (1:Int)))
 else
 some (Sum.inr ())
def f20 (a : List Int) (b : List Int) : Option Bool :=
 bif ((List.length a:Int) != (List.length b:Int)) then
 some false
 else
 bindF (loopF (fun go x=>f20_l1 a b go x) fuelN (0:Int)) fun z1 =>
 sumF z1 (fun z1a =>
 some false) (fun z1b =>
 some true)
def C20 : Con where
 X := (List Int)×(List Int)
 Y := Bool
 e := 0
 args x := [.dat T4 x.1,.dat T4 x.2]
 hin x := []
 F x := f20 x.1 x.2
 ret y := [.dat .bool y]
 hout y := []
 nout := 0
theorem C20_vc (a : List Int) (b : List Int) (y : Bool) (hF : f20 a b = some y) : VC Tryz.f20 C20 (a,b) y := by
 unfold f20 at hF
 refine OL (OL (OL (condI hF (fun hF=>?_) (fun hF=>?_))))
 ·refine OL ?_
  have hy := someE hF
  subst hy
  refine AI rfl (E4 [] (R2 (AI TV TV)))
 refine OL (OL ?_)
 obtain ⟨z1,hz1,hF⟩ := bindE hF
 refine loopI Int (Sum Unit Unit) (fun x=>⟨[(0,.dat T4 a),(1,.dat T4 b),(5,.dat T0 x)],[],0⟩) (fun z=>Sum.elim (fun za=>[(1,⟨[(4,.dat .bool false)],[],0⟩)]) (fun zb=>[(2,⟨[],[],0⟩)]) z) (loopF (fun go x=>f20_l1 a b go x)) fuelN (0:Int) z1 (AI hz1 (AI (E4 [] (R4 (AI TV TV))) (AI (fun _ _ h=>loopZ h) (AI (fun m=>fun i z hF=>?_) ?_))))
 ·have hF : f20_l1 a b (loopF (fun go x=>f20_l1 a b go x) m) i = some z := hF
  unfold f20_l1 at hF
  refine OL (OL (condI hF (fun hF=>?_) (fun hF=>?_)))
  ·refine OL (OL (EI (.take 0 (.take 1 (.take 2 (.take 3 (.take 4 (.take 5 (.take 6 (.take 7 (.take 8 .done))))))))) (EI [] (EI [] (AI rfl (guardI hF (fun hF=>?_)))))))
   refine guardI hF (fun hF=>?_)
   refine condI hF (fun hF=>?_) (fun hF=>?_)
   ·refine OL ?_
    have hz := someE hF
    subst hz
    refine E4 [] (R2 (AI TV TV))
   refine EI (i64.wrap (i + (1:Int))) (AI hF (E4 [] (R4 (AI TV TV))))
  have hz := someE hF
  subst hz
  refine E4 [] (AI rfl (AI TV TV))
 rcases z1 with z1a | z1b
 ·dsimp only [sumF] at hF
  refine AI ?_ TV
  have hy := someE hF
  subst hy
  refine AI rfl (E4 [] (R2 (AI TV TV)))
 dsimp only [sumF] at hF
 refine AI (OL ?_) TV
 have hy := someE hF
 subst hy
 refine AI rfl (E4 [] (R2 (AI TV TV)))
theorem C20_holds : C20.Holds Tryz.prog 20 := holds_of_vc tab_ok mixed (fn := Tryz.f20) (by kernel_rfl) rfl C20 (fun x y hF=>C20_vc x.1 x.2 y hF)
theorem f20_in : InP 20 := ⟨Tryz.f20,by kernel_rfl,by kernel_rfl,by kernel_rfl⟩
def f7 : Option Bool :=
 bindF (f9) fun r1 =>
 bindF (f19 ([(1:Int)],[((ByteArray.mk #[100,101,110,115,101]),(1:Int),(0:Int))]) (1:Int) ([(0:Int),(0:Int)]) ([])) fun r2 =>
 bindF (f9) fun r3 =>
 bindF (f8 ([(1:Int)],[((ByteArray.mk #[100,101,110,115,101]),(1:Int),(0:Int))]) (1:Int) ([(0:Int),(0:Int)]) ([(8589934592:Int)],[(4294967296:Int)],(0:Int))) fun r4 =>
 bif (r2.2.2.1 == (0:Int)) then
 bif ((List.length r2.2.2.2:Int) == (2:Int)) then
 guardF (0 ≤ (0:Int) ∧ (0:Int) < (List.length r2.2.2.2:Int)) <|
 bif (((rd (Ty.z T9) r2.2.2.2 (0:Int)).1) == (0:Int) && ((rd (Ty.z T9) r2.2.2.2 (0:Int)).2) == (0:Int)) then
 bif (r4.2.1 == (0:Int)) then
 bif (r4.1 == (4294967296:Int)) then
 bindF (f20 r4.2.2 ([(-17179869184:Int),(-8589934592:Int)])) fun r5 =>
 some r5
 else
 some false
 else
 some false
 else
 some false
 else
 some false
 else
 some false
def C7 : Con where
 X := Unit
 Y := Bool
 e := 0
 args x := []
 hin x := []
 F x := f7
 ret y := [.dat .bool y]
 hout y := []
 nout := 0
theorem C7_vc (y : Bool) (hF : f7 = some y) : VC Tryz.f7 C7 () y := by
 unfold f7 at hF
 refine OL (OL ?_)
 obtain ⟨r1,hr1,hF⟩ := bindE hF
 refine OL (AI f9_in (callV0 (callI C9 () r1 [] false C9_holds hr1 rfl rfl (AI (fun h=>nomatch h) (R2 (AI TV (AI TV (OL ?_))))))))
 obtain ⟨r2,hr2,hF⟩ := bindE hF
 refine OL (AI f19_in (callV0 (callI C19 (([(1:Int)],[((ByteArray.mk #[100,101,110,115,101]),(1:Int),(0:Int))]),(1:Int),[(0:Int),(0:Int)],[]) r2 [] true C19_holds hr2 rfl rfl (R5 (AI (fun _=>rfl) (R2 (AI TV (AI TV (OL (OL ?_))))))))))
 obtain ⟨r3,hr3,hF⟩ := bindE hF
 refine OL (AI f9_in (callV0 (callI C9 () r3 [] false C9_holds hr3 rfl rfl (AI (fun h=>nomatch h) (R2 (AI TV (AI TV (OL (OL (OL ?_))))))))))
 obtain ⟨r4,hr4,hF⟩ := bindE hF
 refine OL (AI f8_in (callV0 (callI C8 (([(1:Int)],[((ByteArray.mk #[100,101,110,115,101]),(1:Int),(0:Int))]),(1:Int),[(0:Int),(0:Int)],([(8589934592:Int)],[(4294967296:Int)],(0:Int))) r4 [] true C8_holds hr4 rfl rfl (R6 (AI (fun _=>rfl) (R2 (AI TV (AI TV (OL (condI hF (fun hF=>?_) (fun hF=>?_)))))))))))
 ·refine gdYT (gdYT (condT (condI hF (fun hF=>?_) (fun hF=>?_))))
  ·refine gdYT (guardI hF (fun hF=>?_))
   refine gdYT (gdYT (gdYT (AI ⟨by kernel_rfl,by kernel_rfl,by decide,by decide⟩ ?_)))
   refine condT (condI hF (fun hF=>?_) (fun hF=>?_))
   ·refine gdYT (condT (condI hF (fun hF=>?_) (fun hF=>?_)))
    ·refine gdYT (condT (condI hF (fun hF=>?_) (fun hF=>?_)))
     ·refine gdYT (OL (gdYT ?_))
      obtain ⟨r5,hr5,hF⟩ := bindE hF
      have hr5 : C20.F (r4.2.2,[(-17179869184:Int),(-8589934592:Int)]) = some r5 := hr5
      refine OL (AI f20_in (callV0 (callI C20 _ r5 [] true C20_holds hr5 rfl rfl (R2 (AI (fun _=>rfl) (R2 (AI TV (AI TV (condT ?_)))))))))
      have hy := someE hF
      subst hy
      refine AI rfl (E4 [] (R2 (AI TV TV)))
     refine gdNT (gdNT (condF ?_))
     have hy := someE hF
     subst hy
     refine AI rfl (E4 [] (R2 (AI TV TV)))
    refine gdNT (condF (gdNT (gdNT (gdNT (condF ?_)))))
    have hy := someE hF
    subst hy
    refine AI rfl (E4 [] (R2 (AI TV TV)))
   refine gdNT (condF (gdNT (gdNT (condF (gdNT (gdNT (gdNT (condF ?_))))))))
   have hy := someE hF
   subst hy
   refine AI rfl (E4 [] (R2 (AI TV TV)))
  refine gdNT (gdNT (gdNT (gdNT (condF (gdNT (gdNT (condF (gdNT (gdNT (condF (gdNT (gdNT (gdNT (condF ?_))))))))))))))
  have hy := someE hF
  subst hy
  refine AI rfl (E4 [] (R2 (AI TV TV)))
 refine gdNT (gdNT (condF (gdNT (gdNT (gdNT (gdNT (gdNT (condF (gdNT (gdNT (condF (gdNT (gdNT (condF (gdNT (gdNT (gdNT (condF ?_))))))))))))))))))
 have hy := someE hF
 subst hy
 refine AI rfl (E4 [] (R2 (AI TV TV)))
theorem C7_holds : C7.Holds Tryz.prog 7 := holds_of_vc tab_ok mixed (fn := Tryz.f7) (by kernel_rfl) rfl C7 (fun x y hF=>C7_vc y hF)
theorem f7_in : InP 7 := ⟨Tryz.f7,by kernel_rfl,by kernel_rfl,by kernel_rfl⟩
def f10_l1 (a : List (Int×Int)) (b : List (Int×Int)) (go : (Int×(List (Int×Int))) → Option (List (Int×Int))) (v16:Int) (l0 : List (Int×Int)) : Option (List (Int×Int)) :=
 bif (decide (v16 < (List.length a:Int))) then
 guardF (0 ≤ v16 ∧ v16 < (List.length a:Int)) <|
 guardF (0 ≤ v16 ∧ v16 < (List.length b:Int)) <|
 bindF (f26 ((rd (Ty.z T9) a v16).1,(rd (Ty.z T9) a v16).2) ((rd (Ty.z T9) b v16).1,(rd (Ty.z T9) b v16).2)) fun q7_6 =>
 guardF ((List.length l0 + List.length ([(q7_6.1,q7_6.2)])) * 16 ≤ 140737488355328) <|
 go ((i64.wrap (v16 + (1:Int))),(l0 ++ ([(q7_6.1,q7_6.2)])))
 else
 some l0
def f10 (a : List (Int×Int)) (b : List (Int×Int)) : Option (Int×(List (Int×Int))) :=
 bif ((List.length a:Int) != (List.length b:Int)) then
 some ((4:Int),[])
 else
 bindF (loopF (fun go x=>f10_l1 a b go x.1 x.2) fuelN ((0:Int),[])) fun z1 =>
 some ((0:Int),z1)
def C10 : Con where
 X := (List (Int×Int))×(List (Int×Int))
 Y := Int×(List (Int×Int))
 e := 0
 args x := [.dat T12 x.1,.dat T12 x.2]
 hin x := []
 F x := f10 x.1 x.2
 ret y := [O0 0,.dat T0 y.1]
 hout y := [(0,.arr 40 T9 y.2)]
 nout := 1
theorem C10_vc (a : List (Int×Int)) (b : List (Int×Int)) (y : Int×(List (Int×Int))) (hF : f10 a b = some y) : VC Tryz.f10 C10 (a,b) y := by
 unfold f10 at hF
 refine OL (OL (OL (condI hF (fun hF=>?_) (fun hF=>?_))))
 ·refine OL ?_
  have hy := someE hF
  subst hy
  refine AI rfl (E4 [(0,none)] (R2 (AI (AI rfl TV) (AI rfl TV))))
 refine OL (OL (OL ?_))
 obtain ⟨z1,hz1,hF⟩ := bindE hF
 refine loopI (Int×(List (Int×Int))) (List (Int×Int)) (fun x=>⟨[(1,.dat T12 b),(6,O0 0),(14,.dat T12 a),(15,.dat T0 (List.length a:Int)),(16,.dat T0 x.1)],[(0,.arr 40 T9 x.2)],1⟩) (fun z=>[(2,⟨[(6,O0 0)],[(0,.arr 40 T9 z)],1⟩)]) (loopF (fun go x=>f10_l1 a b go x.1 x.2)) fuelN ((0:Int),[]) z1 (AI hz1 (AI (E4 [(0,none)] (R5 (AI (AI rfl TV) (AI rfl TV)))) (AI (fun _ _ h=>loopZ h) (AI (fun m=>curI (fun v16=>fun l0 z hF=>?_)) ?_))))
 ·have hF : f10_l1 a b (loopF (fun go x=>f10_l1 a b go x.1 x.2) m) v16 l0 = some z := hF
  unfold f10_l1 at hF
  refine OL (OL (condI hF (fun hF=>?_) (fun hF=>?_)))
  ·refine OL (OL (guardI hF (fun hF=>?_)))
   refine OL (EI (.take 0 (.take 1 (.take 2 (.take 3 (.take 4 (.take 5 (.alt 6 (.alt 7 (.alt 8 (.take 9 .done) .done) .done) .done))))))) (EI [] (EI [] (AI rfl (guardI hF (fun hF=>?_))))))
   refine AI TV ?_
   obtain ⟨q7_6,hq7_6,hF⟩ := bindE hF
   refine OL (AI f26_in (callV0 (callI C26 (((rd (Ty.z T9) a v16).1,(rd (Ty.z T9) a v16).2),((rd (Ty.z T9) b v16).1,(rd (Ty.z T9) b v16).2)) q7_6 [] false C26_holds hq7_6 rfl rfl (R4 (AI (fun h=>nomatch h) (R2 (AI TV (AI TV (AI TV (OL (AI TV (OL (guardI hF (fun hF=>?_))))))))))))))
   refine EI ((i64.wrap (v16 + (1:Int))),(l0 ++ ([(q7_6.1,q7_6.2)]))) (AI hF (E4 [(0,some 3)] (R5 (AI (AI rfl TV) (AI rfl TV)))))
  have hz := someE hF
  subst hz
  refine E4 [(0,some 0)] (AI rfl (AI (AI rfl TV) (AI rfl TV)))
 refine AI (OL ?_) TV
 have hy := someE hF
 subst hy
 refine AI rfl (E4 [(0,some 0)] (R2 (AI (AI rfl TV) (AI rfl TV))))
theorem C10_holds : C10.Holds Tryz.prog 10 := holds_of_vc tab_ok mixed (fn := Tryz.f10) (by kernel_rfl) rfl C10 (fun x y hF=>C10_vc x.1 x.2 y hF)
theorem f10_in : InP 10 := ⟨Tryz.f10,by kernel_rfl,by kernel_rfl,by kernel_rfl⟩
def f29_j1 (a : Int×Int) : Option Int :=
 bif ((u64.wrap ((bitsOf IntKind.u64 (fun p q=>p ^^^ q) (if (IntKind.signed IntKind.u64) then -1 else IntKind.max IntKind.u64) a.2) + (1:Int))) == (0:Int)) then
 some (u64.wrap ((bitsOf IntKind.u64 (fun p q=>p ^^^ q) (if (IntKind.signed IntKind.u64) then -1 else IntKind.max IntKind.u64) (u64.wrap a.1)) + (1:Int)))
 else
 some (bitsOf IntKind.u64 (fun p q=>p ^^^ q) (if (IntKind.signed IntKind.u64) then -1 else IntKind.max IntKind.u64) (u64.wrap a.1))
def f29 (a : Int×Int) : Option (Bool×Int×Int) :=
 bif (decide (a.1 ≥ (0:Int))) then
 some (false,a.2,(u64.wrap a.1))
 else
 bindF (f29_j1 a) fun z1 =>
 some (true,(u64.wrap ((bitsOf IntKind.u64 (fun p q=>p ^^^ q) (if (IntKind.signed IntKind.u64) then -1 else IntKind.max IntKind.u64) a.2) + (1:Int))),z1)
def C29 : Con where
 X := Int×Int
 Y := Bool×Int×Int
 e := 0
 args x := [.dat T9 x]
 hin x := []
 F x := f29 x
 ret y := [.raw true [(.d .bool y.1),(.d T8 y.2.1),(.d T8 y.2.2),(.d T8 (0:Int)),(.d T8 (0:Int))]]
 hout y := []
 nout := 0
theorem C29_vc (a : Int×Int) (y : Bool×Int×Int) (hF : f29 a = some y) : VC Tryz.f29 C29 a y := by
 unfold f29 at hF
 refine OL (OL (OL (condI hF (fun hF=>?_) (fun hF=>?_))))
 ·refine OL (OL ?_)
  have hy := someE hF
  subst hy
  refine AI rfl (E4 [] (AI rfl (AI (AI rfl TV) TV)))
 refine OL (EI (.take 0 (.take 1 (.take 2 (.take 3 (.take 4 (.take 5 (.take 6 (.take 7 (.take 8 (.take 9 .done)))))))))) (EI [] (EI [] (AI rfl ?_))))
 obtain ⟨z1,hz1,hF⟩ := bindE hF
 refine OQ ⟨[(0,⟨[(2,P0 0 0),(3,.dat T8 (u64.wrap ((bitsOf IntKind.u64 (fun p q=>p ^^^ q) (if (IntKind.signed IntKind.u64) then -1 else IntKind.max IntKind.u64) a.2) + (1:Int)))),(4,.dat T8 z1)],[(0,.cells [(.d .bool false),(.d T8 (0:Int)),(.d T8 (0:Int)),(.d T8 (0:Int)),(.d T8 (0:Int))])],1⟩)],?_,?_⟩
 ·have hF := hz1
  clear hz1
  unfold f29_j1 at hF
  refine OL (condI hF (fun hF=>?_) (fun hF=>?_))
  ·have hz := someE hF
   subst hz
   refine E4 [(0,some 1)] (R3 (AI (AI rfl TV) (AI rfl TV)))
  have hz := someE hF
  subst hz
  refine E4 [(0,some 1)] (R3 (AI (AI rfl TV) (AI rfl TV)))
 refine AI (OL (OL ?_)) TV
 have hy := someE hF
 subst hy
 refine AI rfl (E4 [] (AI rfl (AI (AI rfl TV) TV)))
theorem C29_holds : C29.Holds Tryz.prog 29 := holds_of_vc tab_ok mixed (fn := Tryz.f29) (by kernel_rfl) rfl C29 (fun x y hF=>C29_vc x y hF)
theorem f29_in : InP 29 := ⟨Tryz.f29,by kernel_rfl,by kernel_rfl,by kernel_rfl⟩
def f57_l1 (a_0:Int) (a_1:Int) (a_2:Int) (a_3:Int) (b_0:Int) (b_1:Int) (b_2:Int) (b_3:Int) (go : (Int×Int×Int×Int×Int×Int) → Option (Int×Int×Int×Int)) (carry:Int) (i:Int) (c3_0:Int) (c3_1:Int) (c3_2:Int) (c3_3:Int) : Option (Int×Int×Int×Int) :=
 bif (decide (i < (4:Int))) then
 guardF (0 ≤ i ∧ i < (4:Int)) <|
 pickF i
 [(bif (decide ((u64.wrap (a_0 + b_0)) < a_0)) then
 go ((1:Int),(i64.wrap (i + (1:Int))),(u64.wrap ((u64.wrap (a_0 + b_0)) + carry)),c3_1,c3_2,c3_3)
 else
 bif (decide ((u64.wrap ((u64.wrap (a_0 + b_0)) + carry)) < (u64.wrap (a_0 + b_0)))) then
 go ((1:Int),(i64.wrap (i + (1:Int))),(u64.wrap ((u64.wrap (a_0 + b_0)) + carry)),c3_1,c3_2,c3_3)
 else
 go ((0:Int),(i64.wrap (i + (1:Int))),(u64.wrap ((u64.wrap (a_0 + b_0)) + carry)),c3_1,c3_2,c3_3)),
 (bif (decide ((u64.wrap (a_1 + b_1)) < a_1)) then
 go ((1:Int),(i64.wrap (i + (1:Int))),c3_0,(u64.wrap ((u64.wrap (a_1 + b_1)) + carry)),c3_2,c3_3)
 else
 bif (decide ((u64.wrap ((u64.wrap (a_1 + b_1)) + carry)) < (u64.wrap (a_1 + b_1)))) then
 go ((1:Int),(i64.wrap (i + (1:Int))),c3_0,(u64.wrap ((u64.wrap (a_1 + b_1)) + carry)),c3_2,c3_3)
 else
 go ((0:Int),(i64.wrap (i + (1:Int))),c3_0,(u64.wrap ((u64.wrap (a_1 + b_1)) + carry)),c3_2,c3_3)),
 (bif (decide ((u64.wrap (a_2 + b_2)) < a_2)) then
 go ((1:Int),(i64.wrap (i + (1:Int))),c3_0,c3_1,(u64.wrap ((u64.wrap (a_2 + b_2)) + carry)),c3_3)
 else
 bif (decide ((u64.wrap ((u64.wrap (a_2 + b_2)) + carry)) < (u64.wrap (a_2 + b_2)))) then
 go ((1:Int),(i64.wrap (i + (1:Int))),c3_0,c3_1,(u64.wrap ((u64.wrap (a_2 + b_2)) + carry)),c3_3)
 else
 go ((0:Int),(i64.wrap (i + (1:Int))),c3_0,c3_1,(u64.wrap ((u64.wrap (a_2 + b_2)) + carry)),c3_3)),
 (bif (decide ((u64.wrap (a_3 + b_3)) < a_3)) then
 go ((1:Int),(i64.wrap (i + (1:Int))),c3_0,c3_1,c3_2,(u64.wrap ((u64.wrap (a_3 + b_3)) + carry)))
 else
 bif (decide ((u64.wrap ((u64.wrap (a_3 + b_3)) + carry)) < (u64.wrap (a_3 + b_3)))) then
 go ((1:Int),(i64.wrap (i + (1:Int))),c3_0,c3_1,c3_2,(u64.wrap ((u64.wrap (a_3 + b_3)) + carry)))
 else
 go ((0:Int),(i64.wrap (i + (1:Int))),c3_0,c3_1,c3_2,(u64.wrap ((u64.wrap (a_3 + b_3)) + carry))))]
 else
 some (c3_0,c3_1,c3_2,c3_3)
def f57 (a_0:Int) (a_1:Int) (a_2:Int) (a_3:Int) (b_0:Int) (b_1:Int) (b_2:Int) (b_3:Int) : Option (Int×Int×Int×Int) :=
 bindF (loopF (fun go x=>f57_l1 a_0 a_1 a_2 a_3 b_0 b_1 b_2 b_3 go x.1 x.2.1 x.2.2.1 x.2.2.2.1 x.2.2.2.2.1 x.2.2.2.2.2) fuelN ((0:Int),(0:Int),(0:Int),(0:Int),(0:Int),(0:Int))) fun z3 =>
 some (z3.1,z3.2.1,z3.2.2.1,z3.2.2.2)
def C57 : Con where
 X := Int×Int×Int×Int×Int×Int×Int×Int
 Y := Int×Int×Int×Int
 e := 0
 args x := [.raw true [(.d T8 x.1),(.d T8 x.2.1),(.d T8 x.2.2.1),(.d T8 x.2.2.2.1)],.raw true [(.d T8 x.2.2.2.2.1),(.d T8 x.2.2.2.2.2.1),(.d T8 x.2.2.2.2.2.2.1),(.d T8 x.2.2.2.2.2.2.2)]]
 hin x := []
 F x := f57 x.1 x.2.1 x.2.2.1 x.2.2.2.1 x.2.2.2.2.1 x.2.2.2.2.2.1 x.2.2.2.2.2.2.1 x.2.2.2.2.2.2.2
 ret y := [.raw true [(.d T8 y.1),(.d T8 y.2.1),(.d T8 y.2.2.1),(.d T8 y.2.2.2)]]
 hout y := []
 nout := 0
theorem C57_vc (a_0:Int) (a_1:Int) (a_2:Int) (a_3:Int) (b_0:Int) (b_1:Int) (b_2:Int) (b_3:Int) (y : Int×Int×Int×Int) (hF : f57 a_0 a_1 a_2 a_3 b_0 b_1 b_2 b_3 = some y) : VC Tryz.f57 C57 (a_0,a_1,a_2,a_3,b_0,b_1,b_2,b_3) y := by
 unfold f57 at hF
 refine OL (OL (OL (OL (OL ?_))))
 obtain ⟨z3,hz3,hF⟩ := bindE hF
 refine loopI (Int×Int×Int×Int×Int×Int) (Int×Int×Int×Int) (fun x=>⟨[(2,P0 0 0),(3,P0 1 0),(4,P0 2 0),(5,P0 3 0),(6,.dat T8 x.1),(7,.dat T0 x.2.1)],[(0,.cells [(.d T8 a_0),(.d T8 a_1),(.d T8 a_2),(.d T8 a_3)]),(1,.cells [(.d T8 b_0),(.d T8 b_1),(.d T8 b_2),(.d T8 b_3)]),(2,.cells [(.d T8 (0:Int)),(.d T8 (0:Int)),(.d T8 (0:Int)),(.d T8 (0:Int))]),(3,.cells [(.d T8 x.2.2.1),(.d T8 x.2.2.2.1),(.d T8 x.2.2.2.2.1),(.d T8 x.2.2.2.2.2)])],4⟩) (fun z=>[(2,⟨[(4,P0 0 0),(5,P0 1 0)],[(0,.cells [(.d T8 (0:Int)),(.d T8 (0:Int)),(.d T8 (0:Int)),(.d T8 (0:Int))]),(1,.cells [(.d T8 z.1),(.d T8 z.2.1),(.d T8 z.2.2.1),(.d T8 z.2.2.2)])],2⟩)]) (loopF (fun go x=>f57_l1 a_0 a_1 a_2 a_3 b_0 b_1 b_2 b_3 go x.1 x.2.1 x.2.2.1 x.2.2.2.1 x.2.2.2.2.1 x.2.2.2.2.2)) fuelN ((0:Int),(0:Int),(0:Int),(0:Int),(0:Int),(0:Int)) z3 (AI hz3 (AI (E4 [(0,some 0),(1,some 1),(2,some 2),(3,some 3)] (R3 (AI (R4 TV) (R4 TV)))) (AI (fun _ _ h=>loopZ h) (AI (fun m=>curI (fun carry=>curI (fun i=>curI (fun c3_0=>curI (fun c3_1=>curI (fun c3_2=>fun c3_3 z hF=>?_)))))) ?_))))
 ·have hF : f57_l1 a_0 a_1 a_2 a_3 b_0 b_1 b_2 b_3 (loopF (fun go x=>f57_l1 a_0 a_1 a_2 a_3 b_0 b_1 b_2 b_3 go x.1 x.2.1 x.2.2.1 x.2.2.2.1 x.2.2.2.2.1 x.2.2.2.2.2) m) carry i c3_0 c3_1 c3_2 c3_3 = some z := hF
  unfold f57_l1 at hF
  refine OL (OL (condI hF (fun hF=>?_) (fun hF=>?_)))
  ·refine OL (OL (EI (.take 0 (.take 1 (.take 2 (.take 3 (.take 4 (.take 5 (.take 6 (.take 7 .done)))))))) (EI [] (EI [] (AI rfl (guardI hF (fun hF=>?_)))))))
   refine AI (fun hk4=>?_) ?_
   ·have hF := pickE hF hk4
    dsimp only [nthO] at hF
    refine AI (rangeE hk4 (by decide)) (AI (fun _=>?_) (AI (fun h=>absurd (hk4.symm.trans h) (by decide)) (AI (fun h=>absurd (hk4.symm.trans h) (by decide)) (AI (fun h=>absurd (hk4.symm.trans h) (by decide)) TV))))
    refine OL (OL (AI (rangeE hk4 (by decide)) (AI (fun _=>?_) (AI (fun h=>absurd (hk4.symm.trans h) (by decide)) (AI (fun h=>absurd (hk4.symm.trans h) (by decide)) (AI (fun h=>absurd (hk4.symm.trans h) (by decide)) TV))))))
    refine OL (OL (AI (rangeE hk4 (by decide)) (AI (fun _=>?_) (AI (fun h=>absurd (hk4.symm.trans h) (by decide)) (AI (fun h=>absurd (hk4.symm.trans h) (by decide)) (AI (fun h=>absurd (hk4.symm.trans h) (by decide)) TV))))))
    refine condN hF (fun hF=>?_) (fun hF=>?_)
    ·refine gdYF (gdYF (condF (condI hF (fun hF=>?_) (fun hF=>?_))))
     ·refine EI ((1:Int),(i64.wrap (i + (1:Int))),(u64.wrap ((u64.wrap (a_0 + b_0)) + carry)),c3_1,c3_2,c3_3) (AI hF (E4 [(0,some 0),(1,some 1),(2,some 2),(3,some 3)] (R3 (AI (R4 TV) (R4 TV)))))
     refine EI ((0:Int),(i64.wrap (i + (1:Int))),(u64.wrap ((u64.wrap (a_0 + b_0)) + carry)),c3_1,c3_2,c3_3) (AI hF (E4 [(0,some 0),(1,some 1),(2,some 2),(3,some 3)] (R3 (AI (R4 TV) (R4 TV)))))
    refine gdNF (gdNF (condT (condT (EI ((1:Int),(i64.wrap (i + (1:Int))),(u64.wrap ((u64.wrap (a_0 + b_0)) + carry)),c3_1,c3_2,c3_3) (AI hF (E4 [(0,some 0),(1,some 1),(2,some 2),(3,some 3)] (R3 (AI (R4 TV) (R4 TV)))))))))
   refine AI (fun hk4=>?_) ?_
   ·have hF := pickE hF hk4
    dsimp only [nthO] at hF
    refine AI (rangeE hk4 (by decide)) (AI (fun h=>absurd (hk4.symm.trans h) (by decide)) ?_)
    refine AI (fun _=>?_) (AI (fun h=>absurd (hk4.symm.trans h) (by decide)) (AI (fun h=>absurd (hk4.symm.trans h) (by decide)) TV))
    refine OL (OL (AI (rangeE hk4 (by decide)) (AI (fun h=>absurd (hk4.symm.trans h) (by decide)) ?_)))
    refine AI (fun _=>?_) (AI (fun h=>absurd (hk4.symm.trans h) (by decide)) (AI (fun h=>absurd (hk4.symm.trans h) (by decide)) TV))
    refine OL (OL (AI (rangeE hk4 (by decide)) (AI (fun h=>absurd (hk4.symm.trans h) (by decide)) ?_)))
    refine AI (fun _=>?_) (AI (fun h=>absurd (hk4.symm.trans h) (by decide)) (AI (fun h=>absurd (hk4.symm.trans h) (by decide)) TV))
    refine condN hF (fun hF=>?_) (fun hF=>?_)
    ·refine gdYF (gdYF (condF (condI hF (fun hF=>?_) (fun hF=>?_))))
     ·refine EI ((1:Int),(i64.wrap (i + (1:Int))),c3_0,(u64.wrap ((u64.wrap (a_1 + b_1)) + carry)),c3_2,c3_3) (AI hF (E4 [(0,some 0),(1,some 1),(2,some 2),(3,some 3)] (R3 (AI (R4 TV) (R4 TV)))))
     refine EI ((0:Int),(i64.wrap (i + (1:Int))),c3_0,(u64.wrap ((u64.wrap (a_1 + b_1)) + carry)),c3_2,c3_3) (AI hF (E4 [(0,some 0),(1,some 1),(2,some 2),(3,some 3)] (R3 (AI (R4 TV) (R4 TV)))))
    refine gdNF (gdNF (condT (condT (EI ((1:Int),(i64.wrap (i + (1:Int))),c3_0,(u64.wrap ((u64.wrap (a_1 + b_1)) + carry)),c3_2,c3_3) (AI hF (E4 [(0,some 0),(1,some 1),(2,some 2),(3,some 3)] (R3 (AI (R4 TV) (R4 TV)))))))))
   refine AI (fun hk4=>?_) ?_
   ·have hF := pickE hF hk4
    dsimp only [nthO] at hF
    refine AI (rangeE hk4 (by decide)) (AI (fun h=>absurd (hk4.symm.trans h) (by decide)) ?_)
    refine AI (fun h=>absurd (hk4.symm.trans h) (by decide)) ?_
    refine AI (fun _=>?_) (AI (fun h=>absurd (hk4.symm.trans h) (by decide)) TV)
    refine OL (OL (AI (rangeE hk4 (by decide)) (AI (fun h=>absurd (hk4.symm.trans h) (by decide)) ?_)))
    refine AI (fun h=>absurd (hk4.symm.trans h) (by decide)) ?_
    refine AI (fun _=>?_) (AI (fun h=>absurd (hk4.symm.trans h) (by decide)) TV)
    refine OL (OL (AI (rangeE hk4 (by decide)) (AI (fun h=>absurd (hk4.symm.trans h) (by decide)) ?_)))
    refine AI (fun h=>absurd (hk4.symm.trans h) (by decide)) ?_
    refine AI (fun _=>?_) (AI (fun h=>absurd (hk4.symm.trans h) (by decide)) TV)
    refine condN hF (fun hF=>?_) (fun hF=>?_)
    ·refine gdYF (gdYF (condF (condI hF (fun hF=>?_) (fun hF=>?_))))
     ·refine EI ((1:Int),(i64.wrap (i + (1:Int))),c3_0,c3_1,(u64.wrap ((u64.wrap (a_2 + b_2)) + carry)),c3_3) (AI hF (E4 [(0,some 0),(1,some 1),(2,some 2),(3,some 3)] (R3 (AI (R4 TV) (R4 TV)))))
     refine EI ((0:Int),(i64.wrap (i + (1:Int))),c3_0,c3_1,(u64.wrap ((u64.wrap (a_2 + b_2)) + carry)),c3_3) (AI hF (E4 [(0,some 0),(1,some 1),(2,some 2),(3,some 3)] (R3 (AI (R4 TV) (R4 TV)))))
    refine gdNF (gdNF (condT (condT (EI ((1:Int),(i64.wrap (i + (1:Int))),c3_0,c3_1,(u64.wrap ((u64.wrap (a_2 + b_2)) + carry)),c3_3) (AI hF (E4 [(0,some 0),(1,some 1),(2,some 2),(3,some 3)] (R3 (AI (R4 TV) (R4 TV)))))))))
   refine AI (fun hk4=>?_) TV
   have hF := pickE hF hk4
   dsimp only [nthO] at hF
   refine AI (rangeE hk4 (by decide)) (AI (fun h=>absurd (hk4.symm.trans h) (by decide)) ?_)
   refine AI (fun h=>absurd (hk4.symm.trans h) (by decide)) ?_
   refine AI (fun h=>absurd (hk4.symm.trans h) (by decide)) ?_
   refine AI (fun _=>?_) TV
   refine OL (OL (AI (rangeE hk4 (by decide)) (AI (fun h=>absurd (hk4.symm.trans h) (by decide)) ?_)))
   refine AI (fun h=>absurd (hk4.symm.trans h) (by decide)) ?_
   refine AI (fun h=>absurd (hk4.symm.trans h) (by decide)) ?_
   refine AI (fun _=>?_) TV
   refine OL (OL (AI (rangeE hk4 (by decide)) (AI (fun h=>absurd (hk4.symm.trans h) (by decide)) ?_)))
   refine AI (fun h=>absurd (hk4.symm.trans h) (by decide)) ?_
   refine AI (fun h=>absurd (hk4.symm.trans h) (by decide)) ?_
   refine AI (fun _=>?_) TV
   refine condN hF (fun hF=>?_) (fun hF=>?_)
   ·refine gdYF (gdYF (condF (condI hF (fun hF=>?_) (fun hF=>?_))))
    ·refine EI ((1:Int),(i64.wrap (i + (1:Int))),c3_0,c3_1,c3_2,(u64.wrap ((u64.wrap (a_3 + b_3)) + carry))) (AI hF (E4 [(0,some 0),(1,some 1),(2,some 2),(3,some 3)] (R3 (AI (R4 TV) (R4 TV)))))
    refine EI ((0:Int),(i64.wrap (i + (1:Int))),c3_0,c3_1,c3_2,(u64.wrap ((u64.wrap (a_3 + b_3)) + carry))) (AI hF (E4 [(0,some 0),(1,some 1),(2,some 2),(3,some 3)] (R3 (AI (R4 TV) (R4 TV)))))
   refine gdNF (gdNF (condT (condT (EI ((1:Int),(i64.wrap (i + (1:Int))),c3_0,c3_1,c3_2,(u64.wrap ((u64.wrap (a_3 + b_3)) + carry))) (AI hF (E4 [(0,some 0),(1,some 1),(2,some 2),(3,some 3)] (R3 (AI (R4 TV) (R4 TV)))))))))
  have hz := someE hF
  subst hz
  refine E4 [(0,some 2),(1,some 3)] (AI rfl (AI (R2 TV) (R2 TV)))
 refine AI (OL (OL ?_)) TV
 have hy := someE hF
 subst hy
 refine AI rfl (E4 [] (AI rfl (AI (AI rfl TV) TV)))
theorem C57_holds : C57.Holds Tryz.prog 57 := holds_of_vc tab_ok mixed (fn := Tryz.f57) (by kernel_rfl) rfl C57 (fun x y hF=>C57_vc x.1 x.2.1 x.2.2.1 x.2.2.2.1 x.2.2.2.2.1 x.2.2.2.2.2.1 x.2.2.2.2.2.2.1 x.2.2.2.2.2.2.2 y hF)
theorem f57_in : InP 57 := ⟨Tryz.f57,by kernel_rfl,by kernel_rfl,by kernel_rfl⟩
def f58_l1 (a_0:Int) (a_1:Int) (a_2:Int) (a_3:Int) (b_0:Int) (b_1:Int) (b_2:Int) (b_3:Int) (go : Int → Option (Sum Bool Unit)) (i:Int) : Option (Sum Bool Unit) :=
 bif (decide (i ≥ (0:Int))) then
 guardF (0 ≤ i ∧ i < (4:Int)) <|
 pickF i
 [(bif (a_0 != b_0) then
 some (Sum.inl (decide (a_0 < b_0)))
 else
 go (i64.wrap (i - (1:Int)))),
 (bif (a_1 != b_1) then
 some (Sum.inl (decide (a_1 < b_1)))
 else
 go (i64.wrap (i - (1:Int)))),
 (bif (a_2 != b_2) then
 some (Sum.inl (decide (a_2 < b_2)))
 else
 go (i64.wrap (i - (1:Int)))),
 (bif (a_3 != b_3) then
 some (Sum.inl (decide (a_3 < b_3)))
 else
 go (i64.wrap (i - (1:Int))))]
 else
 some (Sum.inr ())
def f58 (a_0:Int) (a_1:Int) (a_2:Int) (a_3:Int) (b_0:Int) (b_1:Int) (b_2:Int) (b_3:Int) : Option Bool :=
 bindF (loopF (fun go x=>f58_l1 a_0 a_1 a_2 a_3 b_0 b_1 b_2 b_3 go x) fuelN (3:Int)) fun z2 =>
 sumF z2 (fun z2a =>
 some z2a) (fun z2b =>
 some false)
def C58 : Con where
 X := Int×Int×Int×Int×Int×Int×Int×Int
 Y := Bool
 e := 0
 args x := [.raw true [(.d T8 x.1),(.d T8 x.2.1),(.d T8 x.2.2.1),(.d T8 x.2.2.2.1)],.raw true [(.d T8 x.2.2.2.2.1),(.d T8 x.2.2.2.2.2.1),(.d T8 x.2.2.2.2.2.2.1),(.d T8 x.2.2.2.2.2.2.2)]]
 hin x := []
 F x := f58 x.1 x.2.1 x.2.2.1 x.2.2.2.1 x.2.2.2.2.1 x.2.2.2.2.2.1 x.2.2.2.2.2.2.1 x.2.2.2.2.2.2.2
 ret y := [.dat .bool y]
 hout y := []
 nout := 0
theorem C58_vc (a_0:Int) (a_1:Int) (a_2:Int) (a_3:Int) (b_0:Int) (b_1:Int) (b_2:Int) (b_3:Int) (y : Bool) (hF : f58 a_0 a_1 a_2 a_3 b_0 b_1 b_2 b_3 = some y) : VC Tryz.f58 C58 (a_0,a_1,a_2,a_3,b_0,b_1,b_2,b_3) y := by
 unfold f58 at hF
 refine OL (OL (OL ?_))
 obtain ⟨z2,hz2,hF⟩ := bindE hF
 refine loopI Int (Sum Bool Unit) (fun x=>⟨[(2,P0 0 0),(3,P0 1 0),(5,.dat T0 x)],[(0,.cells [(.d T8 a_0),(.d T8 a_1),(.d T8 a_2),(.d T8 a_3)]),(1,.cells [(.d T8 b_0),(.d T8 b_1),(.d T8 b_2),(.d T8 b_3)])],2⟩) (fun z=>Sum.elim (fun za=>[(1,⟨[(4,.dat .bool za)],[],0⟩)]) (fun zb=>[(2,⟨[],[],0⟩)]) z) (loopF (fun go x=>f58_l1 a_0 a_1 a_2 a_3 b_0 b_1 b_2 b_3 go x)) fuelN (3:Int) z2 (AI hz2 (AI (E4 [(0,some 0),(1,some 1)] (R2 (AI (R2 TV) (R2 TV)))) (AI (fun _ _ h=>loopZ h) (AI (fun m=>fun i z hF=>?_) ?_))))
 ·have hF : f58_l1 a_0 a_1 a_2 a_3 b_0 b_1 b_2 b_3 (loopF (fun go x=>f58_l1 a_0 a_1 a_2 a_3 b_0 b_1 b_2 b_3 go x) m) i = some z := hF
  unfold f58_l1 at hF
  refine OL (OL (condI hF (fun hF=>?_) (fun hF=>?_)))
  ·refine OL (OL (EI (.take 0 (.take 1 (.take 2 (.take 3 (.take 4 (.take 5 (.take 6 .done))))))) (EI [] (EI [] (AI rfl (guardI hF (fun hF=>?_)))))))
   refine AI (fun hk3=>?_) ?_
   ·have hF := pickE hF hk3
    dsimp only [nthO] at hF
    refine AI (rangeE hk3 (by decide)) (AI (fun _=>?_) (AI (fun h=>absurd (hk3.symm.trans h) (by decide)) (AI (fun h=>absurd (hk3.symm.trans h) (by decide)) (AI (fun h=>absurd (hk3.symm.trans h) (by decide)) TV))))
    refine condI hF (fun hF=>?_) (fun hF=>?_)
    ·refine OL (EI (.take 0 (.take 1 (.take 2 (.take 3 (.take 4 (.take 5 (.take 6 (.take 7 .done)))))))) (EI [] (EI [] (AI rfl (AI (rangeE hk3 (by decide)) (AI (fun _=>?_) (AI (fun h=>absurd (hk3.symm.trans h) (by decide)) (AI (fun h=>absurd (hk3.symm.trans h) (by decide)) (AI (fun h=>absurd (hk3.symm.trans h) (by decide)) TV)))))))))
     refine AI (rangeE hk3 (by decide)) (AI (fun _=>?_) (AI (fun h=>absurd (hk3.symm.trans h) (by decide)) (AI (fun h=>absurd (hk3.symm.trans h) (by decide)) (AI (fun h=>absurd (hk3.symm.trans h) (by decide)) TV))))
     have hz := someE hF
     subst hz
     refine E4 [] (R2 (AI TV TV))
    refine EI (i64.wrap (i - (1:Int))) (AI hF (E4 [(0,some 0),(1,some 1)] (R2 (AI (R2 TV) (R2 TV)))))
   refine AI (fun hk3=>?_) ?_
   ·have hF := pickE hF hk3
    dsimp only [nthO] at hF
    refine AI (rangeE hk3 (by decide)) (AI (fun h=>absurd (hk3.symm.trans h) (by decide)) ?_)
    refine AI (fun _=>?_) (AI (fun h=>absurd (hk3.symm.trans h) (by decide)) (AI (fun h=>absurd (hk3.symm.trans h) (by decide)) TV))
    refine condI hF (fun hF=>?_) (fun hF=>?_)
    ·refine OL (EI (.take 0 (.take 1 (.take 2 (.take 3 (.take 4 (.take 5 (.take 6 (.take 7 .done)))))))) (EI [] (EI [] (AI rfl (AI (rangeE hk3 (by decide)) (AI (fun h=>absurd (hk3.symm.trans h) (by decide)) ?_))))))
     refine AI (fun _=>?_) (AI (fun h=>absurd (hk3.symm.trans h) (by decide)) (AI (fun h=>absurd (hk3.symm.trans h) (by decide)) TV))
     refine AI (rangeE hk3 (by decide)) (AI (fun h=>absurd (hk3.symm.trans h) (by decide)) ?_)
     refine AI (fun _=>?_) (AI (fun h=>absurd (hk3.symm.trans h) (by decide)) (AI (fun h=>absurd (hk3.symm.trans h) (by decide)) TV))
     have hz := someE hF
     subst hz
     refine E4 [] (R2 (AI TV TV))
    refine EI (i64.wrap (i - (1:Int))) (AI hF (E4 [(0,some 0),(1,some 1)] (R2 (AI (R2 TV) (R2 TV)))))
   refine AI (fun hk3=>?_) ?_
   ·have hF := pickE hF hk3
    dsimp only [nthO] at hF
    refine AI (rangeE hk3 (by decide)) (AI (fun h=>absurd (hk3.symm.trans h) (by decide)) ?_)
    refine AI (fun h=>absurd (hk3.symm.trans h) (by decide)) ?_
    refine AI (fun _=>?_) (AI (fun h=>absurd (hk3.symm.trans h) (by decide)) TV)
    refine condI hF (fun hF=>?_) (fun hF=>?_)
    ·refine OL (EI (.take 0 (.take 1 (.take 2 (.take 3 (.take 4 (.take 5 (.take 6 (.take 7 .done)))))))) (EI [] (EI [] (AI rfl (AI (rangeE hk3 (by decide)) (AI (fun h=>absurd (hk3.symm.trans h) (by decide)) ?_))))))
     refine AI (fun h=>absurd (hk3.symm.trans h) (by decide)) ?_
     refine AI (fun _=>?_) (AI (fun h=>absurd (hk3.symm.trans h) (by decide)) TV)
     refine AI (rangeE hk3 (by decide)) (AI (fun h=>absurd (hk3.symm.trans h) (by decide)) ?_)
     refine AI (fun h=>absurd (hk3.symm.trans h) (by decide)) ?_
     refine AI (fun _=>?_) (AI (fun h=>absurd (hk3.symm.trans h) (by decide)) TV)
     have hz := someE hF
     subst hz
     refine E4 [] (R2 (AI TV TV))
    refine EI (i64.wrap (i - (1:Int))) (AI hF (E4 [(0,some 0),(1,some 1)] (R2 (AI (R2 TV) (R2 TV)))))
   refine AI (fun hk3=>?_) TV
   have hF := pickE hF hk3
   dsimp only [nthO] at hF
   refine AI (rangeE hk3 (by decide)) (AI (fun h=>absurd (hk3.symm.trans h) (by decide)) ?_)
   refine AI (fun h=>absurd (hk3.symm.trans h) (by decide)) ?_
   refine AI (fun h=>absurd (hk3.symm.trans h) (by decide)) ?_
   refine AI (fun _=>?_) TV
   refine condI hF (fun hF=>?_) (fun hF=>?_)
   ·refine OL (EI (.take 0 (.take 1 (.take 2 (.take 3 (.take 4 (.take 5 (.take 6 (.take 7 .done)))))))) (EI [] (EI [] (AI rfl (AI (rangeE hk3 (by decide)) (AI (fun h=>absurd (hk3.symm.trans h) (by decide)) ?_))))))
    refine AI (fun h=>absurd (hk3.symm.trans h) (by decide)) ?_
    refine AI (fun h=>absurd (hk3.symm.trans h) (by decide)) ?_
    refine AI (fun _=>?_) TV
    refine AI (rangeE hk3 (by decide)) (AI (fun h=>absurd (hk3.symm.trans h) (by decide)) ?_)
    refine AI (fun h=>absurd (hk3.symm.trans h) (by decide)) ?_
    refine AI (fun h=>absurd (hk3.symm.trans h) (by decide)) ?_
    refine AI (fun _=>?_) TV
    have hz := someE hF
    subst hz
    refine E4 [] (R2 (AI TV TV))
   refine EI (i64.wrap (i - (1:Int))) (AI hF (E4 [(0,some 0),(1,some 1)] (R2 (AI (R2 TV) (R2 TV)))))
  have hz := someE hF
  subst hz
  refine E4 [] (AI rfl (AI TV TV))
 rcases z2 with z2a | z2b
 ·dsimp only [sumF] at hF
  refine AI ?_ TV
  have hy := someE hF
  subst hy
  refine AI rfl (E4 [] (R2 (AI TV TV)))
 dsimp only [sumF] at hF
 refine AI (OL ?_) TV
 have hy := someE hF
 subst hy
 refine AI rfl (E4 [] (R2 (AI TV TV)))
theorem C58_holds : C58.Holds Tryz.prog 58 := holds_of_vc tab_ok mixed (fn := Tryz.f58) (by kernel_rfl) rfl C58 (fun x y hF=>C58_vc x.1 x.2.1 x.2.2.1 x.2.2.2.1 x.2.2.2.2.1 x.2.2.2.2.2.1 x.2.2.2.2.2.2.1 x.2.2.2.2.2.2.2 y hF)
theorem f58_in : InP 58 := ⟨Tryz.f58,by kernel_rfl,by kernel_rfl,by kernel_rfl⟩
def f59_l1 (a_0:Int) (a_1:Int) (a_2:Int) (a_3:Int) (b_0:Int) (b_1:Int) (b_2:Int) (b_3:Int) (go : (Int×Int×Int×Int×Int×Int) → Option (Int×Int×Int×Int)) (borrow:Int) (i:Int) (c3_0:Int) (c3_1:Int) (c3_2:Int) (c3_3:Int) : Option (Int×Int×Int×Int) :=
 bif (decide (i < (4:Int))) then
 guardF (0 ≤ i ∧ i < (4:Int)) <|
 pickF i
 [(bif (decide (a_0 < b_0)) then
 go ((1:Int),(i64.wrap (i + (1:Int))),(u64.wrap ((u64.wrap (a_0 - b_0)) - borrow)),c3_1,c3_2,c3_3)
 else
 bif (decide ((u64.wrap (a_0 - b_0)) < borrow)) then
 go ((1:Int),(i64.wrap (i + (1:Int))),(u64.wrap ((u64.wrap (a_0 - b_0)) - borrow)),c3_1,c3_2,c3_3)
 else
 go ((0:Int),(i64.wrap (i + (1:Int))),(u64.wrap ((u64.wrap (a_0 - b_0)) - borrow)),c3_1,c3_2,c3_3)),
 (bif (decide (a_1 < b_1)) then
 go ((1:Int),(i64.wrap (i + (1:Int))),c3_0,(u64.wrap ((u64.wrap (a_1 - b_1)) - borrow)),c3_2,c3_3)
 else
 bif (decide ((u64.wrap (a_1 - b_1)) < borrow)) then
 go ((1:Int),(i64.wrap (i + (1:Int))),c3_0,(u64.wrap ((u64.wrap (a_1 - b_1)) - borrow)),c3_2,c3_3)
 else
 go ((0:Int),(i64.wrap (i + (1:Int))),c3_0,(u64.wrap ((u64.wrap (a_1 - b_1)) - borrow)),c3_2,c3_3)),
 (bif (decide (a_2 < b_2)) then
 go ((1:Int),(i64.wrap (i + (1:Int))),c3_0,c3_1,(u64.wrap ((u64.wrap (a_2 - b_2)) - borrow)),c3_3)
 else
 bif (decide ((u64.wrap (a_2 - b_2)) < borrow)) then
 go ((1:Int),(i64.wrap (i + (1:Int))),c3_0,c3_1,(u64.wrap ((u64.wrap (a_2 - b_2)) - borrow)),c3_3)
 else
 go ((0:Int),(i64.wrap (i + (1:Int))),c3_0,c3_1,(u64.wrap ((u64.wrap (a_2 - b_2)) - borrow)),c3_3)),
 (bif (decide (a_3 < b_3)) then
 go ((1:Int),(i64.wrap (i + (1:Int))),c3_0,c3_1,c3_2,(u64.wrap ((u64.wrap (a_3 - b_3)) - borrow)))
 else
 bif (decide ((u64.wrap (a_3 - b_3)) < borrow)) then
 go ((1:Int),(i64.wrap (i + (1:Int))),c3_0,c3_1,c3_2,(u64.wrap ((u64.wrap (a_3 - b_3)) - borrow)))
 else
 go ((0:Int),(i64.wrap (i + (1:Int))),c3_0,c3_1,c3_2,(u64.wrap ((u64.wrap (a_3 - b_3)) - borrow))))]
 else
 some (c3_0,c3_1,c3_2,c3_3)
def f59 (a_0:Int) (a_1:Int) (a_2:Int) (a_3:Int) (b_0:Int) (b_1:Int) (b_2:Int) (b_3:Int) : Option (Int×Int×Int×Int) :=
 bindF (loopF (fun go x=>f59_l1 a_0 a_1 a_2 a_3 b_0 b_1 b_2 b_3 go x.1 x.2.1 x.2.2.1 x.2.2.2.1 x.2.2.2.2.1 x.2.2.2.2.2) fuelN ((0:Int),(0:Int),(0:Int),(0:Int),(0:Int),(0:Int))) fun z3 =>
 some (z3.1,z3.2.1,z3.2.2.1,z3.2.2.2)
def C59 : Con where
 X := Int×Int×Int×Int×Int×Int×Int×Int
 Y := Int×Int×Int×Int
 e := 0
 args x := [.raw true [(.d T8 x.1),(.d T8 x.2.1),(.d T8 x.2.2.1),(.d T8 x.2.2.2.1)],.raw true [(.d T8 x.2.2.2.2.1),(.d T8 x.2.2.2.2.2.1),(.d T8 x.2.2.2.2.2.2.1),(.d T8 x.2.2.2.2.2.2.2)]]
 hin x := []
 F x := f59 x.1 x.2.1 x.2.2.1 x.2.2.2.1 x.2.2.2.2.1 x.2.2.2.2.2.1 x.2.2.2.2.2.2.1 x.2.2.2.2.2.2.2
 ret y := [.raw true [(.d T8 y.1),(.d T8 y.2.1),(.d T8 y.2.2.1),(.d T8 y.2.2.2)]]
 hout y := []
 nout := 0
theorem C59_vc (a_0:Int) (a_1:Int) (a_2:Int) (a_3:Int) (b_0:Int) (b_1:Int) (b_2:Int) (b_3:Int) (y : Int×Int×Int×Int) (hF : f59 a_0 a_1 a_2 a_3 b_0 b_1 b_2 b_3 = some y) : VC Tryz.f59 C59 (a_0,a_1,a_2,a_3,b_0,b_1,b_2,b_3) y := by
 unfold f59 at hF
 refine OL (OL (OL (OL (OL ?_))))
 obtain ⟨z3,hz3,hF⟩ := bindE hF
 refine loopI (Int×Int×Int×Int×Int×Int) (Int×Int×Int×Int) (fun x=>⟨[(2,P0 0 0),(3,P0 1 0),(4,P0 2 0),(5,P0 3 0),(6,.dat T8 x.1),(7,.dat T0 x.2.1)],[(0,.cells [(.d T8 a_0),(.d T8 a_1),(.d T8 a_2),(.d T8 a_3)]),(1,.cells [(.d T8 b_0),(.d T8 b_1),(.d T8 b_2),(.d T8 b_3)]),(2,.cells [(.d T8 (0:Int)),(.d T8 (0:Int)),(.d T8 (0:Int)),(.d T8 (0:Int))]),(3,.cells [(.d T8 x.2.2.1),(.d T8 x.2.2.2.1),(.d T8 x.2.2.2.2.1),(.d T8 x.2.2.2.2.2)])],4⟩) (fun z=>[(2,⟨[(4,P0 0 0),(5,P0 1 0)],[(0,.cells [(.d T8 (0:Int)),(.d T8 (0:Int)),(.d T8 (0:Int)),(.d T8 (0:Int))]),(1,.cells [(.d T8 z.1),(.d T8 z.2.1),(.d T8 z.2.2.1),(.d T8 z.2.2.2)])],2⟩)]) (loopF (fun go x=>f59_l1 a_0 a_1 a_2 a_3 b_0 b_1 b_2 b_3 go x.1 x.2.1 x.2.2.1 x.2.2.2.1 x.2.2.2.2.1 x.2.2.2.2.2)) fuelN ((0:Int),(0:Int),(0:Int),(0:Int),(0:Int),(0:Int)) z3 (AI hz3 (AI (E4 [(0,some 0),(1,some 1),(2,some 2),(3,some 3)] (R3 (AI (R4 TV) (R4 TV)))) (AI (fun _ _ h=>loopZ h) (AI (fun m=>curI (fun borrow=>curI (fun i=>curI (fun c3_0=>curI (fun c3_1=>curI (fun c3_2=>fun c3_3 z hF=>?_)))))) ?_))))
 ·have hF : f59_l1 a_0 a_1 a_2 a_3 b_0 b_1 b_2 b_3 (loopF (fun go x=>f59_l1 a_0 a_1 a_2 a_3 b_0 b_1 b_2 b_3 go x.1 x.2.1 x.2.2.1 x.2.2.2.1 x.2.2.2.2.1 x.2.2.2.2.2) m) borrow i c3_0 c3_1 c3_2 c3_3 = some z := hF
  unfold f59_l1 at hF
  refine OL (OL (condI hF (fun hF=>?_) (fun hF=>?_)))
  ·refine OL (OL (EI (.take 0 (.take 1 (.take 2 (.take 3 (.take 4 (.take 5 (.take 6 (.take 7 .done)))))))) (EI [] (EI [] (AI rfl (guardI hF (fun hF=>?_)))))))
   refine AI (fun hk4=>?_) ?_
   ·have hF := pickE hF hk4
    dsimp only [nthO] at hF
    refine AI (rangeE hk4 (by decide)) (AI (fun _=>?_) (AI (fun h=>absurd (hk4.symm.trans h) (by decide)) (AI (fun h=>absurd (hk4.symm.trans h) (by decide)) (AI (fun h=>absurd (hk4.symm.trans h) (by decide)) TV))))
    refine OL (OL (AI (rangeE hk4 (by decide)) (AI (fun _=>?_) (AI (fun h=>absurd (hk4.symm.trans h) (by decide)) (AI (fun h=>absurd (hk4.symm.trans h) (by decide)) (AI (fun h=>absurd (hk4.symm.trans h) (by decide)) TV))))))
    refine OL (OL (EI (.take 0 (.take 1 (.take 2 (.take 3 (.take 4 (.take 5 (.take 6 (.take 7 (.take 8 (.take 9 (.take 10 (.take 11 .done)))))))))))) (EI [] (EI [] (AI rfl (AI (rangeE hk4 (by decide)) (AI (fun _=>?_) (AI (fun h=>absurd (hk4.symm.trans h) (by decide)) (AI (fun h=>absurd (hk4.symm.trans h) (by decide)) (AI (fun h=>absurd (hk4.symm.trans h) (by decide)) TV))))))))))
    refine AI (rangeE hk4 (by decide)) (AI (fun _=>?_) (AI (fun h=>absurd (hk4.symm.trans h) (by decide)) (AI (fun h=>absurd (hk4.symm.trans h) (by decide)) (AI (fun h=>absurd (hk4.symm.trans h) (by decide)) TV))))
    refine condN hF (fun hF=>?_) (fun hF=>?_)
    ·refine gdYF (gdYF (condF (condI hF (fun hF=>?_) (fun hF=>?_))))
     ·refine EI ((1:Int),(i64.wrap (i + (1:Int))),(u64.wrap ((u64.wrap (a_0 - b_0)) - borrow)),c3_1,c3_2,c3_3) (AI hF (E4 [(0,some 0),(1,some 1),(2,some 2),(3,some 3)] (R3 (AI (R4 TV) (R4 TV)))))
     refine EI ((0:Int),(i64.wrap (i + (1:Int))),(u64.wrap ((u64.wrap (a_0 - b_0)) - borrow)),c3_1,c3_2,c3_3) (AI hF (E4 [(0,some 0),(1,some 1),(2,some 2),(3,some 3)] (R3 (AI (R4 TV) (R4 TV)))))
    refine gdNF (gdNF (condT (condT (EI ((1:Int),(i64.wrap (i + (1:Int))),(u64.wrap ((u64.wrap (a_0 - b_0)) - borrow)),c3_1,c3_2,c3_3) (AI hF (E4 [(0,some 0),(1,some 1),(2,some 2),(3,some 3)] (R3 (AI (R4 TV) (R4 TV)))))))))
   refine AI (fun hk4=>?_) ?_
   ·have hF := pickE hF hk4
    dsimp only [nthO] at hF
    refine AI (rangeE hk4 (by decide)) (AI (fun h=>absurd (hk4.symm.trans h) (by decide)) ?_)
    refine AI (fun _=>?_) (AI (fun h=>absurd (hk4.symm.trans h) (by decide)) (AI (fun h=>absurd (hk4.symm.trans h) (by decide)) TV))
    refine OL (OL (AI (rangeE hk4 (by decide)) (AI (fun h=>absurd (hk4.symm.trans h) (by decide)) ?_)))
    refine AI (fun _=>?_) (AI (fun h=>absurd (hk4.symm.trans h) (by decide)) (AI (fun h=>absurd (hk4.symm.trans h) (by decide)) TV))
    refine OL (OL (EI (.take 0 (.take 1 (.take 2 (.take 3 (.take 4 (.take 5 (.take 6 (.take 7 (.take 8 (.take 9 (.take 10 (.take 11 .done)))))))))))) (EI [] (EI [] (AI rfl (AI (rangeE hk4 (by decide)) (AI (fun h=>absurd (hk4.symm.trans h) (by decide)) ?_)))))))
    refine AI (fun _=>?_) (AI (fun h=>absurd (hk4.symm.trans h) (by decide)) (AI (fun h=>absurd (hk4.symm.trans h) (by decide)) TV))
    refine AI (rangeE hk4 (by decide)) (AI (fun h=>absurd (hk4.symm.trans h) (by decide)) ?_)
    refine AI (fun _=>?_) (AI (fun h=>absurd (hk4.symm.trans h) (by decide)) (AI (fun h=>absurd (hk4.symm.trans h) (by decide)) TV))
    refine condN hF (fun hF=>?_) (fun hF=>?_)
    ·refine gdYF (gdYF (condF (condI hF (fun hF=>?_) (fun hF=>?_))))
     ·refine EI ((1:Int),(i64.wrap (i + (1:Int))),c3_0,(u64.wrap ((u64.wrap (a_1 - b_1)) - borrow)),c3_2,c3_3) (AI hF (E4 [(0,some 0),(1,some 1),(2,some 2),(3,some 3)] (R3 (AI (R4 TV) (R4 TV)))))
     refine EI ((0:Int),(i64.wrap (i + (1:Int))),c3_0,(u64.wrap ((u64.wrap (a_1 - b_1)) - borrow)),c3_2,c3_3) (AI hF (E4 [(0,some 0),(1,some 1),(2,some 2),(3,some 3)] (R3 (AI (R4 TV) (R4 TV)))))
    refine gdNF (gdNF (condT (condT (EI ((1:Int),(i64.wrap (i + (1:Int))),c3_0,(u64.wrap ((u64.wrap (a_1 - b_1)) - borrow)),c3_2,c3_3) (AI hF (E4 [(0,some 0),(1,some 1),(2,some 2),(3,some 3)] (R3 (AI (R4 TV) (R4 TV)))))))))
   refine AI (fun hk4=>?_) ?_
   ·have hF := pickE hF hk4
    dsimp only [nthO] at hF
    refine AI (rangeE hk4 (by decide)) (AI (fun h=>absurd (hk4.symm.trans h) (by decide)) ?_)
    refine AI (fun h=>absurd (hk4.symm.trans h) (by decide)) ?_
    refine AI (fun _=>?_) (AI (fun h=>absurd (hk4.symm.trans h) (by decide)) TV)
    refine OL (OL (AI (rangeE hk4 (by decide)) (AI (fun h=>absurd (hk4.symm.trans h) (by decide)) ?_)))
    refine AI (fun h=>absurd (hk4.symm.trans h) (by decide)) ?_
    refine AI (fun _=>?_) (AI (fun h=>absurd (hk4.symm.trans h) (by decide)) TV)
    refine OL (OL (EI (.take 0 (.take 1 (.take 2 (.take 3 (.take 4 (.take 5 (.take 6 (.take 7 (.take 8 (.take 9 (.take 10 (.take 11 .done)))))))))))) (EI [] (EI [] (AI rfl (AI (rangeE hk4 (by decide)) (AI (fun h=>absurd (hk4.symm.trans h) (by decide)) ?_)))))))
    refine AI (fun h=>absurd (hk4.symm.trans h) (by decide)) ?_
    refine AI (fun _=>?_) (AI (fun h=>absurd (hk4.symm.trans h) (by decide)) TV)
    refine AI (rangeE hk4 (by decide)) (AI (fun h=>absurd (hk4.symm.trans h) (by decide)) ?_)
    refine AI (fun h=>absurd (hk4.symm.trans h) (by decide)) ?_
    refine AI (fun _=>?_) (AI (fun h=>absurd (hk4.symm.trans h) (by decide)) TV)
    refine condN hF (fun hF=>?_) (fun hF=>?_)
    ·refine gdYF (gdYF (condF (condI hF (fun hF=>?_) (fun hF=>?_))))
     ·refine EI ((1:Int),(i64.wrap (i + (1:Int))),c3_0,c3_1,(u64.wrap ((u64.wrap (a_2 - b_2)) - borrow)),c3_3) (AI hF (E4 [(0,some 0),(1,some 1),(2,some 2),(3,some 3)] (R3 (AI (R4 TV) (R4 TV)))))
     refine EI ((0:Int),(i64.wrap (i + (1:Int))),c3_0,c3_1,(u64.wrap ((u64.wrap (a_2 - b_2)) - borrow)),c3_3) (AI hF (E4 [(0,some 0),(1,some 1),(2,some 2),(3,some 3)] (R3 (AI (R4 TV) (R4 TV)))))
    refine gdNF (gdNF (condT (condT (EI ((1:Int),(i64.wrap (i + (1:Int))),c3_0,c3_1,(u64.wrap ((u64.wrap (a_2 - b_2)) - borrow)),c3_3) (AI hF (E4 [(0,some 0),(1,some 1),(2,some 2),(3,some 3)] (R3 (AI (R4 TV) (R4 TV)))))))))
   refine AI (fun hk4=>?_) TV
   have hF := pickE hF hk4
   dsimp only [nthO] at hF
   refine AI (rangeE hk4 (by decide)) (AI (fun h=>absurd (hk4.symm.trans h) (by decide)) ?_)
   refine AI (fun h=>absurd (hk4.symm.trans h) (by decide)) ?_
   refine AI (fun h=>absurd (hk4.symm.trans h) (by decide)) ?_
   refine AI (fun _=>?_) TV
   refine OL (OL (AI (rangeE hk4 (by decide)) (AI (fun h=>absurd (hk4.symm.trans h) (by decide)) ?_)))
   refine AI (fun h=>absurd (hk4.symm.trans h) (by decide)) ?_
   refine AI (fun h=>absurd (hk4.symm.trans h) (by decide)) ?_
   refine AI (fun _=>?_) TV
   refine OL (OL (EI (.take 0 (.take 1 (.take 2 (.take 3 (.take 4 (.take 5 (.take 6 (.take 7 (.take 8 (.take 9 (.take 10 (.take 11 .done)))))))))))) (EI [] (EI [] (AI rfl (AI (rangeE hk4 (by decide)) (AI (fun h=>absurd (hk4.symm.trans h) (by decide)) ?_)))))))
   refine AI (fun h=>absurd (hk4.symm.trans h) (by decide)) ?_
   refine AI (fun h=>absurd (hk4.symm.trans h) (by decide)) ?_
   refine AI (fun _=>?_) TV
   refine AI (rangeE hk4 (by decide)) (AI (fun h=>absurd (hk4.symm.trans h) (by decide)) ?_)
   refine AI (fun h=>absurd (hk4.symm.trans h) (by decide)) ?_
   refine AI (fun h=>absurd (hk4.symm.trans h) (by decide)) ?_
   refine AI (fun _=>?_) TV
   refine condN hF (fun hF=>?_) (fun hF=>?_)
   ·refine gdYF (gdYF (condF (condI hF (fun hF=>?_) (fun hF=>?_))))
    ·refine EI ((1:Int),(i64.wrap (i + (1:Int))),c3_0,c3_1,c3_2,(u64.wrap ((u64.wrap (a_3 - b_3)) - borrow))) (AI hF (E4 [(0,some 0),(1,some 1),(2,some 2),(3,some 3)] (R3 (AI (R4 TV) (R4 TV)))))
    refine EI ((0:Int),(i64.wrap (i + (1:Int))),c3_0,c3_1,c3_2,(u64.wrap ((u64.wrap (a_3 - b_3)) - borrow))) (AI hF (E4 [(0,some 0),(1,some 1),(2,some 2),(3,some 3)] (R3 (AI (R4 TV) (R4 TV)))))
   refine gdNF (gdNF (condT (condT (EI ((1:Int),(i64.wrap (i + (1:Int))),c3_0,c3_1,c3_2,(u64.wrap ((u64.wrap (a_3 - b_3)) - borrow))) (AI hF (E4 [(0,some 0),(1,some 1),(2,some 2),(3,some 3)] (R3 (AI (R4 TV) (R4 TV)))))))))
  have hz := someE hF
  subst hz
  refine E4 [(0,some 2),(1,some 3)] (AI rfl (AI (R2 TV) (R2 TV)))
 refine AI (OL (OL ?_)) TV
 have hy := someE hF
 subst hy
 refine AI rfl (E4 [] (AI rfl (AI (AI rfl TV) TV)))
theorem C59_holds : C59.Holds Tryz.prog 59 := holds_of_vc tab_ok mixed (fn := Tryz.f59) (by kernel_rfl) rfl C59 (fun x y hF=>C59_vc x.1 x.2.1 x.2.2.1 x.2.2.2.1 x.2.2.2.2.1 x.2.2.2.2.2.1 x.2.2.2.2.2.2.1 x.2.2.2.2.2.2.2 y hF)
theorem f59_in : InP 59 := ⟨Tryz.f59,by kernel_rfl,by kernel_rfl,by kernel_rfl⟩
def f28 (a_Neg : Bool) (a_M_0:Int) (a_M_1:Int) (a_M_2:Int) (a_M_3:Int) (b_Neg : Bool) (b_M_0:Int) (b_M_1:Int) (b_M_2:Int) (b_M_3:Int) : Option (Bool×Int×Int×Int×Int) :=
 bif (a_Neg == b_Neg) then
 bindF (f57 a_M_0 a_M_1 a_M_2 a_M_3 b_M_0 b_M_1 b_M_2 b_M_3) fun q2_6 =>
 some (a_Neg,q2_6.1,q2_6.2.1,q2_6.2.2.1,q2_6.2.2.2)
 else
 bindF (f58 a_M_0 a_M_1 a_M_2 a_M_3 b_M_0 b_M_1 b_M_2 b_M_3) fun q2_8 =>
 bif q2_8 then
 bindF (f59 b_M_0 b_M_1 b_M_2 b_M_3 a_M_0 a_M_1 a_M_2 a_M_3) fun q4_6 =>
 some (b_Neg,q4_6.1,q4_6.2.1,q4_6.2.2.1,q4_6.2.2.2)
 else
 bindF (f59 a_M_0 a_M_1 a_M_2 a_M_3 b_M_0 b_M_1 b_M_2 b_M_3) fun q5_6 =>
 some (a_Neg,q5_6.1,q5_6.2.1,q5_6.2.2.1,q5_6.2.2.2)
def C28 : Con where
 X := Bool×Int×Int×Int×Int×Bool×Int×Int×Int×Int
 Y := Bool×Int×Int×Int×Int
 e := 0
 args x := [.raw true [(.d .bool x.1),(.d T8 x.2.1),(.d T8 x.2.2.1),(.d T8 x.2.2.2.1),(.d T8 x.2.2.2.2.1)],.raw true [(.d .bool x.2.2.2.2.2.1),(.d T8 x.2.2.2.2.2.2.1),(.d T8 x.2.2.2.2.2.2.2.1),(.d T8 x.2.2.2.2.2.2.2.2.1),(.d T8 x.2.2.2.2.2.2.2.2.2)]]
 hin x := []
 F x := f28 x.1 x.2.1 x.2.2.1 x.2.2.2.1 x.2.2.2.2.1 x.2.2.2.2.2.1 x.2.2.2.2.2.2.1 x.2.2.2.2.2.2.2.1 x.2.2.2.2.2.2.2.2.1 x.2.2.2.2.2.2.2.2.2
 ret y := [.raw true [(.d .bool y.1),(.d T8 y.2.1),(.d T8 y.2.2.1),(.d T8 y.2.2.2.1),(.d T8 y.2.2.2.2)]]
 hout y := []
 nout := 0
theorem C28_vc (a_Neg : Bool) (a_M_0:Int) (a_M_1:Int) (a_M_2:Int) (a_M_3:Int) (b_Neg : Bool) (b_M_0:Int) (b_M_1:Int) (b_M_2:Int) (b_M_3:Int) (y : Bool×Int×Int×Int×Int) (hF : f28 a_Neg a_M_0 a_M_1 a_M_2 a_M_3 b_Neg b_M_0 b_M_1 b_M_2 b_M_3 = some y) : VC Tryz.f28 C28 (a_Neg,a_M_0,a_M_1,a_M_2,a_M_3,b_Neg,b_M_0,b_M_1,b_M_2,b_M_3) y := by
 unfold f28 at hF
 refine OL (OL (OL (condI hF (fun hF=>?_) (fun hF=>?_))))
 ·refine OL (EI (.take 0 (.take 1 (.take 2 (.take 3 (.take 4 (.take 5 (.alt 6 (.take 7 (.alt 8 .done .done)) .done))))))) (EI [] (EI [] (AI rfl (AI TV ?_)))))
  obtain ⟨q2_6,hq2_6,hF⟩ := bindE hF
  refine OL (AI f57_in (callV0 (callI C57 (a_M_0,a_M_1,a_M_2,a_M_3,b_M_0,b_M_1,b_M_2,b_M_3) q2_6 [] false C57_holds hq2_6 rfl rfl (AI (fun h=>nomatch h) (R2 (AI (R2 TV) (AI TV (AI TV (OL ?_)))))))))
  have hy := someE hF
  subst hy
  refine AI rfl (E4 [] (AI rfl (AI (AI rfl TV) TV)))
 refine OL (OL ?_)
 obtain ⟨q2_8,hq2_8,hF⟩ := bindE hF
 refine OL (AI f58_in (callV0 (callI C58 (a_M_0,a_M_1,a_M_2,a_M_3,b_M_0,b_M_1,b_M_2,b_M_3) q2_8 [] false C58_holds hq2_8 rfl rfl (AI (fun h=>nomatch h) (R2 (AI (R2 TV) (AI TV (condI hF (fun hF=>?_) (fun hF=>?_)))))))))
 ·refine OL (EI (.take 0 (.take 1 (.take 2 (.take 3 (.take 4 (.take 5 (.alt 6 (.take 7 (.alt 8 .done .done)) .done))))))) (EI [] (EI [] (AI rfl (AI TV ?_)))))
  obtain ⟨q4_6,hq4_6,hF⟩ := bindE hF
  refine OL (AI f59_in (callV0 (callI C59 (b_M_0,b_M_1,b_M_2,b_M_3,a_M_0,a_M_1,a_M_2,a_M_3) q4_6 [] false C59_holds hq4_6 rfl rfl (AI (fun h=>nomatch h) (R2 (AI (R2 TV) (AI TV (AI TV (OL ?_)))))))))
  have hy := someE hF
  subst hy
  refine AI rfl (E4 [] (AI rfl (AI (AI rfl TV) TV)))
 refine OL (EI (.take 0 (.take 1 (.take 2 (.take 3 (.take 4 (.take 5 (.alt 6 (.take 7 (.alt 8 .done .done)) .done))))))) (EI [] (EI [] (AI rfl (AI TV ?_)))))
 obtain ⟨q5_6,hq5_6,hF⟩ := bindE hF
 refine OL (AI f59_in (callV0 (callI C59 (a_M_0,a_M_1,a_M_2,a_M_3,b_M_0,b_M_1,b_M_2,b_M_3) q5_6 [] false C59_holds hq5_6 rfl rfl (AI (fun h=>nomatch h) (R2 (AI (R2 TV) (AI TV (AI TV (OL ?_)))))))))
 have hy := someE hF
 subst hy
 refine AI rfl (E4 [] (AI rfl (AI (AI rfl TV) TV)))
theorem C28_holds : C28.Holds Tryz.prog 28 := holds_of_vc tab_ok mixed (fn := Tryz.f28) (by kernel_rfl) rfl C28 (fun x y hF=>C28_vc x.1 x.2.1 x.2.2.1 x.2.2.2.1 x.2.2.2.2.1 x.2.2.2.2.2.1 x.2.2.2.2.2.2.1 x.2.2.2.2.2.2.2.1 x.2.2.2.2.2.2.2.2.1 x.2.2.2.2.2.2.2.2.2 y hF)
theorem f28_in : InP 28 := ⟨Tryz.f28,by kernel_rfl,by kernel_rfl,by kernel_rfl⟩
def f27_j1 (a_Neg : Bool) (a_M_0:Int) (a_M_1:Int) : Option (Int×Int) :=
 bif a_Neg then
 bif ((u64.wrap ((bitsOf IntKind.u64 (fun p q=>p ^^^ q) (if (IntKind.signed IntKind.u64) then -1 else IntKind.max IntKind.u64) a_M_0) + (1:Int))) == (0:Int)) then
 some ((u64.wrap ((bitsOf IntKind.u64 (fun p q=>p ^^^ q) (if (IntKind.signed IntKind.u64) then -1 else IntKind.max IntKind.u64) a_M_0) + (1:Int))),(u64.wrap ((bitsOf IntKind.u64 (fun p q=>p ^^^ q) (if (IntKind.signed IntKind.u64) then -1 else IntKind.max IntKind.u64) a_M_1) + (1:Int))))
 else
 some ((u64.wrap ((bitsOf IntKind.u64 (fun p q=>p ^^^ q) (if (IntKind.signed IntKind.u64) then -1 else IntKind.max IntKind.u64) a_M_0) + (1:Int))),(bitsOf IntKind.u64 (fun p q=>p ^^^ q) (if (IntKind.signed IntKind.u64) then -1 else IntKind.max IntKind.u64) a_M_1))
 else
 some (a_M_0,a_M_1)
def f27 (a_Neg : Bool) (a_M_0:Int) (a_M_1:Int) (a_M_2:Int) (a_M_3:Int) : Option (Int×Int) :=
 bindF (f27_j1 a_Neg a_M_0 a_M_1) fun z1 =>
 some ((i64.wrap z1.2),z1.1)
def C27 : Con where
 X := Bool×Int×Int×Int×Int
 Y := Int×Int
 e := 0
 args x := [.raw true [(.d .bool x.1),(.d T8 x.2.1),(.d T8 x.2.2.1),(.d T8 x.2.2.2.1),(.d T8 x.2.2.2.2)]]
 hin x := []
 F x := f27 x.1 x.2.1 x.2.2.1 x.2.2.2.1 x.2.2.2.2
 ret y := [.raw true [(.d T0 y.1),(.d T8 y.2)]]
 hout y := []
 nout := 0
theorem C27_vc (a_Neg : Bool) (a_M_0:Int) (a_M_1:Int) (a_M_2:Int) (a_M_3:Int) (y : Int×Int) (hF : f27 a_Neg a_M_0 a_M_1 a_M_2 a_M_3 = some y) : VC Tryz.f27 C27 (a_Neg,a_M_0,a_M_1,a_M_2,a_M_3) y := by
 unfold f27 at hF
 refine OL (OL (EI (.take 0 (.take 1 (.take 2 (.take 3 (.take 4 (.take 5 (.take 6 (.take 7 .done)))))))) (EI [] (EI [] (AI rfl (AI (by decide) (AI (fun _=>?_) (AI (fun h=>absurd h (by decide)) (AI (fun h=>absurd h (by decide)) (AI (fun h=>absurd h (by decide)) TV))))))))))
 refine AI (by decide) (AI (fun h=>absurd h (by decide)) ?_)
 refine AI (fun _=>?_) (AI (fun h=>absurd h (by decide)) (AI (fun h=>absurd h (by decide)) TV))
 obtain ⟨z1,hz1,hF⟩ := bindE hF
 refine OQ ⟨[(0,⟨[(2,P0 0 0),(3,.dat T8 z1.1),(4,.dat T8 z1.2)],[(0,.cells [(.d T0 (0:Int)),(.d T8 (0:Int))])],1⟩)],?_,?_⟩
 ·have hF := hz1
  clear hz1
  unfold f27_j1 at hF
  refine OL (condI hF (fun hF=>?_) (fun hF=>?_))
  ·refine OL (OL (OL (condI hF (fun hF=>?_) (fun hF=>?_))))
   ·have hz := someE hF
    subst hz
    refine E4 [(0,some 1)] (R3 (AI (AI rfl TV) (AI rfl TV)))
   have hz := someE hF
   subst hz
   refine E4 [(0,some 1)] (R3 (AI (AI rfl TV) (AI rfl TV)))
  have hz := someE hF
  subst hz
  refine E4 [(0,some 1)] (R3 (AI (AI rfl TV) (AI rfl TV)))
 refine AI (OL (OL ?_)) TV
 have hy := someE hF
 subst hy
 refine AI rfl (E4 [] (AI rfl (AI (AI rfl TV) TV)))
theorem C27_holds : C27.Holds Tryz.prog 27 := holds_of_vc tab_ok mixed (fn := Tryz.f27) (by kernel_rfl) rfl C27 (fun x y hF=>C27_vc x.1 x.2.1 x.2.2.1 x.2.2.2.1 x.2.2.2.2 y hF)
theorem f27_in : InP 27 := ⟨Tryz.f27,by kernel_rfl,by kernel_rfl,by kernel_rfl⟩
def f11 (a : Int×Int) (b : Int×Int) : Option (Int×Int) :=
 bindF (f29 (a.1,a.2)) fun q1_1 =>
 bindF (f29 (b.1,b.2)) fun q1_3 =>
 bindF (f28 q1_1.1 q1_1.2.1 q1_1.2.2 (0:Int) (0:Int) q1_3.1 q1_3.2.1 q1_3.2.2 (0:Int) (0:Int)) fun q1_4 =>
 bindF (f27 q1_4.1 q1_4.2.1 q1_4.2.2.1 q1_4.2.2.2.1 q1_4.2.2.2.2) fun q1_5 =>
 some (q1_5.1,q1_5.2)
def C11 : Con where
 X := (Int×Int)×(Int×Int)
 Y := Int×Int
 e := 0
 args x := [.dat T9 x.1,.dat T9 x.2]
 hin x := []
 F x := f11 x.1 x.2
 ret y := [.raw true [(.d T0 y.1),(.d T8 y.2)]]
 hout y := []
 nout := 0
theorem C11_vc (a : Int×Int) (b : Int×Int) (y : Int×Int) (hF : f11 a b = some y) : VC Tryz.f11 C11 (a,b) y := by
 unfold f11 at hF
 refine OL (OL (EI (.take 0 (.take 2 (.alt 1 (.alt 3 (.alt 4 (.alt 5 (.alt 6 .done .done) .done) .done) .done) .done))) (EI [] (EI [] (AI rfl (AI TV ?_))))))
 obtain ⟨q1_1,hq1_1,hF⟩ := bindE hF
 refine OL (AI f29_in (callV0 (callI C29 (a.1,a.2) q1_1 [] false C29_holds hq1_1 rfl rfl (R2 (AI (fun h=>nomatch h) (R2 (AI TV (AI TV (AI TV ?_)))))))))
 obtain ⟨q1_3,hq1_3,hF⟩ := bindE hF
 refine OL (AI f29_in (callV0 (callI C29 (b.1,b.2) q1_3 [] false C29_holds hq1_3 rfl rfl (R2 (AI (fun h=>nomatch h) (R2 (AI TV (AI TV (AI TV ?_)))))))))
 obtain ⟨q1_4,hq1_4,hF⟩ := bindE hF
 refine OL (AI f28_in (callV0 (callI C28 (q1_1.1,q1_1.2.1,q1_1.2.2,(0:Int),(0:Int),q1_3.1,q1_3.2.1,q1_3.2.2,(0:Int),(0:Int)) q1_4 [] false C28_holds hq1_4 rfl rfl (AI (fun h=>nomatch h) (R2 (AI (R2 TV) (AI TV (AI TV ?_))))))))
 obtain ⟨q1_5,hq1_5,hF⟩ := bindE hF
 refine OL (AI f27_in (callV0 (callI C27 (q1_4.1,q1_4.2.1,q1_4.2.2.1,q1_4.2.2.2.1,q1_4.2.2.2.2) q1_5 [] false C27_holds hq1_5 rfl rfl (AI (fun h=>nomatch h) (R2 (AI (AI rfl TV) (AI TV (AI TV (OL ?_)))))))))
 have hy := someE hF
 subst hy
 refine AI rfl (E4 [] (AI rfl (AI (AI rfl TV) TV)))
theorem C11_holds : C11.Holds Tryz.prog 11 := holds_of_vc tab_ok mixed (fn := Tryz.f11) (by kernel_rfl) rfl C11 (fun x y hF=>C11_vc x.1 x.2 y hF)
theorem f11_in : InP 11 := ⟨Tryz.f11,by kernel_rfl,by kernel_rfl,by kernel_rfl⟩
def f4_j1 (a : List (Int×Int)) (b : List (Int×Int)) : Option (Sum Unit Unit) :=
 bif (decide ((List.length a:Int) > (100:Int))) then
 some (Sum.inr ())
 else
 bif (decide ((List.length b:Int) > (100:Int))) then
 some (Sum.inr ())
 else
 some (Sum.inl ())
def f4_j2 (a : List (Int×Int)) (r2 : Int×(List (Int×Int))) : Option (Sum Unit Unit) :=
 bif (r2.1 != (0:Int)) then
 some (Sum.inr ())
 else
 bif ((List.length r2.2:Int) != (List.length a:Int)) then
 some (Sum.inr ())
 else
 some (Sum.inl ())
def f4_l3 (a : List (Int×Int)) (b : List (Int×Int)) (r2 : Int×(List (Int×Int))) (go : Int → Option (Sum Unit Unit)) (i:Int) : Option (Sum Unit Unit) :=
 bif (decide (i < (List.length a:Int))) then
 guardF (0 ≤ i ∧ i < (List.length r2.2:Int)) <|
 guardF (0 ≤ i ∧ i < (List.length a:Int)) <|
 guardF (0 ≤ i ∧ i < (List.length b:Int)) <|
 bindF (f11 ((rd (Ty.z T9) a i).1,(rd (Ty.z T9) a i).2) ((rd (Ty.z T9) b i).1,(rd (Ty.z T9) b i).2)) fun q13_12 =>
 bif (!(((rd (Ty.z T9) r2.2 i).1) == q13_12.1 && ((rd (Ty.z T9) r2.2 i).2) == q13_12.2)) then
 some (Sum.inl ())
 else
 go (i64.wrap (i + (1:Int)))
 else
 some (Sum.inr ())
def f4 (a : List (Int×Int)) (b : List (Int×Int)) : Option Bool :=
 bindF (f7) fun q13_13 =>
 bif (!q13_13) then
 some false
 else
 bindF (f4_j1 a b) fun z1 =>
 sumF z1 (fun z1a =>
 bindF (f10 a b) fun r2 =>
 bif ((List.length a:Int) != (List.length b:Int)) then
 bif (r2.1 == (4:Int)) then
 some ((List.length r2.2:Int) == (0:Int))
 else
 some false
 else
 bindF (f4_j2 a r2) fun z3 =>
 sumF z3 (fun z3a =>
 bindF (loopF (fun go x=>f4_l3 a b r2 go x) fuelN (0:Int)) fun z4 =>
 sumF z4 (fun z4a =>
 some false) (fun z4b =>
 some true)) (fun z3b =>
 some false)) (fun z1b =>
 some true)
def C4 : Con where
 X := (List (Int×Int))×(List (Int×Int))
 Y := Bool
 e := 0
 args x := [.dat T12 x.1,.dat T12 x.2]
 hin x := []
 F x := f4 x.1 x.2
 ret y := [.dat .bool y]
 hout y := []
 nout := 0
theorem C4_vc (a : List (Int×Int)) (b : List (Int×Int)) (y : Bool) (hF : f4 a b = some y) : VC Tryz.f4 C4 (a,b) y := by
 unfold f4 at hF
 refine OL (OL (OL ?_))
 obtain ⟨q13_13,hq13_13,hF⟩ := bindE hF
 refine OL (AI f7_in (callV0 (callI C7 () q13_13 [] false C7_holds hq13_13 rfl rfl (AI (fun h=>nomatch h) (R2 (AI TV (AI TV (condI hF (fun hF=>?_) (fun hF=>?_)))))))))
 ·refine OL ?_
  have hy := someE hF
  subst hy
  refine AI rfl (E4 [] (R2 (AI TV TV)))
 obtain ⟨z1,hz1,hF⟩ := bindE hF
 refine OQ ⟨Sum.elim (fun z1a=>[(0,⟨[(0,.dat T12 a),(1,.dat T12 b)],[],0⟩)]) (fun z1b=>[(1,⟨[(4,.dat .bool true)],[],0⟩)]) z1,?_,?_⟩
 ·have hF := hz1
  clear hz1
  unfold f4_j1 at hF
  refine OL (condN hF (fun hF=>?_) (fun hF=>?_))
  ·refine gdYF (gdYF (condF (condI hF (fun hF=>?_) (fun hF=>?_))))
   ·refine OL ?_
    have hz := someE hF
    subst hz
    refine E4 [] (R2 (AI TV TV))
   have hz := someE hF
   subst hz
   refine E4 [] (R3 (AI TV TV))
  refine gdNF (gdNF (condT (condT (OL ?_))))
  have hz := someE hF
  subst hz
  refine E4 [] (R2 (AI TV TV))
 rcases z1 with z1a | z1b
 ·dsimp only [sumF] at hF
  refine AI (OL ?_) TV
  obtain ⟨r2,hr2,hF⟩ := bindE hF
  refine OL (AI f10_in (callV0 (callI C10 (a,b) r2 [] false C10_holds hr2 rfl rfl (R2 (AI (fun h=>nomatch h) (R2 (AI TV (AI TV (OL (OL (condI hF (fun hF=>?_) (fun hF=>?_))))))))))))
  ·refine OL (condI hF (fun hF=>?_) (fun hF=>?_))
   ·refine gdYT (gdYT (condT ?_))
    have hy := someE hF
    subst hy
    refine AI rfl (E4 [] (R2 (AI TV TV)))
   refine gdNT (gdNT (condF ?_))
   have hy := someE hF
   subst hy
   refine AI rfl (E4 [] (R2 (AI TV TV)))
  obtain ⟨z3,hz3,hF⟩ := bindE hF
  refine OQ ⟨Sum.elim (fun z3a=>[(0,⟨[(0,.dat T12 a),(1,.dat T12 b),(5,O0 0)],[(0,.arr 40 T9 r2.2)],1⟩)]) (fun z3b=>[(1,⟨[(4,.dat .bool false)],[],0⟩)]) z3,?_,?_⟩
  ·have hF := hz3
   clear hz3
   unfold f4_j2 at hF
   refine OL (condN hF (fun hF=>?_) (fun hF=>?_))
   ·refine gdYF (gdYF (gdYF (gdYF (condF (condI hF (fun hF=>?_) (fun hF=>?_))))))
    ·refine OL ?_
     have hz := someE hF
     subst hz
     refine E4 [] (R2 (AI TV TV))
    have hz := someE hF
    subst hz
    refine E4 [(0,some 0)] (R3 (AI (AI rfl TV) (AI rfl TV)))
   refine gdNF (gdNF (gdNF (gdNF (condT (condT (OL ?_))))))
   have hz := someE hF
   subst hz
   refine E4 [] (R2 (AI TV TV))
  rcases z3 with z3a | z3b
  ·dsimp only [sumF] at hF
   refine AI (OL (OL ?_)) TV
   obtain ⟨z4,hz4,hF⟩ := bindE hF
   refine loopI Int (Sum Unit Unit) (fun x=>⟨[(0,.dat T12 a),(1,.dat T12 b),(5,O0 0),(7,.dat T0 x)],[(0,.arr 40 T9 r2.2)],1⟩) (fun z=>Sum.elim (fun za=>[(1,⟨[(4,.dat .bool false)],[],0⟩)]) (fun zb=>[(2,⟨[],[],0⟩)]) z) (loopF (fun go x=>f4_l3 a b r2 go x)) fuelN (0:Int) z4 (AI hz4 (AI (E4 [(0,some 0)] (R4 (AI (AI rfl TV) (AI rfl TV)))) (AI (fun _ _ h=>loopZ h) (AI (fun m=>fun i z hF=>?_) ?_))))
   ·have hF : f4_l3 a b r2 (loopF (fun go x=>f4_l3 a b r2 go x) m) i = some z := hF
    unfold f4_l3 at hF
    refine OL (OL (condI hF (fun hF=>?_) (fun hF=>?_)))
    ·refine OL (OL (EI (.take 0 (.take 1 (.take 2 (.take 3 (.take 4 (.take 5 (.take 6 (.take 7 (.take 8 (.take 9 (.take 10 (.take 11 (.alt 12 (.take 13 .done) .done))))))))))))) (EI [] (EI [] (AI rfl (guardI hF (fun hF=>?_)))))))
     refine guardI hF (fun hF=>?_)
     refine guardI hF (fun hF=>?_)
     refine AI TV ?_
     obtain ⟨q13_12,hq13_12,hF⟩ := bindE hF
     refine OL (AI f11_in (callV0 (callI C11 (((rd (Ty.z T9) a i).1,(rd (Ty.z T9) a i).2),((rd (Ty.z T9) b i).1,(rd (Ty.z T9) b i).2)) q13_12 [] false C11_holds hq13_12 rfl rfl (R4 (AI (fun h=>nomatch h) (R2 (AI TV (AI TV (AI ⟨by kernel_rfl,by kernel_rfl,by decide,by decide⟩ ?_)))))))))
     refine condI hF (fun hF=>?_) (fun hF=>?_)
     ·refine OL ?_
      have hz := someE hF
      subst hz
      refine E4 [] (R2 (AI TV TV))
     refine EI (i64.wrap (i + (1:Int))) (AI hF (E4 [(0,some 0)] (R4 (AI (AI rfl TV) (AI rfl TV)))))
    have hz := someE hF
    subst hz
    refine E4 [] (AI rfl (AI TV TV))
   rcases z4 with z4a | z4b
   ·dsimp only [sumF] at hF
    refine AI ?_ TV
    have hy := someE hF
    subst hy
    refine AI rfl (E4 [] (R2 (AI TV TV)))
   dsimp only [sumF] at hF
   refine AI (OL ?_) TV
   have hy := someE hF
   subst hy
   refine AI rfl (E4 [] (R2 (AI TV TV)))
  dsimp only [sumF] at hF
  refine AI ?_ TV
  have hy := someE hF
  subst hy
  refine AI rfl (E4 [] (R2 (AI TV TV)))
 dsimp only [sumF] at hF
 refine AI ?_ TV
 have hy := someE hF
 subst hy
 refine AI rfl (E4 [] (R2 (AI TV TV)))
theorem C4_holds : C4.Holds Tryz.prog 4 := holds_of_vc tab_ok mixed (fn := Tryz.f4) (by kernel_rfl) rfl C4 (fun x y hF=>C4_vc x.1 x.2 y hF)
theorem f4_in : InP 4 := ⟨Tryz.f4,by kernel_rfl,by kernel_rfl,by kernel_rfl⟩
end Go.Proofs
